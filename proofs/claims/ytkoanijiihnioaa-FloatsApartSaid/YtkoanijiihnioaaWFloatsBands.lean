/-
  The walk of FloatsBands.
-/
import Derived.Test.YtkoanijiihnioaaWFloatsClears
import Derived.Test.YtkoanijiihnioaaFloatL
namespace Go.Proofs.Ytkoanijiihnioaa
open Go.RowKit Num Mem Opn
set_option linter.unusedVariables false
set_option linter.unusedSimpArgs false
set_option maxRecDepth 100000 in
set_option maxHeartbeats 8000000 in
theorem walk_FloatsBands (left width : Int) (A : Option Addr) (l : List Ak) (c : Nat) (y : Int) (w : World) (il : I64 left) (iw : I64 width) (hr : RowA w A l c) (iy : I64 y) :
    Calls Try.prog 10 #[.int .i64 left, .int .i64 width, .slice A l.length c, .int .i64 y] w fun e w' => e = .returned (.bool true) ∧ Below w.heap.size w w' := by
  obtain ⟨hA, hlc, hcp, hx⟩ := hr
  have hy1 := few_lo y
  have hy2 := few_hi y
  have hl1 := few_lo left
  have hl2 := few_hi left
  have hw1 := few_lo width
  have hw2 := few_hi width
  go_enter Try.func10, Try.ntmps10
  go_wp2_with fail
  refine (small_any _ _ il).mono ?_
  rintro e w' ⟨rfl, rfl⟩
  go_wp2_with fail
  refine (small_any _ _ iw).mono ?_
  rintro e w' ⟨rfl, rfl⟩
  generalize few left = L at *
  generalize few width = wd at *
  obtain ⟨W, hW⟩ : ∃ W, (if wd < 0 then -wd else wd) = W := ⟨_, rfl⟩
  have HW := hid hW
  have hW0 : 0 ≤ W := by rw [← hW]; split <;> omega
  have hW1 : W ≤ 16777215 := by rw [← hW]; split <;> omega
  clear hW
  go_upto_if 23 with fail
  go_cut [1] (fun s1 wx => s1 = .int .i64 W ∧ w = wx)
  case first =>
    by_cases h1 : wd < 0
    · have HZ : Hid (-wd = W) := hid (by have := HW.out; rwa [if_pos h1] at this)
      have g1 : decide (wd < 0) = true := by simpa using h1
      go_wp2_with fail
      go_meet
      exact ⟨by rw [HZ.out], rfl⟩
    · have HZ : Hid (wd = W) := hid (by have := HW.out; rwa [if_neg h1] at this)
      have g1 : decide (wd < 0) = false := by simpa using h1
      go_wp2_with fail
      go_meet
      exact ⟨by rw [HZ.out], rfl⟩
  case rest =>
  obtain ⟨rfl, rfl⟩ := hcut
  clear hw1 hw2 HW
  go_wp2_with fail
  refine (room_New _ _ _).mono ?_
  rintro e w1 ⟨rfl, hB, hs, hR⟩
  have he : (binOp .eql 23 (.pointer (some ⟨w.heap.size, 0, none⟩)) (.pointer none)).run Try.prog w1 = .ok (.bool false) w1 := by kernel_rfl
  rw [show sat L = L from sat_id (by omega) (by omega), show max W 0 = W by omega, add_fit (by omega) (by omega) (by omega) (by omega)] at hR
  obtain ⟨R, hRR⟩ : ∃ R, L + W = R := ⟨_, rfl⟩
  rw [hRR] at hR
  have HRR := hid hRR
  have hR1 : L ≤ R := by omega
  have hR2 : R ≤ 33554432 := by omega
  have wRR : IntKind.i64.wrap (L + W) = R := by rw [hRR]; exact IntWalk.i64_in _ (by omega)
  clear hRR
  have hs1 : w.heap.size + 1 ≤ w1.heap.size := by omega
  go_wp2_with fail
  go_loopg [10] l.length (fun g' s10 wr => ∃ (k : Nat) (D : List Fl) (v : Value), g' = l.length - k ∧ k ≤ l.length ∧ k ≤ 30 ∧ s10 = .int .i64 k ∧ D.length = k ∧ Hid (∀ f ∈ D, Bd (33554432 + k * 16777216) L f) ∧ RoomAt wr w.heap.size (w.heap.size + 1) L R D v ∧ w.heap.size + 1 ≤ wr.heap.size ∧ Below w.heap.size w wr)
  case atStart => exact ⟨0, [], _, rfl, Nat.zero_le _, by omega, rfl, rfl, hid (by simp), hR, hs1, hB⟩
  case round =>
    clear hR hs1 hB hs he
    obtain ⟨k, D, v, rfl, hk, hk30, rfl, hD, HBd, hR, hs1, hB⟩ := hrel
    obtain ⟨q, hq⟩ : ∃ q, (decide (k < l.length) && decide (k < 30)) = q := ⟨_, rfl⟩
    have HQ := hid hq
    clear hq
    go_upto_region 9 with fail
    go_cut [38] (fun s30 wx => s30 = .bool q ∧ wr = wx)
    case first =>
      clear wRR
      by_cases h1 : k < l.length
      · by_cases h2 : k < 30
        · have HZ : Hid (q = true) := hid (by rw [← HQ.out]; simp [h1, h2])
          have g2 : decide ((k : Int) < 30) = true := by simp; omega
          go_wp2_with fail
          go_meet
          exact ⟨by rw [HZ.out], rfl⟩
        · have HZ : Hid (q = false) := hid (by rw [← HQ.out]; simp [h2])
          have g2 : decide ((k : Int) < 30) = false := by simp; omega
          go_wp2_with fail
          go_meet
          exact ⟨by rw [HZ.out], rfl⟩
      · have HZ : Hid (q = false) := hid (by rw [← HQ.out]; simp [h1])
        go_wp2_with fail
        go_meet
        exact ⟨by rw [HZ.out], rfl⟩
    case rest =>
    obtain ⟨rfl, rfl⟩ := hcut
    cases q
    · clear hA hx HQ
      have hD40 : D.length ≤ 40 := by omega
      have HBd2 : Hid (∀ f ∈ D, Bd 1000000000 L f) := hid (fun f hf => (HBd.out f hf).more (by omega))
      clear HBd
      generalize hkk : k = kk at *
      go_wp2_with fail
      refine (small_any _ _ iy).mono ?_
      rintro e w' ⟨rfl, rfl⟩
      generalize few y = Y at *
      go_wp2_with fail
      refine (room_Band _ _ L R D v Y _ (by omega) hR).mono ?_
      rintro e w2 ⟨rfl, hb⟩
      replace hR := hR.below hb
      replace hB := hB.trans (hb.mono hB.size)
      clear hb
      have HLO := hid (band_lo Y D L R)
      have HHI := hid (band_hi Y (M := 1016777215) (by omega) (by omega) (by omega) L R HBd2.out (by omega))
      have HCL : Hid (∀ f ∈ D, f.stands Y = true → (f.right = true → (band Y D L R).2 ≤ max (band Y D L R).1 f.x) ∧ (f.right = false → f.fin ≤ (band Y D L R).1)) := hid (fun f hf hs => band_clear Y hs L R hf)
      have HNI : Hid (D = [] → band Y D L R = (L, R)) := hid (fun h => by rw [h]; simp [band]; omega)
      obtain ⟨p, hp⟩ : ∃ p, band Y D L R = p := ⟨_, rfl⟩
      rw [hp] at HLO HHI HCL HNI ⊢
      clear hp
      obtain ⟨a, b⟩ := p
      simp only at HLO HHI HCL ⊢
      obtain ⟨ha1, ha2, ha3⟩ := HLO.out
      have ha4 := HHI.out
      have t1 : decide (b < a) = false := by simp; omega
      have t2 : IntKind.i64.wrap (b - a) = b - a := IntWalk.i64_in _ (by omega)
      have t3 : decide (W < b - a) = false := by have := HRR.out; simp; omega
      have t4 : decide (a < L) = false := by simp; omega
      go_wp2_with fail
      refine (room_All _ _ L R D v _ (by omega) hR).mono ?_
      rintro e w3 ⟨v9, rfl, ho, hb⟩
      replace hR := hR.below hb
      replace hB := hB.trans (hb.mono hB.size)
      clear hb
      obtain ⟨A9, c9, rfl, hc9⟩ := own_some ho
      have hRec := Recs.of_own fl_length (by decide) ho
      clear ho t1 t2 t3 t4 HLO HHI
      go_wp2_with fail
      go_loopg [14] D.length (fun g' s14 wr => ∃ (i : Nat), g' = D.length - i ∧ i ≤ D.length ∧ s14 = .int .i64 i ∧ RoomAt wr w.heap.size (w.heap.size + 1) L R D v ∧ Recs wr wr.heap.size A9 5 Fl.cells D ∧ Below w.heap.size w wr)
      case atStart => exact ⟨0, rfl, Nat.zero_le _, rfl, hR, hRec, hB⟩
      case round =>
        clear hR hRec hB hs1
        obtain ⟨i, rfl, hi, rfl, hR, hRec, hB⟩ := hrel
        by_cases hlt : i < D.length
        · obtain ⟨b9, o9, f, rfl, hb9, hf, -⟩ := hRec.at_ hlt
          obtain ⟨f0, f1, f2, f3, f4⟩ := floats_at hRec hf.out
          have hmem := List.mem_of_getElem? hf.out
          have hBd := HBd2.out f hmem
          have HF := hid (hBd.fin (by omega) (by omega))
          have HT := hid (hBd.bot (by omega) (by omega))
          have HCF := hid (HCL.out f hmem)
          obtain ⟨n1, n2, n3, n4, n5, n6, n7, n8⟩ := hBd
          clear hf hmem
          obtain ⟨r, x, fy, fw, fh⟩ := f
          simp only [Fl.arr] at f0 f1 f2 f3 f4 n1 n2 n3 n4 n5 n6 n7 n8
          have hX : Blk (wr.alloc (.cells #[.int .i64 x, .int .i64 fy, .int .i64 fw, .int .i64 fh] 27)) wr.heap.size 27 #[.int .i64 x, .int .i64 fy, .int .i64 fw, .int .i64 fh] := Blk.new _ _ _
          have hba : Below wr.heap.size wr (wr.alloc (.cells #[.int .i64 x, .int .i64 fy, .int .i64 fw, .int .i64 fh] 27)) := (Below.refl _ _).alloc (Nat.le_refl _) _
          have hS2 : RoomAt (wr.alloc (.cells #[.int .i64 x, .int .i64 fy, .int .i64 fw, .int .i64 fh] 27)) w.heap.size (w.heap.size + 1) L R D v ∧ Recs (wr.alloc (.cells #[.int .i64 x, .int .i64 fy, .int .i64 fw, .int .i64 fh] 27)) (wr.alloc (.cells #[.int .i64 x, .int .i64 fy, .int .i64 fw, .int .i64 fh] 27)).heap.size (some ⟨b9, o9, none⟩) 5 Fl.cells D ∧ Below w.heap.size w (wr.alloc (.cells #[.int .i64 x, .int .i64 fy, .int .i64 fw, .int .i64 fh] 27)) :=
            ⟨hR.below hba, (hRec.below hba).more hba.size, hB.trans (hba.mono hB.size)⟩
          go_upto_region 21 with fail
          refine wp_forget (fun Z => Blk Z wr.heap.size 27 #[.int .i64 x, .int .i64 fy, .int .i64 fw, .int .i64 fh] ∧ RoomAt Z w.heap.size (w.heap.size + 1) L R D v ∧ Recs Z Z.heap.size (some ⟨b9, o9, none⟩) 5 Fl.cells D ∧ Below w.heap.size w Z) ⟨hX, hS2⟩ ?_
          clear hX hS2 hba hR hRec hB f0 f1 f2 f3 f4
          rintro w4 ⟨hX, hR, hRec, hB⟩
          generalize wr.heap.size = gx at *
          go_cut [139] (fun s139 wx => s139 = .bool false ∧ RoomAt wx w.heap.size (w.heap.size + 1) L R D v ∧ Recs wx wx.heap.size (some ⟨b9, o9, none⟩) 5 Fl.cells D ∧ Below w.heap.size w wx)
          case first =>
            have e0 : w4.cell? ⟨gx, 0, none⟩ = some (.int .i64 x) := hX.cell 0
            have e1 : w4.cell? ⟨gx, 1, none⟩ = some (.int .i64 fy) := hX.cell 1
            have e2 : w4.cell? ⟨gx, 2, none⟩ = some (.int .i64 fw) := hX.cell 2
            have e3 : w4.cell? ⟨gx, 3, none⟩ = some (.int .i64 fh) := hX.cell 3
            clear wRR
            go_wp2_with fail
            refine (rect_Empty_b _ _ _ _ _).mono ?_
            rintro e w5 ⟨rfl, hb⟩
            replace hX := hX.below hb hX.lt
            have hfin : RoomAt w5 w.heap.size (w.heap.size + 1) L R D v ∧ Recs w5 w5.heap.size (some ⟨b9, o9, none⟩) 5 Fl.cells D ∧ Below w.heap.size w w5 := ⟨hR.below hb, (hRec.below hb).more hb.size, hB.trans (hb.mono hB.size)⟩
            clear hb e0 e1 e2 e3 hR hRec hB
            have e0 : w5.cell? ⟨gx, 0, none⟩ = some (.int .i64 x) := hX.cell 0
            have e1 : w5.cell? ⟨gx, 1, none⟩ = some (.int .i64 fy) := hX.cell 1
            have e2 : w5.cell? ⟨gx, 2, none⟩ = some (.int .i64 fw) := hX.cell 2
            have e3 : w5.cell? ⟨gx, 3, none⟩ = some (.int .i64 fh) := hX.cell 3
            clear hX
            have W1 : IntKind.i64.wrap (fy + fh) = fy + fh := IntWalk.i64_in _ (by omega)
            have W2 : IntKind.i64.wrap (x + fw) = x + fw := IntWalk.i64_in _ (by omega)
            obtain ⟨em, hem⟩ : ∃ em, emp fw fh = em := ⟨_, rfl⟩
            have HE := hid hem
            rw [hem]
            clear hem
            cases em
            · by_cases c1 : fy ≤ Y
              · have d1 : decide (fy ≤ Y) = true := by simpa using c1
                by_cases c2 : Y < fy + fh
                · have d2 : decide (Y < fy + fh) = true := by simpa using c2
                  by_cases c3 : a < b
                  · have d3 : decide (a < b) = true := by simpa using c3
                    by_cases c4 : x < b
                    · have d4 : decide (x < b) = true := by simpa using c4
                      have hst : Fl.stands ⟨r, x, fy, fw, fh⟩ Y = true := by
                        have h1 := HE.out
                        have h2 := HT.out
                        simp only [Fl.stands, emp_eq, h1, h2, Bool.not_false, Bool.true_and, Bool.and_eq_true, decide_eq_true_eq]
                        exact ⟨c1, c2⟩
                      have d5 : decide (a < x + fw) = false := by
                        have h1 := HCF.out hst
                        have h2 := HF.out
                        try simp only at h1 h2
                        simp only [decide_eq_false_iff_not]
                        cases r
                        · have := h1.2 rfl; omega
                        · have := h1.1 rfl; omega
                      clear c1 c2 c3 c4 hst
                      go_wp2_with fail
                      go_meet
                      exact ⟨rfl, hfin⟩
                    · have d4 : decide (x < b) = false := by simpa using c4
                      clear c1 c2 c3 c4
                      go_wp2_with fail
                      go_meet
                      exact ⟨rfl, hfin⟩
                  · have d3 : decide (a < b) = false := by simpa using c3
                    clear c1 c2 c3
                    go_wp2_with fail
                    go_meet
                    exact ⟨rfl, hfin⟩
                · have d2 : decide (Y < fy + fh) = false := by simpa using c2
                  clear c1 c2
                  go_wp2_with fail
                  go_meet
                  exact ⟨rfl, hfin⟩
              · have d1 : decide (fy ≤ Y) = false := by simpa using c1
                clear c1
                go_wp2_with fail
                go_meet
                exact ⟨rfl, hfin⟩
            · go_wp2_with fail
              go_meet
              exact ⟨rfl, hfin⟩
          case rest =>
          obtain ⟨rfl, hR, hRec, hB⟩ := hcut
          go_wp2_with fail
          go_roundg (D.length - (i + 1))
          case rel => exact ⟨i + 1, rfl, by omega, by go_num, hR, hRec, hB⟩
          case measure => omega
        · obtain rfl : i = D.length := by omega
          clear HCL HBd2
          rcases Nat.eq_zero_or_pos D.length with h0 | h0
          · have hnil : D = [] := List.length_eq_zero_iff.1 h0
            have hab := HNI.out hnil
            simp only [Prod.mk.injEq] at hab
            obtain ⟨rfl, rfl⟩ := hab
            have g0 : ((D.length : Int) == 0) = true := by simp [h0]
            clear h0 hnil HNI
            go_wp2_with fail
            refine (known17 _).mono ?_
            rintro e w8 ⟨rfl, hb⟩
            go_wp2_with fail
            go_ret
            exact ⟨rfl, hB.trans (hb.mono hB.size)⟩
          · have g0 : ((D.length : Int) == 0) = false := beq_eq_false_iff_ne.2 (by omega)
            clear h0 HNI
            go_wp2_with fail
            refine (room_Bottom _ _ L R D v _ (by omega) hR).mono ?_
            rintro e w5 ⟨rfl, hb⟩
            replace hR := hR.below hb
            replace hB := hB.trans (hb.mono hB.size)
            clear hb
            go_wp2_with fail
            refine (room_Clear _ _ L R D v _ 3 _ (by omega) hR).mono ?_
            rintro e w6 ⟨rfl, hb⟩
            rw [clear_again]
            replace hR := hR.below hb
            replace hB := hB.trans (hb.mono hB.size)
            clear hb
            have HN := hid (band_none (clear_ 3 D (-70368744177664)) (D := D) L R (stands_none (Int.le_refl _)))
            generalize clear_ 3 D (-70368744177664) = m at *
            go_wp2_with fail
            refine (room_Band _ _ L R D v m _ (by omega) hR).mono ?_
            rintro e w7 ⟨rfl, hb⟩
            rw [HN.out, show max L R = R by omega]
            replace hB := hB.trans (hb.mono hB.size)
            clear hb hR HN
            go_wp2_with fail
            refine (known17 _).mono ?_
            rintro e w8 ⟨rfl, hb⟩
            go_wp2_with fail
            go_ret
            exact ⟨rfl, hB.trans (hb.mono hB.size)⟩
    · have hlt : k < l.length := by have := HQ.out; simp at this; exact this.1
      have hk29 : k < 30 := by have := HQ.out; simp at this; exact this.2
      clear HQ wRR
      obtain ⟨bq, oq, a, rfl, hbq, hax, q0, q1, q2, q3⟩ := ask_at (hA.below hB) hlt
      obtain ⟨ia1, ia2, ia3⟩ := hx a (List.mem_of_getElem? hax.out)
      have hSQ : ∀ Z, Below w.heap.size wr Z → (fun Z => Z.cell? ⟨bq, oq + k * 4, none⟩ = some (.bool a.right) ∧ Z.cell? ⟨bq, oq + k * 4 + 1, none⟩ = some (.int .i64 a.w) ∧ Z.cell? ⟨bq, oq + k * 4 + 2, none⟩ = some (.int .i64 a.h) ∧ Z.cell? ⟨bq, oq + k * 4 + 3, none⟩ = some (.int .i64 a.from_)) Z := fun Z h => ⟨(h.cell hbq).trans q0, (h.cell hbq).trans q1, (h.cell hbq).trans q2, (h.cell hbq).trans q3⟩
      have hdb : Below w.heap.size wr wr.drew := (Drawn.refl wr).drew.below _
      go_upto_region 11 with fail
      refine wp_region_noPanic ?_
      refine Ord.region_ord (S := fun Z => Z.cell? ⟨bq, oq + k * 4, none⟩ = some (.bool a.right) ∧ Z.cell? ⟨bq, oq + k * 4 + 1, none⟩ = some (.int .i64 a.w) ∧ Z.cell? ⟨bq, oq + k * 4 + 2, none⟩ = some (.int .i64 a.h) ∧ Z.cell? ⟨bq, oq + k * 4 + 3, none⟩ = some (.int .i64 a.from_)) [(0, true), (1, true), (2, true), (3, true), (4, true), (5, true), (6, true), (7, true), (8, true), (9, true), (10, true), (12, true), (13, true), (14, true), (15, true), (16, true), (18, true), (19, true), (20, true), (21, true), (22, true), (11, false), (17, false), (23, false), (24, false)] (by kernel_rfl) (by kernel_rfl) (by kernel_rfl) (by decide) (fun _ _ _ _ _ h => h) (hSQ _ hdb) (fun hS0 => ?_)
      simp only [Ord.lay, List.getElem?_cons_zero, List.getElem?_cons_succ]
      (refine Ord.take (v := ?_) (Or.inl ⟨rfl, ?_⟩) ?_; rotate_left; (intro w hSw; (try dsimp only at hSw); go_simp; try (with_reducible rfl)); (try simp only [Act.put, List.setIfInBounds_toArray, List.set_cons_zero, List.set_cons_succ]))
      (refine Ord.take (v := ?_) (Or.inl ⟨rfl, ?_⟩) ?_; rotate_left; (intro w hSw; (try dsimp only at hSw); go_simp; try (with_reducible rfl)); (try simp only [Act.put, List.setIfInBounds_toArray, List.set_cons_zero, List.set_cons_succ]))
      (refine Ord.take (v := ?_) (Or.inl ⟨rfl, ?_⟩) ?_; rotate_left; (intro w hSw; (try dsimp only at hSw); go_simp; try (with_reducible rfl)); (try simp only [Act.put, List.setIfInBounds_toArray, List.set_cons_zero, List.set_cons_succ]))
      (refine Ord.take (v := ?_) (Or.inl ⟨rfl, ?_⟩) ?_; rotate_left; (intro w hSw; (try dsimp only at hSw); go_simp; try (with_reducible rfl)); (try simp only [Act.put, List.setIfInBounds_toArray, List.set_cons_zero, List.set_cons_succ]))
      (refine Ord.take (v := ?_) (Or.inl ⟨rfl, ?_⟩) ?_; rotate_left; (intro w hSw; (try dsimp only at hSw); go_simp; try (with_reducible rfl)); (try simp only [Act.put, List.setIfInBounds_toArray, List.set_cons_zero, List.set_cons_succ]))
      (refine Ord.take (v := ?_) (Or.inl ⟨rfl, ?_⟩) ?_; rotate_left; (intro w hSw; (try dsimp only at hSw); go_simp; try (with_reducible rfl)); (try simp only [Act.put, List.setIfInBounds_toArray, List.set_cons_zero, List.set_cons_succ]))
      (refine Ord.take (v := ?_) (Or.inl ⟨rfl, ?_⟩) ?_; rotate_left; (intro w hSw; (try dsimp only at hSw); go_simp; try (with_reducible rfl)); (try simp only [Act.put, List.setIfInBounds_toArray, List.set_cons_zero, List.set_cons_succ]))
      (refine Ord.take (v := ?_) (Or.inl ⟨rfl, ?_⟩) ?_; rotate_left; (intro w hSw; (try dsimp only at hSw); go_simp; try (with_reducible rfl)); (try simp only [Act.put, List.setIfInBounds_toArray, List.set_cons_zero, List.set_cons_succ]))
      (refine Ord.take (v := ?_) (Or.inl ⟨rfl, ?_⟩) ?_; rotate_left; (intro w hSw; (try dsimp only at hSw); go_simp; try (with_reducible rfl)); (try simp only [Act.put, List.setIfInBounds_toArray, List.set_cons_zero, List.set_cons_succ]))
      (refine Ord.take (v := ?_) (Or.inl ⟨rfl, ?_⟩) ?_; rotate_left; (intro w hSw; (try dsimp only at hSw); go_simp; try (with_reducible rfl)); (try simp only [Act.put, List.setIfInBounds_toArray, List.set_cons_zero, List.set_cons_succ]))
      (refine Ord.take (v := ?_) (Or.inl ⟨rfl, ?_⟩) ?_; rotate_left; (intro w hSw; (try dsimp only at hSw); go_simp; try (with_reducible rfl)); (try simp only [Act.put, List.setIfInBounds_toArray, List.set_cons_zero, List.set_cons_succ]))
      (refine Ord.take (v := ?_) (Or.inl ⟨rfl, ?_⟩) ?_; rotate_left; (intro w hSw; (try dsimp only at hSw); go_simp; try (with_reducible rfl)); (try simp only [Act.put, List.setIfInBounds_toArray, List.set_cons_zero, List.set_cons_succ]))
      (refine Ord.take (v := ?_) (Or.inl ⟨rfl, ?_⟩) ?_; rotate_left; (intro w hSw; (try dsimp only at hSw); go_simp; try (with_reducible rfl)); (try simp only [Act.put, List.setIfInBounds_toArray, List.set_cons_zero, List.set_cons_succ]))
      (refine Ord.take (v := ?_) (Or.inl ⟨rfl, ?_⟩) ?_; rotate_left; (intro w hSw; (try dsimp only at hSw); go_simp; try (with_reducible rfl)); (try simp only [Act.put, List.setIfInBounds_toArray, List.set_cons_zero, List.set_cons_succ]))
      (refine Ord.take (v := ?_) (Or.inl ⟨rfl, ?_⟩) ?_; rotate_left; (intro w hSw; (try dsimp only at hSw); go_simp; try (with_reducible rfl)); (try simp only [Act.put, List.setIfInBounds_toArray, List.set_cons_zero, List.set_cons_succ]))
      (refine Ord.take (v := ?_) (Or.inl ⟨rfl, ?_⟩) ?_; rotate_left; (intro w hSw; (try dsimp only at hSw); go_simp; try (with_reducible rfl)); (try simp only [Act.put, List.setIfInBounds_toArray, List.set_cons_zero, List.set_cons_succ]))
      (refine Ord.take (v := ?_) (Or.inl ⟨rfl, ?_⟩) ?_; rotate_left; (intro w hSw; (try dsimp only at hSw); go_simp; try (with_reducible rfl)); (try simp only [Act.put, List.setIfInBounds_toArray, List.set_cons_zero, List.set_cons_succ]))
      (refine Ord.take (v := ?_) (Or.inl ⟨rfl, ?_⟩) ?_; rotate_left; (intro w hSw; (try dsimp only at hSw); go_simp; try (with_reducible rfl)); (try simp only [Act.put, List.setIfInBounds_toArray, List.set_cons_zero, List.set_cons_succ]))
      (refine Ord.take (v := ?_) (Or.inl ⟨rfl, ?_⟩) ?_; rotate_left; (intro w hSw; (try dsimp only at hSw); go_simp; try (with_reducible rfl)); (try simp only [Act.put, List.setIfInBounds_toArray, List.set_cons_zero, List.set_cons_succ]))
      (refine Ord.take (v := ?_) (Or.inl ⟨rfl, ?_⟩) ?_; rotate_left; (intro w hSw; (try dsimp only at hSw); go_simp; try (with_reducible rfl)); (try simp only [Act.put, List.setIfInBounds_toArray, List.set_cons_zero, List.set_cons_succ]))
      (refine Ord.take (v := ?_) (Or.inl ⟨rfl, ?_⟩) ?_; rotate_left; (intro w hSw; (try dsimp only at hSw); go_simp; try (with_reducible rfl)); (try simp only [Act.put, List.setIfInBounds_toArray, List.set_cons_zero, List.set_cons_succ]))
      refine Ord.alone rfl (fun K hK => ?_)
      go_simp
      refine (small_any _ _ ia1).mono ?_
      rintro e w9 ⟨rfl, rfl⟩
      go_wp2_with fail
      refine hK.out _ _ (hS0) (fun _ => ?_)
      clear hK K
      (try simp only [Act.put, List.setIfInBounds_toArray, List.set_cons_zero, List.set_cons_succ])
      refine Ord.alone rfl (fun K hK => ?_)
      go_simp
      refine (small_any _ _ ia2).mono ?_
      rintro e w9 ⟨rfl, rfl⟩
      go_wp2_with fail
      refine hK.out _ _ (hS0) (fun _ => ?_)
      clear hK K
      (try simp only [Act.put, List.setIfInBounds_toArray, List.set_cons_zero, List.set_cons_succ])
      refine Ord.alone rfl (fun K hK => ?_)
      go_simp
      refine (small_any _ _ ia3).mono ?_
      rintro e w9 ⟨rfl, rfl⟩
      go_wp2_with fail
      refine hK.out _ _ (hS0) (fun _ => ?_)
      clear hK K
      (try simp only [Act.put, List.setIfInBounds_toArray, List.set_cons_zero, List.set_cons_succ])
      refine Ord.alone rfl (fun K hK => ?_)
      go_simp
      refine (room_Put w.heap.size (w.heap.size + 1) L R D _ a.right (few a.w) (few a.h) (few a.from_) wr.drew (by omega) hs1 (hR.drawn (Drawn.refl wr).drew)).mono ?_
      rintro e w3 ⟨rfl, ⟨v2, hr2⟩, hk2⟩
      have hb3 := hdb.trans (hk2.below _ (Nat.le_refl _) (by omega) hB.size)
      go_wp2_with fail
      refine hK.out _ _ (hSQ _ hb3) (fun _ => ?_)
      clear hK K
      (try simp only [Act.put, List.setIfInBounds_toArray, List.set_cons_zero, List.set_cons_succ])
      refine Ord.done (NoPanic.normal ?_)
      have HBd3 : Hid (∀ f ∈ D ++ [place D L R a.right (few a.w) (few a.h) (few a.from_)], Bd (33554432 + (k + 1 : Nat) * 16777216) L f) := hid (by
        intro f hf
        rcases List.mem_append.1 hf with hf | hf
        · exact (HBd.out f hf).more (by omega)
        · obtain rfl : f = _ := by simpa using hf
          have := (place_bd (w := few a.w) (hh := few a.h) (y := few a.from_) (s := a.right) HBd.out hl1 hR1 hR2 (by omega) (by omega) (few_hi _) (few_hi _) (few_lo _) (few_hi _)).1
          exact this.more (by omega))
      have hB3 := hB.trans hb3
      have hs3 : w.heap.size + 1 ≤ w3.heap.size := by have := hk2.size; simp at this; omega
      clear hk2 hS0 hSQ hR hB hs1 hdb hb3 HBd
      go_wp2_with fail
      go_roundg (l.length - (k + 1))
      case rel => exact ⟨k + 1, _, _, rfl, by omega, by omega, by go_num, by simp [hD], HBd3, hr2, hs3, hB3⟩
      case measure => omega
end Go.Proofs.Ytkoanijiihnioaa
