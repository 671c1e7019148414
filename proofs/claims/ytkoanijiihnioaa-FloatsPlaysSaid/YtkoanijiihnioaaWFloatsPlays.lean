/-
  The walk of FloatsPlays.
-/
import Derived.Test.YtkoanijiihnioaaFloatU
namespace Go.Proofs.Ytkoanijiihnioaa
open Go.RowKit Num Mem Opn
set_option linter.unusedVariables false
set_option linter.unusedSimpArgs false
set_option linter.unusedSimpArgs false
theorem cellP {w Z : World} (h : Drawn w Z) (a : Addr) : Z.cell? a = w.cell? a := by simp [World.cell?, h.heap]
theorem bd_i64 {m L : Int} {f : Fl} (h : Bd m L f) (hL : -16777215 ≤ L) (hm : m ≤ 1073741824) : I64 f.x ∧ I64 f.y ∧ I64 f.w ∧ I64 f.h := by
  obtain ⟨h1, h2, h3, h4, h5, h6, h7, h8⟩ := h
  exact ⟨⟨by omega, by omega⟩, ⟨by omega, by omega⟩, ⟨by omega, by omega⟩, ⟨by omega, by omega⟩⟩
set_option maxRecDepth 100000 in
set_option maxHeartbeats 16000000 in
theorem walk_FloatsPlays (left width : Int) (A : Option Addr) (l : List Ak) (c : Nat) (Ay : Option Addr) (ys : List Int) (cy : Nat) (w : World) (il : I64 left) (iw : I64 width) (hr : RowA w A l c) (hys : Row64 w Ay ys cy) :
    Calls Try.prog 9 #[.int .i64 left, .int .i64 width, .slice A l.length c, .slice Ay ys.length cy] w fun e w' => e = .returned (.bool true) ∧ Below w.heap.size w w' := by
  obtain ⟨hA, hlc, hcp, hx⟩ := hr
  obtain ⟨hY, hyl, hyc, hyx⟩ := hys
  have hl1 := few_lo left
  have hl2 := few_hi left
  have hw1 := few_lo width
  have hw2 := few_hi width
  go_enter Try.func9, Try.ntmps9
  go_wp2_with fail
  refine (small_any _ _ il).mono ?_
  rintro e w' ⟨rfl, rfl⟩
  go_wp2_with fail
  refine (small_any _ _ iw).mono ?_
  rintro e w' ⟨rfl, rfl⟩
  generalize few left = L at *
  generalize few width = wd at *
  obtain ⟨W2, hW2⟩ : ∃ W2, max wd 0 = W2 := ⟨_, rfl⟩
  have hW0 : 0 ≤ W2 := by omega
  have hW1 : W2 ≤ 16777215 := by omega
  obtain ⟨R, hRR⟩ : ∃ R, add L W2 = R := ⟨_, rfl⟩
  have hR0 : R = L + W2 := by rw [← hRR]; exact add_fit (by omega) (by omega) (by omega) (by omega)
  have hR1 : L ≤ R := by omega
  have hR2 : R ≤ 33554432 := by omega
  have HAR := hid hRR
  clear hR0 hw1 hw2
  go_wp2_with fail
  refine (room_New _ _ _).mono ?_
  rintro e w1 ⟨rfl, hB, hs, hR⟩
  rw [show sat L = L from sat_id (by omega) (by omega), hW2, hRR] at hR
  have hz0 : w.heap.size < w1.heap.size := by omega
  clear hs hRR
  go_wp2_with fail
  refine (ref17_New _ _ _).mono ?_
  rintro e w2 ⟨rfl, hB2, hs, hE⟩
  rw [hW2] at hE
  replace hR := hR.below hB2
  have hz1 : w1.heap.size < w2.heap.size := by omega
  replace hB := hB.trans (hB2.mono hB.size)
  clear hs hB2 hW2
  obtain ⟨g1, hg1⟩ : ∃ g1, w.heap.size = g1 := ⟨_, rfl⟩
  obtain ⟨g2, hg2⟩ : ∃ g2, w1.heap.size = g2 := ⟨_, rfl⟩
  rw [hg1] at hR hB hz0 hA hY ⊢
  rw [hg2] at hE hz0 hz1 ⊢
  have HGW := hid hg1
  clear hg1 hg2
  have hg12 : g1 ≠ g2 := by omega
  have he : (binOp .eql 23 (.pointer (some ⟨g1, 0, none⟩)) (.pointer none)).run Try.prog w2 = .ok (.bool false) w2 := by kernel_rfl
  go_wp2_with fail
  go_loopg [11] l.length (fun g' s11 wr => ∃ (k : Nat) (D : List Fl) (v vr : Value), g' = l.length - k ∧ k ≤ l.length ∧ k ≤ 40 ∧ s11 = .int .i64 k ∧ D.length = k ∧ Hid (∀ f ∈ D, Bd (33554432 + k * 16777216) L f) ∧ RoomAt wr g1 (g1 + 1) L R D v ∧ RefAt wr g2 (g2 + 1) L W2 D vr ∧ g2 < wr.heap.size ∧ Below g1 w wr)
  case atStart => exact ⟨0, [], _, _, rfl, Nat.zero_le _, by omega, rfl, rfl, hid (by simp), hR, hE, hz1, hB⟩
  case round =>
    clear hR hE hz1 hB he
    obtain ⟨k, D, v, vr, rfl, hk, hk40, rfl, hD, HBd, hR, hE, hs1, hB⟩ := hrel
    obtain ⟨q, hq⟩ : ∃ q, (decide (k < l.length) && decide (k < 40)) = q := ⟨_, rfl⟩
    have HQ := hid hq
    clear hq
    go_upto_region 8 with fail
    go_cut [45] (fun s45 wx => s45 = .bool q ∧ wr = wx)
    case first =>
      by_cases h1 : k < l.length
      · by_cases h2 : k < 40
        · have HZ : Hid (q = true) := hid (by rw [← HQ.out]; simp [h1, h2])
          have g2' : decide ((k : Int) < 40) = true := by simp; omega
          go_wp2_with fail
          go_meet
          exact ⟨by rw [HZ.out], rfl⟩
        · have HZ : Hid (q = false) := hid (by rw [← HQ.out]; simp [h2])
          have g2' : decide ((k : Int) < 40) = false := by simp; omega
          go_wp2_with fail
          go_meet
          exact ⟨by rw [HZ.out], rfl⟩
      · have HZ : Hid (q = false) := hid (by rw [← HQ.out]; simp [h1])
        go_wp2_with fail
        go_meet
        exact ⟨by rw [HZ.out], rfl⟩
    case rest =>
    obtain ⟨rfl, rfl⟩ := hcut
    cases q
    · clear hA hx hY hyx HQ hlc hcp hyl hyc
      have hD40 : D.length ≤ 40 := by omega
      have HBd2 : Hid (∀ f ∈ D, Bd 1000000000 L f) := hid (fun f hf => (HBd.out f hf).more (by omega))
      clear HBd
      go_wp2_with fail
      refine (room_All g1 (g1 + 1) L R D v _ (by omega) hR).mono ?_
      rintro e w3 ⟨v3, rfl, ho3, hb3⟩
      obtain ⟨A3, c3, rfl, hc3⟩ := own_some ho3
      have hX : Recs w3 w3.heap.size A3 5 Fl.cells D := Recs.of_own fl_length (by decide) ho3
      replace hE := hE.below hb3
      have hB3 := hB.trans (hb3.mono (by omega))
      clear hb3 ho3 hR hB
      obtain ⟨A4, c4, rfl, hc4⟩ := own_some hE.own
      have hY4 : Recs w3 w3.heap.size A4 5 Fl.cells D := Recs.of_own fl_length (by decide) hE.own
      have z2 : w3.cell? ⟨g2, 2, none⟩ = some (.slice A4 D.length c4) := hE.blk.cell 2
      have hgl := hE.blk.lt
      have dne : ((D.length : Int) != (D.length : Int)) = false := by simp
      clear hE
      have hzz := hB3.size
      go_wp2_with fail
      go_loopw [25] (fun s25 wr => ∃ j : Nat, j ≤ D.length ∧ s25 = .int .i64 j ∧ Drawn w3 wr) (fun i _ => D.length - (intOf i).toNat)
      case atStart => exact ⟨0, Nat.zero_le _, rfl, .refl _⟩
      case round =>
        obtain ⟨j, hj, rfl, hd⟩ := hrel
        by_cases hlt : j < D.length
        · have dj : decide ((j : Int) < (D.length : Int)) = true := decide_eq_true (by omega)
          obtain ⟨bx, ox, f, rfl, hbx, hf, -⟩ := (hX.drawn hd).at_ hlt
          obtain ⟨by_, oy, f', rfl, hby, hf', -⟩ := (hY4.drawn hd).at_ hlt
          obtain rfl : f = f' := by have h1 := hf.out; have h2 := hf'.out; rw [h1] at h2; exact Option.some.inj h2
          have hBf := HBd2.out f (List.mem_of_getElem? hf.out)
          obtain ⟨i1, i2, i3, i4⟩ := bd_i64 hBf (by omega) (by omega)
          have r1 : wr.drew.rangeAt bx (ox + j * 5) (fl5 f.right f.x f.y f.w f.h).toList := fls_range (hX.drawn hd) hf.out
          have r2 : wr.drew.rangeAt by_ (oy + j * 5 + 1) (rect4 f.x f.y f.w f.h).toList := fls_rect (hY4.drawn hd) hf.out
          have r3 : wr.drew.cell? ⟨by_, oy + j * 5, none⟩ = some (.bool f.right) := (floats_at (hY4.drawn hd) hf.out).1
          have r4 : wr.drew.cell? ⟨g2, 2, none⟩ = some (.slice (some ⟨by_, oy, none⟩) D.length c4) := (cellP hd.drew _).trans z2
          have hneq : ∀ w, (binOp .neq 38 (.agg (fl5 f.right f.x f.y f.w f.h)) (.agg (fl5 f.right f.x f.y f.w f.h))).run Try.prog w = .ok (.bool false) w := neq_fl5 _ _ _ _ _ i1 i2 i3 i4
          have hneq2 : ∀ w, (binOp .neq 38 (.agg (fl5 f.right f.x f.y f.w f.h)) (.agg #[.bool f.right, .int .i64 f.x, .int .i64 f.y, .int .i64 f.w, .int .i64 f.h])).run Try.prog w = .ok (.bool false) w := hneq
          have hneq3 : ∀ w, (binOp .neq 38 (.agg #[.bool f.right, .int .i64 f.x, .int .i64 f.y, .int .i64 f.w, .int .i64 f.h]) (.agg #[.bool f.right, .int .i64 f.x, .int .i64 f.y, .int .i64 f.w, .int .i64 f.h])).run Try.prog w = .ok (.bool false) w := hneq
          clear i1 i2 i3 i4 hBf
          go_upto_region 34 with fail
          refine wp_region_noPanic ?_
          refine Ord.region_Q (S := fun Z : World => Z.rangeAt bx (ox + j * 5) (fl5 f.right f.x f.y f.w f.h).toList ∧ Z.rangeAt by_ (oy + j * 5 + 1) (rect4 f.x f.y f.w f.h).toList ∧ Z.cell? ⟨by_, oy + j * 5, none⟩ = some (.bool f.right) ∧ Z.cell? ⟨g2, 2, none⟩ = some (.slice (some ⟨by_, oy, none⟩) D.length c4)) 999 (.one 0 true (.one 1 true (.one 2 true (.one 3 true (.one 4 true (.one 5 true (.one 6 true (.one 7 true (.one 8 true (.one 9 true (.one 10 true (.one 11 true (.one 12 true (.one 13 true (.one 14 true (.one 15 true (.one 16 true (.one 17 true (.one 18 true (.one 19 true (.one 20 true (.one 21 true .nil)))))))))))))))))))))) (by kernel_rfl) (by kernel_rfl) (by kernel_rfl) (by decide) (fun _ _ _ _ _ h => h) (⟨r1, r2, r3, r4⟩) (fun hS0 => ?_)
          simp only [Ord.layT, List.getElem?_cons_zero, List.getElem?_cons_succ]
          (refine Ord.takeQ (v := ?_) (Or.inl ⟨rfl, ?_⟩) ?_; rotate_left; (intro w hSw; (try dsimp only at hSw); go_simp; try (with_reducible rfl)); (try simp only [Act.put, List.setIfInBounds_toArray, List.set_cons_zero, List.set_cons_succ]))
          (refine Ord.takeQ (v := ?_) (Or.inl ⟨rfl, ?_⟩) ?_; rotate_left; (intro w hSw; (try dsimp only at hSw); go_simp; try (with_reducible rfl)); (try simp only [Act.put, List.setIfInBounds_toArray, List.set_cons_zero, List.set_cons_succ]))
          (refine Ord.takeQ (v := ?_) (Or.inl ⟨rfl, ?_⟩) ?_; rotate_left; (intro w hSw; (try dsimp only at hSw); go_simp; try (with_reducible rfl)); (try simp only [Act.put, List.setIfInBounds_toArray, List.set_cons_zero, List.set_cons_succ]))
          (refine Ord.takeQ (yieldsIf_load_mid rfl _ _ rfl bx (ox + j * 5) rfl _ _ (fun w' h => h.1) Try.underlying38 rfl (info_fl5_list _ _ _ _ _)) ?_; (try simp only [Act.put, List.setIfInBounds_toArray, List.set_cons_zero, List.set_cons_succ]))
          (refine Ord.takeQ (v := ?_) (Or.inl ⟨rfl, ?_⟩) ?_; rotate_left; (intro w hSw; (try dsimp only at hSw); go_simp; try (with_reducible rfl)); (try simp only [Act.put, List.setIfInBounds_toArray, List.set_cons_zero, List.set_cons_succ]))
          (refine Ord.takeQ (v := ?_) (Or.inl ⟨rfl, ?_⟩) ?_; rotate_left; (intro w hSw; (try dsimp only at hSw); go_simp; try (with_reducible rfl)); (try simp only [Act.put, List.setIfInBounds_toArray, List.set_cons_zero, List.set_cons_succ]))
          (refine Ord.takeQ (v := ?_) (Or.inl ⟨rfl, ?_⟩) ?_; rotate_left; (intro w hSw; (try dsimp only at hSw); go_simp; try (with_reducible rfl)); (try simp only [Act.put, List.setIfInBounds_toArray, List.set_cons_zero, List.set_cons_succ]))
          (refine Ord.takeQ (v := ?_) (Or.inl ⟨rfl, ?_⟩) ?_; rotate_left; (intro w hSw; (try dsimp only at hSw); go_simp; try (with_reducible rfl)); (try simp only [Act.put, List.setIfInBounds_toArray, List.set_cons_zero, List.set_cons_succ]))
          (refine Ord.takeQ (v := ?_) (Or.inl ⟨rfl, ?_⟩) ?_; rotate_left; (intro w hSw; (try dsimp only at hSw); go_simp; try (with_reducible rfl)); (try simp only [Act.put, List.setIfInBounds_toArray, List.set_cons_zero, List.set_cons_succ]))
          (refine Ord.takeQ (v := ?_) (Or.inl ⟨rfl, ?_⟩) ?_; rotate_left; (intro w hSw; (try dsimp only at hSw); go_simp; try (with_reducible rfl)); (try simp only [Act.put, List.setIfInBounds_toArray, List.set_cons_zero, List.set_cons_succ]))
          (refine Ord.takeQ (v := ?_) (Or.inl ⟨rfl, ?_⟩) ?_; rotate_left; (intro w hSw; (try dsimp only at hSw); go_simp; try (with_reducible rfl)); (try simp only [Act.put, List.setIfInBounds_toArray, List.set_cons_zero, List.set_cons_succ]))
          (refine Ord.takeQ (v := ?_) (Or.inl ⟨rfl, ?_⟩) ?_; rotate_left; (intro w hSw; (try dsimp only at hSw); go_simp; try (with_reducible rfl)); (try simp only [Act.put, List.setIfInBounds_toArray, List.set_cons_zero, List.set_cons_succ]))
          (refine Ord.takeQ (v := ?_) (Or.inl ⟨rfl, ?_⟩) ?_; rotate_left; (intro w hSw; (try dsimp only at hSw); go_simp; try (with_reducible rfl)); (try simp only [Act.put, List.setIfInBounds_toArray, List.set_cons_zero, List.set_cons_succ]))
          (refine Ord.takeQ (v := ?_) (Or.inl ⟨rfl, ?_⟩) ?_; rotate_left; (intro w hSw; (try dsimp only at hSw); go_simp; try (with_reducible rfl)); (try simp only [Act.put, List.setIfInBounds_toArray, List.set_cons_zero, List.set_cons_succ]))
          (refine Ord.takeQ (v := ?_) (Or.inl ⟨rfl, ?_⟩) ?_; rotate_left; (intro w hSw; (try dsimp only at hSw); go_simp; try (with_reducible rfl)); (try simp only [Act.put, List.setIfInBounds_toArray, List.set_cons_zero, List.set_cons_succ]))
          (refine Ord.takeQ (v := ?_) (Or.inl ⟨rfl, ?_⟩) ?_; rotate_left; (intro w hSw; (try dsimp only at hSw); go_simp; try (with_reducible rfl)); (try simp only [Act.put, List.setIfInBounds_toArray, List.set_cons_zero, List.set_cons_succ]))
          (refine Ord.takeQ (v := ?_) (Or.inl ⟨rfl, ?_⟩) ?_; rotate_left; (intro w hSw; (try dsimp only at hSw); go_simp; try (with_reducible rfl)); (try simp only [Act.put, List.setIfInBounds_toArray, List.set_cons_zero, List.set_cons_succ]))
          (refine Ord.takeQ (v := ?_) (Or.inl ⟨rfl, ?_⟩) ?_; rotate_left; (intro w hSw; (try dsimp only at hSw); go_simp; try (with_reducible rfl)); (try simp only [Act.put, List.setIfInBounds_toArray, List.set_cons_zero, List.set_cons_succ]))
          (refine Ord.takeQ (v := ?_) (Or.inl ⟨rfl, ?_⟩) ?_; rotate_left; (intro w hSw; (try dsimp only at hSw); go_simp; try (with_reducible rfl)); (try simp only [Act.put, List.setIfInBounds_toArray, List.set_cons_zero, List.set_cons_succ]))
          (refine Ord.takeQ (yieldsIf_load_mid rfl _ _ rfl by_ (oy + j * 5 + 1) rfl _ _ (fun w' h => h.2.1) Try.underlying27 rfl (info_rect_list _ _ _ _)) ?_; (try simp only [Act.put, List.setIfInBounds_toArray, List.set_cons_zero, List.set_cons_succ]))
          (refine Ord.takeQ (v := .agg #[.bool f.right, .int .i64 f.x, .int .i64 f.y, .int .i64 f.w, .int .i64 f.h]) (Or.inl ⟨rfl, fun w _ => by kernel_rfl⟩) ?_; (try simp only [Act.put, List.setIfInBounds_toArray, List.set_cons_zero, List.set_cons_succ]))
          (refine Ord.takeQ (v := ?_) (Or.inl ⟨rfl, ?_⟩) ?_; rotate_left; (intro w hSw; (try dsimp only at hSw); go_simp; try (with_reducible rfl)); (try simp only [Act.put, List.setIfInBounds_toArray, List.set_cons_zero, List.set_cons_succ]))
          refine Ord.doneQ (NoPanic.normal ?_)
          clear hS0 r1 r2 r3 r4
          go_wp2_with fail
          go_roundw
          case rel => exact ⟨j + 1, by omega, by go_num, hd.drew⟩
          case measure => simp [intOf]; omega
        · obtain rfl : j = D.length := by omega
          have dj : decide ((D.length : Int) < (D.length : Int)) = false := by simp
          have hB4 := hB3.trans (hd.below _)
          clear hX hY4 z2
          go_wp2_with fail
          refine (known17 _).mono ?_
          rintro e w10 ⟨rfl, hb10⟩
          go_wp2_with fail
          go_ret
          exact ⟨rfl, by rw [HGW.out]; exact hB4.trans (hb10.mono (by have := hB4.size; have h9 := HGW.out; omega))⟩
    · have hlt : k < l.length := by have := HQ.out; simp at this; exact this.1
      have hk39 : k < 40 := by have := HQ.out; simp at this; exact this.2
      clear HQ
      obtain ⟨bq, oq, a, rfl, hbq, hax, q0, q1, q2, q3⟩ := ask_at (hA.below hB) hlt
      obtain ⟨ia1, ia2, ia3⟩ := hx a (List.mem_of_getElem? hax.out)
      have hQ : ∀ Z, Below g1 wr Z → (fun Z : World => Z.cell? ⟨bq, oq + k * 4, none⟩ = some (.bool a.right) ∧ Z.cell? ⟨bq, oq + k * 4 + 1, none⟩ = some (.int .i64 a.w) ∧ Z.cell? ⟨bq, oq + k * 4 + 2, none⟩ = some (.int .i64 a.h) ∧ Z.cell? ⟨bq, oq + k * 4 + 3, none⟩ = some (.int .i64 a.from_)) Z := fun Z h => ⟨(h.cell hbq).trans q0, (h.cell hbq).trans q1, (h.cell hbq).trans q2, (h.cell hbq).trans q3⟩
      have hdb : Below g1 wr wr.drew := (Drawn.refl wr).drew.below _
      have hRd : RoomAt wr.drew g1 (g1 + 1) L R D v := hR.drawn (Drawn.refl wr).drew
      have hEd : RefAt wr.drew g2 (g2 + 1) L W2 D vr := hE.drawn (Drawn.refl wr).drew
      have HBN : Hid (Bd (33554432 + k * 16777216 + 16777216) L (place D L R a.right (few a.w) (few a.h) (few a.from_))) := hid ((place_bd HBd.out (by omega) hR1 hR2 (by omega) (by omega) (few_hi _) (few_hi _) (few_lo _) (few_hi _)).1)
      have HS3 : Hid (sat (few a.from_) = few a.from_) := hid (sat_id (by have := few_lo a.from_; omega) (by have := few_hi a.from_; omega))
      obtain ⟨F, hF⟩ : ∃ F, place D L R a.right (few a.w) (few a.h) (few a.from_) = F := ⟨_, rfl⟩
      have HFe := hid hF
      rw [hF] at HBN
      clear hF hR hE q0 q1 q2 q3
      go_upto_region 10 with fail
      go_cut [12] (fun s wz => ∃ (b : Nat) (v2 : Value), s = .pointer (some ⟨b, 0, none⟩) ∧ wr.heap.size ≤ b ∧ Blk wz b 27 (rect4 F.x F.y F.w F.h) ∧ RoomAt wz g1 (g1 + 1) L R (D ++ [F]) v2 ∧ RefAt wz g2 (g2 + 1) L W2 D vr ∧ Below g1 wr wz)
      case first =>
        refine wp_region_noPanic ?_
        refine Ord.region_Q (S := fun Z : World => Z.cell? ⟨bq, oq + k * 4, none⟩ = some (.bool a.right) ∧ Z.cell? ⟨bq, oq + k * 4 + 1, none⟩ = some (.int .i64 a.w) ∧ Z.cell? ⟨bq, oq + k * 4 + 2, none⟩ = some (.int .i64 a.h) ∧ Z.cell? ⟨bq, oq + k * 4 + 3, none⟩ = some (.int .i64 a.from_)) 26 (.one 0 true (.one 1 true (.one 2 true (.one 3 true (.one 4 true (.one 5 true (.one 6 true (.one 7 true (.one 8 true (.one 9 true (.one 10 true (.one 11 true (.one 12 true (.one 13 true (.one 14 true (.one 15 true (.one 16 true (.one 17 true (.one 18 true (.one 19 true (.one 20 true (.one 21 true (.one 22 true (.one 23 true (.two 24 (.one 25 false (.one 26 false .nil)) 25 (.one 24 false (.one 26 false .nil))))))))))))))))))))))))))) (by kernel_rfl) (by kernel_rfl) (by kernel_rfl) (by decide) (fun _ _ _ _ _ h => h) (hQ _ hdb) (fun hS0 => ?_)
        simp only [Ord.layT, List.getElem?_cons_zero, List.getElem?_cons_succ]
        (refine Ord.takeQ (v := ?_) (Or.inl ⟨rfl, ?_⟩) ?_; rotate_left; (intro w hSw; (try dsimp only at hSw); go_simp; try (with_reducible rfl)); (try simp only [Act.put, List.setIfInBounds_toArray, List.set_cons_zero, List.set_cons_succ]))
        (refine Ord.takeQ (v := ?_) (Or.inl ⟨rfl, ?_⟩) ?_; rotate_left; (intro w hSw; (try dsimp only at hSw); go_simp; try (with_reducible rfl)); (try simp only [Act.put, List.setIfInBounds_toArray, List.set_cons_zero, List.set_cons_succ]))
        (refine Ord.takeQ (v := ?_) (Or.inl ⟨rfl, ?_⟩) ?_; rotate_left; (intro w hSw; (try dsimp only at hSw); go_simp; try (with_reducible rfl)); (try simp only [Act.put, List.setIfInBounds_toArray, List.set_cons_zero, List.set_cons_succ]))
        (refine Ord.takeQ (v := ?_) (Or.inl ⟨rfl, ?_⟩) ?_; rotate_left; (intro w hSw; (try dsimp only at hSw); go_simp; try (with_reducible rfl)); (try simp only [Act.put, List.setIfInBounds_toArray, List.set_cons_zero, List.set_cons_succ]))
        (refine Ord.takeQ (v := ?_) (Or.inl ⟨rfl, ?_⟩) ?_; rotate_left; (intro w hSw; (try dsimp only at hSw); go_simp; try (with_reducible rfl)); (try simp only [Act.put, List.setIfInBounds_toArray, List.set_cons_zero, List.set_cons_succ]))
        (refine Ord.takeQ (v := ?_) (Or.inl ⟨rfl, ?_⟩) ?_; rotate_left; (intro w hSw; (try dsimp only at hSw); go_simp; try (with_reducible rfl)); (try simp only [Act.put, List.setIfInBounds_toArray, List.set_cons_zero, List.set_cons_succ]))
        (refine Ord.takeQ (v := ?_) (Or.inl ⟨rfl, ?_⟩) ?_; rotate_left; (intro w hSw; (try dsimp only at hSw); go_simp; try (with_reducible rfl)); (try simp only [Act.put, List.setIfInBounds_toArray, List.set_cons_zero, List.set_cons_succ]))
        (refine Ord.takeQ (v := ?_) (Or.inl ⟨rfl, ?_⟩) ?_; rotate_left; (intro w hSw; (try dsimp only at hSw); go_simp; try (with_reducible rfl)); (try simp only [Act.put, List.setIfInBounds_toArray, List.set_cons_zero, List.set_cons_succ]))
        (refine Ord.takeQ (v := ?_) (Or.inl ⟨rfl, ?_⟩) ?_; rotate_left; (intro w hSw; (try dsimp only at hSw); go_simp; try (with_reducible rfl)); (try simp only [Act.put, List.setIfInBounds_toArray, List.set_cons_zero, List.set_cons_succ]))
        (refine Ord.takeQ (v := ?_) (Or.inl ⟨rfl, ?_⟩) ?_; rotate_left; (intro w hSw; (try dsimp only at hSw); go_simp; try (with_reducible rfl)); (try simp only [Act.put, List.setIfInBounds_toArray, List.set_cons_zero, List.set_cons_succ]))
        (refine Ord.takeQ (v := ?_) (Or.inl ⟨rfl, ?_⟩) ?_; rotate_left; (intro w hSw; (try dsimp only at hSw); go_simp; try (with_reducible rfl)); (try simp only [Act.put, List.setIfInBounds_toArray, List.set_cons_zero, List.set_cons_succ]))
        (refine Ord.takeC 15 #[.int .i64 a.w] rfl (fun _ _ => by kernel_rfl) (fun w hSw => small_any _ _ ia1) ?_; (try simp only [Act.put, List.setIfInBounds_toArray, List.set_cons_zero, List.set_cons_succ]))
        (refine Ord.takeQ (v := ?_) (Or.inl ⟨rfl, ?_⟩) ?_; rotate_left; (intro w hSw; (try dsimp only at hSw); go_simp; try (with_reducible rfl)); (try simp only [Act.put, List.setIfInBounds_toArray, List.set_cons_zero, List.set_cons_succ]))
        (refine Ord.takeQ (v := ?_) (Or.inl ⟨rfl, ?_⟩) ?_; rotate_left; (intro w hSw; (try dsimp only at hSw); go_simp; try (with_reducible rfl)); (try simp only [Act.put, List.setIfInBounds_toArray, List.set_cons_zero, List.set_cons_succ]))
        (refine Ord.takeQ (v := ?_) (Or.inl ⟨rfl, ?_⟩) ?_; rotate_left; (intro w hSw; (try dsimp only at hSw); go_simp; try (with_reducible rfl)); (try simp only [Act.put, List.setIfInBounds_toArray, List.set_cons_zero, List.set_cons_succ]))
        (refine Ord.takeQ (v := ?_) (Or.inl ⟨rfl, ?_⟩) ?_; rotate_left; (intro w hSw; (try dsimp only at hSw); go_simp; try (with_reducible rfl)); (try simp only [Act.put, List.setIfInBounds_toArray, List.set_cons_zero, List.set_cons_succ]))
        (refine Ord.takeQ (v := ?_) (Or.inl ⟨rfl, ?_⟩) ?_; rotate_left; (intro w hSw; (try dsimp only at hSw); go_simp; try (with_reducible rfl)); (try simp only [Act.put, List.setIfInBounds_toArray, List.set_cons_zero, List.set_cons_succ]))
        (refine Ord.takeC 15 #[.int .i64 a.h] rfl (fun _ _ => by kernel_rfl) (fun w hSw => small_any _ _ ia2) ?_; (try simp only [Act.put, List.setIfInBounds_toArray, List.set_cons_zero, List.set_cons_succ]))
        (refine Ord.takeQ (v := ?_) (Or.inl ⟨rfl, ?_⟩) ?_; rotate_left; (intro w hSw; (try dsimp only at hSw); go_simp; try (with_reducible rfl)); (try simp only [Act.put, List.setIfInBounds_toArray, List.set_cons_zero, List.set_cons_succ]))
        (refine Ord.takeQ (v := ?_) (Or.inl ⟨rfl, ?_⟩) ?_; rotate_left; (intro w hSw; (try dsimp only at hSw); go_simp; try (with_reducible rfl)); (try simp only [Act.put, List.setIfInBounds_toArray, List.set_cons_zero, List.set_cons_succ]))
        (refine Ord.takeQ (v := ?_) (Or.inl ⟨rfl, ?_⟩) ?_; rotate_left; (intro w hSw; (try dsimp only at hSw); go_simp; try (with_reducible rfl)); (try simp only [Act.put, List.setIfInBounds_toArray, List.set_cons_zero, List.set_cons_succ]))
        (refine Ord.takeQ (v := ?_) (Or.inl ⟨rfl, ?_⟩) ?_; rotate_left; (intro w hSw; (try dsimp only at hSw); go_simp; try (with_reducible rfl)); (try simp only [Act.put, List.setIfInBounds_toArray, List.set_cons_zero, List.set_cons_succ]))
        (refine Ord.takeQ (v := ?_) (Or.inl ⟨rfl, ?_⟩) ?_; rotate_left; (intro w hSw; (try dsimp only at hSw); go_simp; try (with_reducible rfl)); (try simp only [Act.put, List.setIfInBounds_toArray, List.set_cons_zero, List.set_cons_succ]))
        (refine Ord.takeC 15 #[.int .i64 a.from_] rfl (fun _ _ => by kernel_rfl) (fun w hSw => small_any _ _ ia3) ?_; (try simp only [Act.put, List.setIfInBounds_toArray, List.set_cons_zero, List.set_cons_succ]))
        refine Ord.twoQ rfl rfl rfl rfl (fun K hK => ?_) (fun K hK => ?_)
        · go_simp
          have hput := room_Put g1 (g1 + 1) L R D _ a.right (few a.w) (few a.h) (few a.from_) wr.drew (by omega) (by simp; omega) hRd
          rw [HFe.out] at hput
          refine hput.mono ?_
          clear hput
          rintro e w5 ⟨rfl, ⟨v5, hr5⟩, hk5⟩
          have he5 := RefAt.over hEd hk5 hg12.symm hRd.blk (by decide)
          have hb5 : Below g1 wr w5 := hdb.trans (hk5.below _ (by omega) (by omega) (by simp; omega))
          go_wp2_with fail
          (try simp only [Act.put, List.setIfInBounds_toArray, List.set_cons_zero, List.set_cons_succ])
          refine hK.out _ _ (hQ _ hb5) (fun _ => ?_)
          clear hK K
          refine Ord.aloneQ rfl rfl (fun K hK => ?_)
          have hbz : Below g1 wr (w5.alloc (.cells (rect4 0 0 0 0) 27)) := hb5.alloc (by have := hb5.size; omega) _
          have hZ : Blk (w5.alloc (.cells (rect4 0 0 0 0) 27)) w5.heap.size 27 (rect4 0 0 0 0) := Blk.new _ _ _
          have hrz := hr5.below ((Below.refl w5.heap.size w5).alloc (Nat.le_refl _) (.cells (rect4 0 0 0 0) 27))
          have hez := he5.below ((Below.refl w5.heap.size w5).alloc (Nat.le_refl _) (.cells (rect4 0 0 0 0) 27))
          have hz5 := hb5.size
          go_simp
          (try simp only [Act.put, List.setIfInBounds_toArray, List.set_cons_zero, List.set_cons_succ])
          refine hK.out _ _ (hQ _ hbz) (fun _ => ?_)
          clear hK K
          refine Ord.lastQ rfl rfl (fun K hK => ?_)
          refine wp_store_row 27 _ _ rfl w5.heap.size (rect4 F.x F.y F.w F.h) rfl rfl 27 (rect4 0 0 0 0) hZ rfl (info_rect4 _ _ _ _) (rect_one _ _ _ _) ?_
          intro w6 hb6 hc6
          (try simp only [Act.put, List.setIfInBounds_toArray, List.set_cons_zero, List.set_cons_succ])
          refine hK.out _ _ ?_
          clear hK K
          refine Ord.doneQ (NoPanic.normal ?_)
          go_wp2_with fail
          go_meet
          exact ⟨_, _, rfl, by omega, hb6, hrz.chg hZ hc6, hez.chg hZ hc6, hbz.trans (hc6.below (by omega))⟩
        · have hba : Below g1 wr (wr.drew.alloc (.cells (rect4 0 0 0 0) 27)) := hdb.alloc (by simp; omega) _
          have hZ : Blk (wr.drew.alloc (.cells (rect4 0 0 0 0) 27)) wr.heap.size 27 (rect4 0 0 0 0) := Blk.new _ _ _
          have hRa := hRd.below ((Below.refl wr.drew.heap.size wr.drew).alloc (Nat.le_refl _) (.cells (rect4 0 0 0 0) 27))
          have hEa := hEd.below ((Below.refl wr.drew.heap.size wr.drew).alloc (Nat.le_refl _) (.cells (rect4 0 0 0 0) 27))
          go_simp
          (try simp only [Act.put, List.setIfInBounds_toArray, List.set_cons_zero, List.set_cons_succ])
          refine hK.out _ _ (hQ _ hba) (fun _ => ?_)
          clear hK K
          refine Ord.aloneQ rfl rfl (fun K hK => ?_)
          go_simp
          have hput := room_Put g1 (g1 + 1) L R D _ a.right (few a.w) (few a.h) (few a.from_) (wr.drew.alloc (.cells (rect4 0 0 0 0) 27)) (by omega) (by simp; omega) hRa
          rw [HFe.out] at hput
          refine hput.mono ?_
          clear hput
          rintro e w5 ⟨rfl, ⟨v5, hr5⟩, hk5⟩
          have he5 := RefAt.over hEa hk5 hg12.symm hRa.blk (by decide)
          have hZ5 := hk5.blk hZ (by omega) (by decide)
          have hbz : Below g1 wr w5 := hba.trans (hk5.below _ (by omega) (by omega) (by simp; omega))
          have hrz := hr5
          have hez := he5
          go_wp2_with fail
          (try simp only [Act.put, List.setIfInBounds_toArray, List.set_cons_zero, List.set_cons_succ])
          refine hK.out _ _ (hQ _ hbz) (fun _ => ?_)
          clear hK K
          refine Ord.lastQ rfl rfl (fun K hK => ?_)
          refine wp_store_row 27 _ _ rfl wr.heap.size (rect4 F.x F.y F.w F.h) rfl rfl 27 (rect4 0 0 0 0) hZ5 rfl (info_rect4 _ _ _ _) (rect_one _ _ _ _) ?_
          intro w6 hb6 hc6
          (try simp only [Act.put, List.setIfInBounds_toArray, List.set_cons_zero, List.set_cons_succ])
          refine hK.out _ _ ?_
          clear hK K
          refine Ord.doneQ (NoPanic.normal ?_)
          go_wp2_with fail
          go_meet
          exact ⟨_, _, rfl, by omega, hb6, hrz.chg hZ5 hc6, hez.chg hZ5 hc6, hbz.trans (hc6.below (by omega))⟩
      case rest =>
      obtain ⟨b12, v2, rfl, hb12, hX12, hR, hE, hbx⟩ := hcut
      obtain ⟨wx, rfl⟩ : ∃ z, z = wc := ⟨_, rfl⟩
      have hzx := hbx.size
      replace hQ : ∀ Z, Below g1 wx Z → (fun Z : World => Z.cell? ⟨bq, oq + k * 4, none⟩ = some (.bool a.right) ∧ Z.cell? ⟨bq, oq + k * 4 + 1, none⟩ = some (.int .i64 a.w) ∧ Z.cell? ⟨bq, oq + k * 4 + 2, none⟩ = some (.int .i64 a.h) ∧ Z.cell? ⟨bq, oq + k * 4 + 3, none⟩ = some (.int .i64 a.from_)) Z := fun Z h => hQ Z (hbx.trans h)
      have hBx := hB.trans hbx
      clear hdb hRd hEd hB
      have hdb : Below g1 wx wx.drew := (Drawn.refl wx).drew.below _
      have hRd : RoomAt wx.drew g1 (g1 + 1) L R (D ++ [F]) v2 := hR.drawn (Drawn.refl wx).drew
      have hEd : RefAt wx.drew g2 (g2 + 1) L W2 D vr := hE.drawn (Drawn.refl wx).drew
      have hsx : g2 < wx.heap.size := hE.blk.lt
      have hlx : b12 < wx.heap.size := hX12.lt
      clear hR hE
      go_upto_region 11 with fail
      go_cut [13] (fun s wz => ∃ (b : Nat) (vq : Value), s = .pointer (some ⟨b, 0, none⟩) ∧ wx.heap.size ≤ b ∧ Blk wz b12 27 (rect4 F.x F.y F.w F.h) ∧ Blk wz b 27 (rect4 F.x F.y F.w F.h) ∧ RoomAt wz g1 (g1 + 1) L R (D ++ [F]) v2 ∧ RefAt wz g2 (g2 + 1) L W2 (D ++ [F]) vq ∧ Below g1 wx wz)
      case first =>
        refine wp_region_noPanic ?_
        refine Ord.region_Q (S := fun Z : World => Z.cell? ⟨bq, oq + k * 4, none⟩ = some (.bool a.right) ∧ Z.cell? ⟨bq, oq + k * 4 + 1, none⟩ = some (.int .i64 a.w) ∧ Z.cell? ⟨bq, oq + k * 4 + 2, none⟩ = some (.int .i64 a.h) ∧ Z.cell? ⟨bq, oq + k * 4 + 3, none⟩ = some (.int .i64 a.from_)) 26 (.one 0 true (.one 1 true (.one 2 true (.one 3 true (.one 4 true (.one 5 true (.one 6 true (.one 7 true (.one 8 true (.one 9 true (.one 10 true (.one 11 true (.one 12 true (.one 13 true (.one 14 true (.one 15 true (.one 16 true (.one 17 true (.one 18 true (.one 19 true (.one 20 true (.one 21 true (.one 22 true (.one 23 true (.two 24 (.one 25 false (.one 26 false .nil)) 25 (.one 24 false (.one 26 false .nil))))))))))))))))))))))))))) (by kernel_rfl) (by kernel_rfl) (by kernel_rfl) (by decide) (fun _ _ _ _ _ h => h) (hQ _ hdb) (fun hS0 => ?_)
        simp only [Ord.layT, List.getElem?_cons_zero, List.getElem?_cons_succ]
        (refine Ord.takeQ (v := ?_) (Or.inl ⟨rfl, ?_⟩) ?_; rotate_left; (intro w hSw; (try dsimp only at hSw); go_simp; try (with_reducible rfl)); (try simp only [Act.put, List.setIfInBounds_toArray, List.set_cons_zero, List.set_cons_succ]))
        (refine Ord.takeQ (v := ?_) (Or.inl ⟨rfl, ?_⟩) ?_; rotate_left; (intro w hSw; (try dsimp only at hSw); go_simp; try (with_reducible rfl)); (try simp only [Act.put, List.setIfInBounds_toArray, List.set_cons_zero, List.set_cons_succ]))
        (refine Ord.takeQ (v := ?_) (Or.inl ⟨rfl, ?_⟩) ?_; rotate_left; (intro w hSw; (try dsimp only at hSw); go_simp; try (with_reducible rfl)); (try simp only [Act.put, List.setIfInBounds_toArray, List.set_cons_zero, List.set_cons_succ]))
        (refine Ord.takeQ (v := ?_) (Or.inl ⟨rfl, ?_⟩) ?_; rotate_left; (intro w hSw; (try dsimp only at hSw); go_simp; try (with_reducible rfl)); (try simp only [Act.put, List.setIfInBounds_toArray, List.set_cons_zero, List.set_cons_succ]))
        (refine Ord.takeQ (v := ?_) (Or.inl ⟨rfl, ?_⟩) ?_; rotate_left; (intro w hSw; (try dsimp only at hSw); go_simp; try (with_reducible rfl)); (try simp only [Act.put, List.setIfInBounds_toArray, List.set_cons_zero, List.set_cons_succ]))
        (refine Ord.takeQ (v := ?_) (Or.inl ⟨rfl, ?_⟩) ?_; rotate_left; (intro w hSw; (try dsimp only at hSw); go_simp; try (with_reducible rfl)); (try simp only [Act.put, List.setIfInBounds_toArray, List.set_cons_zero, List.set_cons_succ]))
        (refine Ord.takeQ (v := ?_) (Or.inl ⟨rfl, ?_⟩) ?_; rotate_left; (intro w hSw; (try dsimp only at hSw); go_simp; try (with_reducible rfl)); (try simp only [Act.put, List.setIfInBounds_toArray, List.set_cons_zero, List.set_cons_succ]))
        (refine Ord.takeQ (v := ?_) (Or.inl ⟨rfl, ?_⟩) ?_; rotate_left; (intro w hSw; (try dsimp only at hSw); go_simp; try (with_reducible rfl)); (try simp only [Act.put, List.setIfInBounds_toArray, List.set_cons_zero, List.set_cons_succ]))
        (refine Ord.takeQ (v := ?_) (Or.inl ⟨rfl, ?_⟩) ?_; rotate_left; (intro w hSw; (try dsimp only at hSw); go_simp; try (with_reducible rfl)); (try simp only [Act.put, List.setIfInBounds_toArray, List.set_cons_zero, List.set_cons_succ]))
        (refine Ord.takeQ (v := ?_) (Or.inl ⟨rfl, ?_⟩) ?_; rotate_left; (intro w hSw; (try dsimp only at hSw); go_simp; try (with_reducible rfl)); (try simp only [Act.put, List.setIfInBounds_toArray, List.set_cons_zero, List.set_cons_succ]))
        (refine Ord.takeQ (v := ?_) (Or.inl ⟨rfl, ?_⟩) ?_; rotate_left; (intro w hSw; (try dsimp only at hSw); go_simp; try (with_reducible rfl)); (try simp only [Act.put, List.setIfInBounds_toArray, List.set_cons_zero, List.set_cons_succ]))
        (refine Ord.takeC 15 #[.int .i64 a.w] rfl (fun _ _ => by kernel_rfl) (fun w hSw => small_any _ _ ia1) ?_; (try simp only [Act.put, List.setIfInBounds_toArray, List.set_cons_zero, List.set_cons_succ]))
        (refine Ord.takeQ (v := ?_) (Or.inl ⟨rfl, ?_⟩) ?_; rotate_left; (intro w hSw; (try dsimp only at hSw); go_simp; try (with_reducible rfl)); (try simp only [Act.put, List.setIfInBounds_toArray, List.set_cons_zero, List.set_cons_succ]))
        (refine Ord.takeQ (v := ?_) (Or.inl ⟨rfl, ?_⟩) ?_; rotate_left; (intro w hSw; (try dsimp only at hSw); go_simp; try (with_reducible rfl)); (try simp only [Act.put, List.setIfInBounds_toArray, List.set_cons_zero, List.set_cons_succ]))
        (refine Ord.takeQ (v := ?_) (Or.inl ⟨rfl, ?_⟩) ?_; rotate_left; (intro w hSw; (try dsimp only at hSw); go_simp; try (with_reducible rfl)); (try simp only [Act.put, List.setIfInBounds_toArray, List.set_cons_zero, List.set_cons_succ]))
        (refine Ord.takeQ (v := ?_) (Or.inl ⟨rfl, ?_⟩) ?_; rotate_left; (intro w hSw; (try dsimp only at hSw); go_simp; try (with_reducible rfl)); (try simp only [Act.put, List.setIfInBounds_toArray, List.set_cons_zero, List.set_cons_succ]))
        (refine Ord.takeQ (v := ?_) (Or.inl ⟨rfl, ?_⟩) ?_; rotate_left; (intro w hSw; (try dsimp only at hSw); go_simp; try (with_reducible rfl)); (try simp only [Act.put, List.setIfInBounds_toArray, List.set_cons_zero, List.set_cons_succ]))
        (refine Ord.takeC 15 #[.int .i64 a.h] rfl (fun _ _ => by kernel_rfl) (fun w hSw => small_any _ _ ia2) ?_; (try simp only [Act.put, List.setIfInBounds_toArray, List.set_cons_zero, List.set_cons_succ]))
        (refine Ord.takeQ (v := ?_) (Or.inl ⟨rfl, ?_⟩) ?_; rotate_left; (intro w hSw; (try dsimp only at hSw); go_simp; try (with_reducible rfl)); (try simp only [Act.put, List.setIfInBounds_toArray, List.set_cons_zero, List.set_cons_succ]))
        (refine Ord.takeQ (v := ?_) (Or.inl ⟨rfl, ?_⟩) ?_; rotate_left; (intro w hSw; (try dsimp only at hSw); go_simp; try (with_reducible rfl)); (try simp only [Act.put, List.setIfInBounds_toArray, List.set_cons_zero, List.set_cons_succ]))
        (refine Ord.takeQ (v := ?_) (Or.inl ⟨rfl, ?_⟩) ?_; rotate_left; (intro w hSw; (try dsimp only at hSw); go_simp; try (with_reducible rfl)); (try simp only [Act.put, List.setIfInBounds_toArray, List.set_cons_zero, List.set_cons_succ]))
        (refine Ord.takeQ (v := ?_) (Or.inl ⟨rfl, ?_⟩) ?_; rotate_left; (intro w hSw; (try dsimp only at hSw); go_simp; try (with_reducible rfl)); (try simp only [Act.put, List.setIfInBounds_toArray, List.set_cons_zero, List.set_cons_succ]))
        (refine Ord.takeQ (v := ?_) (Or.inl ⟨rfl, ?_⟩) ?_; rotate_left; (intro w hSw; (try dsimp only at hSw); go_simp; try (with_reducible rfl)); (try simp only [Act.put, List.setIfInBounds_toArray, List.set_cons_zero, List.set_cons_succ]))
        (refine Ord.takeC 15 #[.int .i64 a.from_] rfl (fun _ _ => by kernel_rfl) (fun w hSw => small_any _ _ ia3) ?_; (try simp only [Act.put, List.setIfInBounds_toArray, List.set_cons_zero, List.set_cons_succ]))
        refine Ord.twoQ rfl rfl rfl rfl (fun K hK => ?_) (fun K hK => ?_)
        · go_simp
          have hput := ref17_Put g2 (g2 + 1) L W2 D _ a.right (few a.w) (few a.h) (few a.from_) wx.drew (by omega) HS3.out (by simp; omega) hEd
          rw [HAR.out, HFe.out] at hput
          refine hput.mono ?_
          clear hput
          rintro e w5 ⟨rfl, ⟨v5, hr5⟩, hk5⟩
          have ho5 := RoomAt.over hRd hk5 hg12 hEd.blk (by decide)
          have hx5 := hk5.blk (hX12.drew) (by omega) (by decide)
          have hb5 : Below g1 wx w5 := hdb.trans (hk5.below _ (by omega) (by omega) (by simp; omega))
          go_wp2_with fail
          (try simp only [Act.put, List.setIfInBounds_toArray, List.set_cons_zero, List.set_cons_succ])
          refine hK.out _ _ (hQ _ hb5) (fun _ => ?_)
          clear hK K
          refine Ord.aloneQ rfl rfl (fun K hK => ?_)
          have hbz : Below g1 wx (w5.alloc (.cells (rect4 0 0 0 0) 27)) := hb5.alloc (by have := hb5.size; omega) _
          have hZ : Blk (w5.alloc (.cells (rect4 0 0 0 0) 27)) w5.heap.size 27 (rect4 0 0 0 0) := Blk.new _ _ _
          have hrz := ho5.below ((Below.refl w5.heap.size w5).alloc (Nat.le_refl _) (.cells (rect4 0 0 0 0) 27))
          have hez := hr5.below ((Below.refl w5.heap.size w5).alloc (Nat.le_refl _) (.cells (rect4 0 0 0 0) 27))
          have hxz := hx5.alloc (.cells (rect4 0 0 0 0) 27)
          have hxl := hx5.lt
          have hz5 := hb5.size
          go_simp
          (try simp only [Act.put, List.setIfInBounds_toArray, List.set_cons_zero, List.set_cons_succ])
          refine hK.out _ _ (hQ _ hbz) (fun _ => ?_)
          clear hK K
          refine Ord.lastQ rfl rfl (fun K hK => ?_)
          refine wp_store_row 27 _ _ rfl w5.heap.size (rect4 F.x F.y F.w F.h) rfl rfl 27 (rect4 0 0 0 0) hZ rfl (info_rect4 _ _ _ _) (rect_one _ _ _ _) ?_
          intro w6 hb6 hc6
          (try simp only [Act.put, List.setIfInBounds_toArray, List.set_cons_zero, List.set_cons_succ])
          refine hK.out _ _ ?_
          clear hK K
          refine Ord.doneQ (NoPanic.normal ?_)
          go_wp2_with fail
          go_meet
          exact ⟨_, _, rfl, by omega, hxz.chg hc6 (by omega), hb6, hrz.chg hZ hc6, hez.chg hZ hc6, hbz.trans (hc6.below (by omega))⟩
        · have hba : Below g1 wx (wx.drew.alloc (.cells (rect4 0 0 0 0) 27)) := hdb.alloc (by simp; omega) _
          have hZ : Blk (wx.drew.alloc (.cells (rect4 0 0 0 0) 27)) wx.heap.size 27 (rect4 0 0 0 0) := Blk.new _ _ _
          have hRa := hRd.below ((Below.refl wx.drew.heap.size wx.drew).alloc (Nat.le_refl _) (.cells (rect4 0 0 0 0) 27))
          have hEa := hEd.below ((Below.refl wx.drew.heap.size wx.drew).alloc (Nat.le_refl _) (.cells (rect4 0 0 0 0) 27))
          go_simp
          (try simp only [Act.put, List.setIfInBounds_toArray, List.set_cons_zero, List.set_cons_succ])
          refine hK.out _ _ (hQ _ hba) (fun _ => ?_)
          clear hK K
          refine Ord.aloneQ rfl rfl (fun K hK => ?_)
          go_simp
          have hput := ref17_Put g2 (g2 + 1) L W2 D _ a.right (few a.w) (few a.h) (few a.from_) (wx.drew.alloc (.cells (rect4 0 0 0 0) 27)) (by omega) HS3.out (by simp; omega) hEa
          rw [HAR.out, HFe.out] at hput
          refine hput.mono ?_
          clear hput
          rintro e w5 ⟨rfl, ⟨v5, hr5⟩, hk5⟩
          have ho5 := RoomAt.over hRa hk5 hg12 hEa.blk (by decide)
          have hx5 := hk5.blk (hX12.drew.alloc _) (by omega) (by decide)
          have hZ5 := hk5.blk hZ (by omega) (by decide)
          have hbz : Below g1 wx w5 := hba.trans (hk5.below _ (by omega) (by omega) (by simp; omega))
          have hrz := ho5
          have hez := hr5
          have hxz := hx5
          go_wp2_with fail
          (try simp only [Act.put, List.setIfInBounds_toArray, List.set_cons_zero, List.set_cons_succ])
          refine hK.out _ _ (hQ _ hbz) (fun _ => ?_)
          clear hK K
          refine Ord.lastQ rfl rfl (fun K hK => ?_)
          refine wp_store_row 27 _ _ rfl wx.heap.size (rect4 F.x F.y F.w F.h) rfl rfl 27 (rect4 0 0 0 0) hZ5 rfl (info_rect4 _ _ _ _) (rect_one _ _ _ _) ?_
          intro w6 hb6 hc6
          (try simp only [Act.put, List.setIfInBounds_toArray, List.set_cons_zero, List.set_cons_succ])
          refine hK.out _ _ ?_
          clear hK K
          refine Ord.doneQ (NoPanic.normal ?_)
          go_wp2_with fail
          go_meet
          exact ⟨_, _, rfl, by omega, hxz.chg hc6 (by omega), hb6, hrz.chg hZ5 hc6, hez.chg hZ5 hc6, hbz.trans (hc6.below (by omega))⟩
      case rest =>
      obtain ⟨b13, vq, rfl, hb13, hX12, hX13, hR, hE, hby⟩ := hcut
      obtain ⟨wy, rfl⟩ : ∃ z, z = wc := ⟨_, rfl⟩
      have hB := hBx.trans hby
      have hzy := hby.size
      have hsy : g2 < wy.heap.size := hE.blk.lt
      clear hQ hdb hRd hEd hBx hby hbx hsx hlx hax hbq ia1 ia2 ia3 HFe HS3
      have c13 : wy.cell? ⟨b13, 1, none⟩ = some (.int .i64 F.y) := hX13.cell 1
      obtain ⟨i1, i2, i3, i4⟩ := bd_i64 HBN.out (by omega) (by omega)
      have hneq : ∀ w, (binOp .neq 27 (.agg (rect4 F.x F.y F.w F.h)) (.agg (rect4 F.x F.y F.w F.h))).run Try.prog w = .ok (.bool false) w := neq_rect4 _ _ _ _ i1 i2 i3 i4
      clear i1 i2 i3 i4
      go_wp2_with (first | refine stop_load 27 _ rfl rfl ?_ | refine stop_store 27 _ _ rfl rfl ?_)
      refine ⟨?_⟩
      refine wl_load rfl 27 _ rfl _ rfl _ _ _ hX12 rfl rfl (info_rect4 _ _ _ _) ?_
      (try simp only [Act.put, List.setIfInBounds_toArray, List.set_cons_zero, List.set_cons_succ])
      go_wp2_with (first | refine stop_load 27 _ rfl rfl ?_ | refine stop_store 27 _ _ rfl rfl ?_)
      refine ⟨?_⟩
      refine wl_load rfl 27 _ rfl _ rfl _ _ _ hX13 rfl rfl (info_rect4 _ _ _ _) ?_
      (try simp only [Act.put, List.setIfInBounds_toArray, List.set_cons_zero, List.set_cons_succ])
      clear hX12 hX13
      go_upto_if 106 with fail
      go_cut [14] (fun s14 wx => ∃ Y, s14 = .int .i64 Y ∧ wy = wx)
      case first =>
        by_cases hky : k < ys.length
        · obtain ⟨bb, ob, yy, rfl, hbb, hcy, hyv⟩ := Ints.at_ (hY.below hB) hky
          have iyy : I64 yy := hyx yy (by rw [← hyv.out, List.getD_eq_getElem?_getD, List.getElem?_eq_getElem hky]; exact List.getElem_mem hky)
          go_wp2_with fail
          refine (small_any _ _ iyy).mono ?_
          rintro e w9 ⟨rfl, rfl⟩
          go_wp2_with fail
          go_meet
          exact ⟨_, rfl, rfl⟩
        · go_wp2_with fail
          go_meet
          exact ⟨_, rfl, rfl⟩
      case rest =>
      obtain ⟨Y, rfl, rfl⟩ := hcut
      clear c13 hneq
      have hD1 : (D ++ [F]).length = k + 1 := by simp [hD]
      have HBd1 : Hid (∀ f ∈ D ++ [F], Bd (33554432 + ((k + 1 : Nat) : Int) * 16777216) L f) := hid (by
        intro f hf
        rcases List.mem_append.1 hf with h | h
        · exact (HBd.out f h).more (by omega)
        · have : f = F := by simpa using h
          subst this
          have := HBN.out
          rw [show (33554432 + ((k + 1 : Nat) : Int) * 16777216) = 33554432 + k * 16777216 + 16777216 by omega]
          exact this)
      clear HBN HBd hD
      generalize D ++ [F] = D1 at *
      have hl40 : D1.length ≤ 1000 := by omega
      have hba := room_Band g1 (g1 + 1) L R D1 v2 Y wy hl40 hR
      have hbb := ref17_Band g2 (g2 + 1) L W2 D1 vq Y
      rw [HAR.out] at hbb
      generalize band Y D1 L R = P at *
      obtain ⟨p1, p2⟩ := P
      dsimp only at hba hbb
      go_wp2_with fail
      refine hba.mono ?_
      clear hba
      rintro e w3 ⟨rfl, hb⟩
      replace hR := hR.below hb
      replace hE := hE.below hb
      replace hB := hB.trans (hb.mono (by omega))
      replace hsy := Nat.lt_of_lt_of_le hsy hb.size
      clear hb
      have hbc := hbb w3 hl40 hE
      clear hbb
      go_wp2_with fail
      refine hbc.mono ?_
      clear hbc
      rintro e w4 ⟨rfl, hb⟩
      replace hR := hR.below hb
      replace hE := hE.below hb
      replace hB := hB.trans (hb.mono (by omega))
      replace hsy := Nat.lt_of_lt_of_le hsy hb.size
      clear hb
      have hna := room_Next g1 (g1 + 1) L R D1 v2 Y w4 hl40 hR
      have hnb := ref17_Next g2 (g2 + 1) L W2 D1 vq Y
      generalize next Y D1 0 false = N at *
      obtain ⟨n1, n2⟩ := N
      dsimp only at hna hnb
      go_wp2_with fail
      refine hna.mono ?_
      clear hna
      rintro e w5 ⟨rfl, hb⟩
      replace hR := hR.below hb
      replace hE := hE.below hb
      replace hB := hB.trans (hb.mono (by omega))
      replace hsy := Nat.lt_of_lt_of_le hsy hb.size
      clear hb
      have hnc := hnb w5 hl40 hE
      clear hnb
      go_wp2_with fail
      refine hnc.mono ?_
      clear hnc
      rintro e w6 ⟨rfl, hb⟩
      replace hR := hR.below hb
      replace hE := hE.below hb
      replace hB := hB.trans (hb.mono (by omega))
      replace hsy := Nat.lt_of_lt_of_le hsy hb.size
      clear hb
      have e1 : (p1 != p1) = false := by simp
      have e2 : (p2 != p2) = false := by simp
      have e3 : (n1 != n1) = false := by simp
      have e4 : (n2 != n2) = false := by simp
      go_wp2_with fail
      refine (room_Bottom g1 (g1 + 1) L R D1 v2 _ hl40 hR).mono ?_
      rintro e w7 ⟨rfl, hb⟩
      replace hR := hR.below hb
      replace hE := hE.below hb
      replace hB := hB.trans (hb.mono (by omega))
      replace hsy := Nat.lt_of_lt_of_le hsy hb.size
      clear hb
      go_wp2_with fail
      refine (ref17_Bottom g2 (g2 + 1) L W2 D1 vq _ hl40 hE).mono ?_
      rintro e w8 ⟨rfl, hb⟩
      replace hR := hR.below hb
      replace hE := hE.below hb
      replace hB := hB.trans (hb.mono (by omega))
      replace hsy := Nat.lt_of_lt_of_le hsy hb.size
      clear hb e1 e2 e3 e4
      obtain ⟨m1, hm1⟩ : ∃ m, clear_ 3 D1 (-70368744177664) = m := ⟨_, rfl⟩
      rw [hm1]
      clear hm1
      have e5 : (m1 != m1) = false := by simp
      go_wp2_with fail
      clear e5
      go_loopw [23] (fun s23 wr => ∃ j : Nat, j ≤ 6 ∧ s23 = .int .i64 ((j : Int) - 1) ∧ RoomAt wr g1 (g1 + 1) L R D1 v2 ∧ RefAt wr g2 (g2 + 1) L W2 D1 vq ∧ g2 < wr.heap.size ∧ Below g1 w wr) (fun i _ => 6 - (intOf i + 1).toNat)
      case atStart => exact ⟨0, by omega, rfl, hR, hE, hsy, hB⟩
      case round =>
        clear hR hE hsy hB
        obtain ⟨j, hj, rfl, hR, hE, hsy, hB⟩ := hrel
        by_cases hj6 : j < 6
        · have dj : decide ((j : Int) - 1 < 5) = true := decide_eq_true (by omega)
          have hw9 : IntKind.i64.wrap ((j : Int) - 1 + 1) = ((j + 1 : Nat) : Int) - 1 := by rw [IntWalk.i64_in _ (by omega)]; omega
          go_wp2_with fail
          refine (room_Clear g1 (g1 + 1) L R D1 v2 Y ((j : Int) - 1) _ hl40 hR).mono ?_
          rintro e w9 ⟨rfl, hb⟩
          replace hR := hR.below hb
          replace hE := hE.below hb
          replace hB := hB.trans (hb.mono (by omega))
          replace hsy := Nat.lt_of_lt_of_le hsy hb.size
          clear hb
          go_wp2_with fail
          refine (ref17_Clear g2 (g2 + 1) L W2 D1 vq Y ((j : Int) - 1) _ hl40 hE).mono ?_
          rintro e w10 ⟨rfl, hb⟩
          replace hR := hR.below hb
          replace hE := hE.below hb
          replace hB := hB.trans (hb.mono (by omega))
          replace hsy := Nat.lt_of_lt_of_le hsy hb.size
          clear hb
          obtain ⟨m2, hm2⟩ : ∃ m, clear_ ((j : Int) - 1) D1 Y = m := ⟨_, rfl⟩
          rw [hm2]
          clear hm2
          have e6 : (m2 != m2) = false := by simp
          go_wp2_with fail
          go_roundw
          case rel => exact ⟨j + 1, by omega, by first | rw [hw9] | (congr 1; omega), hR, hE, hsy, hB⟩
          case measure => simp [intOf]; omega
        · have dj : decide ((j : Int) - 1 < 5) = false := decide_eq_false (by omega)
          go_wp2_with fail
          go_roundg (l.length - (k + 1))
          case rel => exact ⟨k + 1, D1, _, _, rfl, by omega, by omega, by go_num, hD1, HBd1, hR, hE, hsy, hB⟩
          case measure => omega
end Go.Proofs.Ytkoanijiihnioaa
