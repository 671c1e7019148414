/-
  The walk of FloatsKept.
-/
import Derived.Test.YtkoanijiihnioaaFloatU
namespace Go.Proofs.Ytkoanijiihnioaa
open Go.RowKit Num Mem Opn
set_option linter.unusedVariables false
set_option linter.unusedSimpArgs false
set_option linter.unusedSimpArgs false
namespace Num
/-- what stands behind the first k puts. -/
def putsF (R : Int) (l : List Ak) : Nat → List Fl
  | 0 => []
  | k + 1 => match l[k]? with
    | none => putsF R l k
    | some a => putsF R l k ++ [place (putsF R l k) 0 R a.right (few a.w) (few a.h) 0]
theorem putsF_step {R : Int} {l : List Ak} {k : Nat} {a : Ak} (h : l[k]? = some a) : putsF R l (k + 1) = putsF R l k ++ [place (putsF R l k) 0 R a.right (few a.w) (few a.h) 0] := by
  rw [putsF, h]
end Num
theorem cellP {w Z : World} (h : Drawn w Z) (a : Addr) : Z.cell? a = w.cell? a := by simp [World.cell?, h.heap]
theorem bd_i64 {m L : Int} {f : Fl} (h : Bd m L f) (hL : -16777215 ≤ L) (hm : m ≤ 1073741824) : I64 f.x ∧ I64 f.y ∧ I64 f.w ∧ I64 f.h := by
  obtain ⟨h1, h2, h3, h4, h5, h6, h7, h8⟩ := h
  exact ⟨⟨by omega, by omega⟩, ⟨by omega, by omega⟩, ⟨by omega, by omega⟩, ⟨by omega, by omega⟩⟩
set_option maxRecDepth 100000 in
set_option maxHeartbeats 16000000 in
theorem walk_FloatsKept (width : Int) (A : Option Addr) (l : List Ak) (c : Nat) (w : World) (iw : I64 width) (hr : RowA w A l c) :
    Calls Try.prog 4 #[.int .i64 width, .slice A l.length c] w fun e w' => e = .returned (.bool true) ∧ Below w.heap.size w w' := by
  obtain ⟨hA, hlc, hcp, hx⟩ := hr
  have hw1 := few_lo width
  have hw2 := few_hi width
  obtain ⟨W2, hW2⟩ : ∃ W2, max (few width) 0 = W2 := ⟨_, rfl⟩
  have hW0 : 0 ≤ W2 := by omega
  have hW1 : W2 ≤ 16777215 := by omega
  obtain ⟨R, hRR⟩ : ∃ R, add 0 W2 = R := ⟨_, rfl⟩
  have hR0 : R = 0 + W2 := by rw [← hRR]; exact add_fit (by omega) (by omega) (by omega) (by omega)
  have hR1 : 0 ≤ R := by omega
  have hR2 : R ≤ 33554432 := by omega
  have HAR := hid hRR
  have HW2 := hid hW2
  clear hR0 hw1 hw2
  go_enter Try.func4, Try.ntmps4
  go_wp2_with fail
  refine (small_any _ _ iw).mono ?_
  rintro e w' ⟨rfl, rfl⟩
  go_wp2_with fail
  refine (room_New _ _ _).mono ?_
  rintro e w1 ⟨rfl, hB, hs, hR⟩
  rw [show sat 0 = 0 from rfl, hW2, hRR] at hR
  have hz0 : w.heap.size < w1.heap.size := by omega
  clear hs hRR hW2
  obtain ⟨g1, hg1⟩ : ∃ g1, w.heap.size = g1 := ⟨_, rfl⟩
  rw [hg1] at hR hB hz0 hA ⊢
  have HGW := hid hg1
  clear hg1
  have he : (binOp .eql 23 (.pointer (some ⟨g1, 0, none⟩)) (.pointer none)).run Try.prog w1 = .ok (.bool false) w1 := by kernel_rfl
  go_wp2_with fail
  go_loopg [6] l.length (fun g' s6 wr => ∃ (k : Nat) (D : List Fl) (v : Value), g' = l.length - k ∧ k ≤ l.length ∧ k ≤ 20 ∧ s6 = .int .i64 k ∧ D.length = k ∧ Hid (D = putsF R l k) ∧ Hid (∀ f ∈ D, Bd (33554432 + k * 16777216) 0 f) ∧ RoomAt wr g1 (g1 + 1) 0 R D v ∧ g1 < wr.heap.size ∧ Below g1 w wr)
  case atStart => exact ⟨0, [], _, rfl, Nat.zero_le _, by omega, rfl, rfl, rfl, hid (by simp), hR, hz0, hB⟩
  case round =>
    clear hR hz0 hB he
    obtain ⟨k, D, v, rfl, hk, hk20, rfl, hD, HD, HBd, hR, hs1, hB⟩ := hrel
    obtain ⟨q, hq⟩ : ∃ q, (decide (k < l.length) && decide (k < 20)) = q := ⟨_, rfl⟩
    have HQ := hid hq
    clear hq
    go_upto_region 5 with fail
    go_cut [25] (fun s wx => s = .bool q ∧ wr = wx)
    case first =>
      by_cases h1 : k < l.length
      · by_cases h2 : k < 20
        · have HZ : Hid (q = true) := hid (by rw [← HQ.out]; simp [h1, h2])
          have g2' : decide ((k : Int) < 20) = true := by simp; omega
          go_wp2_with fail
          go_meet
          exact ⟨by rw [HZ.out], rfl⟩
        · have HZ : Hid (q = false) := hid (by rw [← HQ.out]; simp [h2])
          have g2' : decide ((k : Int) < 20) = false := by simp; omega
          go_wp2_with fail
          go_meet
          exact ⟨by rw [HZ.out], rfl⟩
      · have HZ : Hid (q = false) := hid (by rw [← HQ.out]; simp [h1])
        go_wp2_with fail
        go_meet
        exact ⟨by rw [HZ.out], rfl⟩
    case rest =>
    obtain ⟨rfl, rfl⟩ := hcut
    cases q
    · have hkm : k = min l.length 20 := by have := HQ.out; simp at this; omega
      clear HQ
      go_wp2_with fail
      refine (small_any _ _ iw).mono ?_
      rintro e w' ⟨rfl, rfl⟩
      go_wp2_with fail
      refine (ref17_New _ _ _).mono ?_
      rintro e w2 ⟨rfl, hB2, hs, hE⟩
      rw [HW2.out] at hE
      have hR := hR.below hB2
      have hz1 : wr.heap.size < w2.heap.size := by omega
      have hBB := hB.trans (hB2.mono (by omega))
      clear hs hB2 hB
      obtain ⟨g2, hg2⟩ : ∃ g2, wr.heap.size = g2 := ⟨_, rfl⟩
      rw [hg2] at hE hz1 hs1 ⊢
      clear hg2
      have hg12 : g1 ≠ g2 := by omega
      have HDk : Hid (D = putsF R l (min l.length 20)) := hid (by rw [HD.out, hkm])
      have HB1 : Hid (∀ f ∈ D, Bd 1000000000 0 f) := hid (fun f hf => (HBd.out f hf).more (by omega))
      have hD20 : D.length ≤ 20 := by omega
      clear HD HBd hD hkm hk hk20
      obtain ⟨D0, hD0⟩ : ∃ D0, D0 = D := ⟨_, rfl⟩
      rw [← hD0] at HDk HB1 hD20 hR
      clear hD0
      go_wp2_with fail
      go_loopg [10] l.length (fun g' s10 wr => ∃ (k : Nat) (D : List Fl) (vr : Value), g' = l.length - k ∧ k ≤ l.length ∧ k ≤ 20 ∧ s10 = .int .i64 k ∧ D.length = k ∧ Hid (D = putsF R l k) ∧ RoomAt wr g1 (g1 + 1) 0 R D0 v ∧ RefAt wr g2 (g2 + 1) 0 W2 D vr ∧ g2 < wr.heap.size ∧ Below g1 w wr)
      case atStart => exact ⟨0, [], _, rfl, Nat.zero_le _, by omega, rfl, rfl, rfl, hR, hE, hz1, hBB⟩
      case round =>
        clear hR hE hz1 hBB
        obtain ⟨k, D, vr, rfl, hk, hk20, rfl, hD, HD, hR, hE, hs2, hB⟩ := hrel
        obtain ⟨q, hq⟩ : ∃ q, (decide (k < l.length) && decide (k < 20)) = q := ⟨_, rfl⟩
        have HQ := hid hq
        clear hq
        go_upto_region 15 with fail
        go_cut [70] (fun s wx => s = .bool q ∧ wr = wx)
        case first =>
          by_cases h1 : k < l.length
          · by_cases h2 : k < 20
            · have HZ : Hid (q = true) := hid (by rw [← HQ.out]; simp [h1, h2])
              have g2' : decide ((k : Int) < 20) = true := by simp; omega
              go_wp2_with fail
              go_meet
              exact ⟨by rw [HZ.out], rfl⟩
            · have HZ : Hid (q = false) := hid (by rw [← HQ.out]; simp [h2])
              have g2' : decide ((k : Int) < 20) = false := by simp; omega
              go_wp2_with fail
              go_meet
              exact ⟨by rw [HZ.out], rfl⟩
          · have HZ : Hid (q = false) := hid (by rw [← HQ.out]; simp [h1])
            go_wp2_with fail
            go_meet
            exact ⟨by rw [HZ.out], rfl⟩
        case rest =>
        obtain ⟨rfl, rfl⟩ := hcut
        cases q
        · have hkm : k = min l.length 20 := by have := HQ.out; simp at this; omega
          have hDD : D0 = D := by rw [HDk.out, HD.out, hkm]
          subst hDD
          clear HQ hA hx hlc hcp HD HDk hk hk20 hkm hD
          go_wp2_with fail
          refine (room_All g1 (g1 + 1) 0 R D0 v _ (by omega) hR).mono ?_
          rintro e w3 ⟨v3, rfl, ho3, hb3⟩
          obtain ⟨A3, c3, rfl, hc3⟩ := own_some ho3
          have hX : Recs w3 w3.heap.size A3 5 Fl.cells D0 := Recs.of_own fl_length (by decide) ho3
          replace hE := hE.below hb3
          have hB3 := hB.trans (hb3.mono (by omega))
          clear hb3 ho3 hR hB
          obtain ⟨A4, c4, rfl, hc4⟩ := own_some hE.own
          have hY4 : Recs w3 w3.heap.size A4 5 Fl.cells D0 := Recs.of_own fl_length (by decide) hE.own
          have z2 : w3.cell? ⟨g2, 2, none⟩ = some (.slice A4 D0.length c4) := hE.blk.cell 2
          have hgl := hE.blk.lt
          have dne : ((D0.length : Int) != (D0.length : Int)) = false := by simp
          clear hE
          go_wp2_with fail
          go_loopw [12] (fun s12 wr => ∃ j : Nat, j ≤ D0.length ∧ s12 = .int .i64 j ∧ Drawn w3 wr) (fun i _ => D0.length - (intOf i).toNat)
          case atStart => exact ⟨0, Nat.zero_le _, rfl, .refl _⟩
          case round =>
            obtain ⟨j, hj, rfl, hd⟩ := hrel
            by_cases hlt : j < D0.length
            · have dj : decide ((j : Int) < (D0.length : Int)) = true := decide_eq_true (by omega)
              obtain ⟨bx, ox, f, rfl, hbx, hf, -⟩ := (hX.drawn hd).at_ hlt
              obtain ⟨by_, oy, f', rfl, hby, hf', -⟩ := (hY4.drawn hd).at_ hlt
              obtain rfl : f = f' := by have h1 := hf.out; have h2 := hf'.out; rw [h1] at h2; exact Option.some.inj h2
              have hBf := HB1.out f (List.mem_of_getElem? hf.out)
              obtain ⟨i1, i2, i3, i4⟩ := bd_i64 hBf (by omega) (by omega)
              have r1 : wr.drew.rangeAt bx (ox + j * 5 + 1) (rect4 f.x f.y f.w f.h).toList := fls_rect (hX.drawn hd) hf.out
              have r2 : wr.drew.rangeAt by_ (oy + j * 5 + 1) (rect4 f.x f.y f.w f.h).toList := fls_rect (hY4.drawn hd) hf.out
              have r4 : wr.drew.cell? ⟨g2, 2, none⟩ = some (.slice (some ⟨by_, oy, none⟩) D0.length c4) := (cellP hd.drew _).trans z2
              have hneq : ∀ w, (binOp .neq 27 (.agg (rect4 f.x f.y f.w f.h)) (.agg (rect4 f.x f.y f.w f.h))).run Try.prog w = .ok (.bool false) w := neq_rect4 _ _ _ _ i1 i2 i3 i4
              clear i1 i2 i3 i4 hBf
              go_upto_region 24 with fail
              refine wp_region_noPanic ?_
              refine Ord.region_Q (S := fun Z : World => Z.rangeAt bx (ox + j * 5 + 1) (rect4 f.x f.y f.w f.h).toList ∧ Z.rangeAt by_ (oy + j * 5 + 1) (rect4 f.x f.y f.w f.h).toList ∧ Z.cell? ⟨g2, 2, none⟩ = some (.slice (some ⟨by_, oy, none⟩) D0.length c4)) 999 (.one 0 true (.one 1 true (.one 2 true (.one 3 true (.one 4 true (.one 5 true (.one 6 true (.one 7 true (.one 8 true (.one 9 true (.one 10 true (.one 11 true (.one 12 true (.one 13 true .nil)))))))))))))) (by kernel_rfl) (by kernel_rfl) (by kernel_rfl) (by decide) (fun _ _ _ _ _ h => h) (⟨r1, r2, r4⟩) (fun hS0 => ?_)
              simp only [Ord.layT, List.getElem?_cons_zero, List.getElem?_cons_succ]
              (refine Ord.takeQ (v := ?_) (Or.inl ⟨rfl, ?_⟩) ?_; rotate_left; (intro w hSw; (try dsimp only at hSw); go_simp; try (with_reducible rfl)); (try simp only [Act.put, List.setIfInBounds_toArray, List.set_cons_zero, List.set_cons_succ]))
              (refine Ord.takeQ (v := ?_) (Or.inl ⟨rfl, ?_⟩) ?_; rotate_left; (intro w hSw; (try dsimp only at hSw); go_simp; try (with_reducible rfl)); (try simp only [Act.put, List.setIfInBounds_toArray, List.set_cons_zero, List.set_cons_succ]))
              (refine Ord.takeQ (v := ?_) (Or.inl ⟨rfl, ?_⟩) ?_; rotate_left; (intro w hSw; (try dsimp only at hSw); go_simp; try (with_reducible rfl)); (try simp only [Act.put, List.setIfInBounds_toArray, List.set_cons_zero, List.set_cons_succ]))
              (refine Ord.takeQ (v := ?_) (Or.inl ⟨rfl, ?_⟩) ?_; rotate_left; (intro w hSw; (try dsimp only at hSw); go_simp; try (with_reducible rfl)); (try simp only [Act.put, List.setIfInBounds_toArray, List.set_cons_zero, List.set_cons_succ]))
              (refine Ord.takeQ (yieldsIf_load_mid rfl _ _ rfl bx (ox + j * 5 + 1) rfl _ _ (fun w' h => h.1) Try.underlying27 rfl (info_rect_list _ _ _ _)) ?_; (try simp only [Act.put, List.setIfInBounds_toArray, List.set_cons_zero, List.set_cons_succ]))
              (refine Ord.takeQ (v := ?_) (Or.inl ⟨rfl, ?_⟩) ?_; rotate_left; (intro w hSw; (try dsimp only at hSw); go_simp; try (with_reducible rfl)); (try simp only [Act.put, List.setIfInBounds_toArray, List.set_cons_zero, List.set_cons_succ]))
              (refine Ord.takeQ (v := ?_) (Or.inl ⟨rfl, ?_⟩) ?_; rotate_left; (intro w hSw; (try dsimp only at hSw); go_simp; try (with_reducible rfl)); (try simp only [Act.put, List.setIfInBounds_toArray, List.set_cons_zero, List.set_cons_succ]))
              (refine Ord.takeQ (v := ?_) (Or.inl ⟨rfl, ?_⟩) ?_; rotate_left; (intro w hSw; (try dsimp only at hSw); go_simp; try (with_reducible rfl)); (try simp only [Act.put, List.setIfInBounds_toArray, List.set_cons_zero, List.set_cons_succ]))
              (refine Ord.takeQ (v := ?_) (Or.inl ⟨rfl, ?_⟩) ?_; rotate_left; (intro w hSw; (try dsimp only at hSw); go_simp; try (with_reducible rfl)); (try simp only [Act.put, List.setIfInBounds_toArray, List.set_cons_zero, List.set_cons_succ]))
              (refine Ord.takeQ (v := ?_) (Or.inl ⟨rfl, ?_⟩) ?_; rotate_left; (intro w hSw; (try dsimp only at hSw); go_simp; try (with_reducible rfl)); (try simp only [Act.put, List.setIfInBounds_toArray, List.set_cons_zero, List.set_cons_succ]))
              (refine Ord.takeQ (v := ?_) (Or.inl ⟨rfl, ?_⟩) ?_; rotate_left; (intro w hSw; (try dsimp only at hSw); go_simp; try (with_reducible rfl)); (try simp only [Act.put, List.setIfInBounds_toArray, List.set_cons_zero, List.set_cons_succ]))
              (refine Ord.takeQ (v := ?_) (Or.inl ⟨rfl, ?_⟩) ?_; rotate_left; (intro w hSw; (try dsimp only at hSw); go_simp; try (with_reducible rfl)); (try simp only [Act.put, List.setIfInBounds_toArray, List.set_cons_zero, List.set_cons_succ]))
              (refine Ord.takeQ (yieldsIf_load_mid rfl _ _ rfl by_ (oy + j * 5 + 1) rfl _ _ (fun w' h => h.2.1) Try.underlying27 rfl (info_rect_list _ _ _ _)) ?_; (try simp only [Act.put, List.setIfInBounds_toArray, List.set_cons_zero, List.set_cons_succ]))
              (refine Ord.takeQ (v := ?_) (Or.inl ⟨rfl, ?_⟩) ?_; rotate_left; (intro w hSw; (try dsimp only at hSw); go_simp; try (with_reducible rfl)); (try simp only [Act.put, List.setIfInBounds_toArray, List.set_cons_zero, List.set_cons_succ]))
              refine Ord.doneQ (NoPanic.normal ?_)
              clear hS0 r1 r2 r4
              go_wp2_with fail
              go_roundw
              case rel => exact ⟨j + 1, by omega, by go_num, hd.drew⟩
              case measure => simp [intOf]; omega
            · obtain rfl : j = D0.length := by omega
              have dj : decide ((D0.length : Int) < (D0.length : Int)) = false := by simp
              have hB4 := hB3.trans (hd.below _)
              clear hX hY4 z2
              go_wp2_with fail
              refine (known17 _).mono ?_
              rintro e w10 ⟨rfl, hb10⟩
              go_wp2_with fail
              go_ret
              exact ⟨rfl, by rw [HGW.out]; exact hB4.trans (hb10.mono (by have := hB4.size; have h9 := HGW.out; omega))⟩
        · have hlt : k < l.length := by have := HQ.out; simp at this; exact this.1
          have hk19 : k < 20 := by have := HQ.out; simp at this; exact this.2
          clear HQ
          obtain ⟨bq, oq, a, rfl, hbq, hax, q0, q1, q2, q3⟩ := ask_at (hA.below hB) hlt
          obtain ⟨ia1, ia2, ia3⟩ := hx a (List.mem_of_getElem? hax.out)
          have hQ : ∀ Z, Below g1 wr Z → (fun Z : World => Z.cell? ⟨bq, oq + k * 4, none⟩ = some (.bool a.right) ∧ Z.cell? ⟨bq, oq + k * 4 + 1, none⟩ = some (.int .i64 a.w) ∧ Z.cell? ⟨bq, oq + k * 4 + 2, none⟩ = some (.int .i64 a.h)) Z := fun Z h => ⟨(h.cell hbq).trans q0, (h.cell hbq).trans q1, (h.cell hbq).trans q2⟩
          have hdb : Below g1 wr wr.drew := (Drawn.refl wr).drew.below _
          have hEd : RefAt wr.drew g2 (g2 + 1) 0 W2 D vr := hE.drawn (Drawn.refl wr).drew
          have hRd : RoomAt wr.drew g1 (g1 + 1) 0 R D0 v := hR.drawn (Drawn.refl wr).drew
          obtain ⟨F, hF⟩ : ∃ F, place D 0 R a.right (few a.w) (few a.h) 0 = F := ⟨_, rfl⟩
          have HFe := hid hF
          have HD2 : Hid (D ++ [F] = putsF R l (k + 1)) := hid (by rw [putsF_step hax.out, ← HD.out, hF])
          clear hF hR hE q0 q1 q2 q3
          go_upto_region 17 with fail
          refine wp_region_noPanic ?_
          refine Ord.region_Q (S := fun Z : World => Z.cell? ⟨bq, oq + k * 4, none⟩ = some (.bool a.right) ∧ Z.cell? ⟨bq, oq + k * 4 + 1, none⟩ = some (.int .i64 a.w) ∧ Z.cell? ⟨bq, oq + k * 4 + 2, none⟩ = some (.int .i64 a.h)) 999 (.one 0 true (.one 1 true (.one 2 true (.one 3 true (.one 4 true (.one 5 true (.one 6 true (.one 7 true (.one 8 true (.one 9 true (.one 10 true (.one 11 true (.one 12 true (.one 13 true (.one 14 true (.one 15 true (.one 16 true (.one 17 true (.one 18 false .nil))))))))))))))))))) (by kernel_rfl) (by kernel_rfl) (by kernel_rfl) (by decide) (fun _ _ _ _ _ h => h) (hQ _ hdb) (fun hS0 => ?_)
          simp only [Ord.layT, List.getElem?_cons_zero, List.getElem?_cons_succ]
          (refine Ord.takeQ (v := ?_) (Or.inl ⟨rfl, ?_⟩) ?_; rotate_left; (intro w hSw; (try dsimp only at hSw); go_simp; try (with_reducible rfl)); (try simp only [Act.put, List.setIfInBounds_toArray, List.set_cons_zero, List.set_cons_succ]))
          (refine Ord.takeQ (v := ?_) (Or.inl ⟨rfl, ?_⟩) ?_; rotate_left; (intro w hSw; (try dsimp only at hSw); go_simp; try (with_reducible rfl)); (try simp only [Act.put, List.setIfInBounds_toArray, List.set_cons_zero, List.set_cons_succ]))
          (refine Ord.takeQ (v := ?_) (Or.inl ⟨rfl, ?_⟩) ?_; rotate_left; (intro w hSw; (try dsimp only at hSw); go_simp; try (with_reducible rfl)); (try simp only [Act.put, List.setIfInBounds_toArray, List.set_cons_zero, List.set_cons_succ]))
          (refine Ord.takeQ (v := ?_) (Or.inl ⟨rfl, ?_⟩) ?_; rotate_left; (intro w hSw; (try dsimp only at hSw); go_simp; try (with_reducible rfl)); (try simp only [Act.put, List.setIfInBounds_toArray, List.set_cons_zero, List.set_cons_succ]))
          (refine Ord.takeQ (v := ?_) (Or.inl ⟨rfl, ?_⟩) ?_; rotate_left; (intro w hSw; (try dsimp only at hSw); go_simp; try (with_reducible rfl)); (try simp only [Act.put, List.setIfInBounds_toArray, List.set_cons_zero, List.set_cons_succ]))
          (refine Ord.takeQ (v := ?_) (Or.inl ⟨rfl, ?_⟩) ?_; rotate_left; (intro w hSw; (try dsimp only at hSw); go_simp; try (with_reducible rfl)); (try simp only [Act.put, List.setIfInBounds_toArray, List.set_cons_zero, List.set_cons_succ]))
          (refine Ord.takeQ (v := ?_) (Or.inl ⟨rfl, ?_⟩) ?_; rotate_left; (intro w hSw; (try dsimp only at hSw); go_simp; try (with_reducible rfl)); (try simp only [Act.put, List.setIfInBounds_toArray, List.set_cons_zero, List.set_cons_succ]))
          (refine Ord.takeQ (v := ?_) (Or.inl ⟨rfl, ?_⟩) ?_; rotate_left; (intro w hSw; (try dsimp only at hSw); go_simp; try (with_reducible rfl)); (try simp only [Act.put, List.setIfInBounds_toArray, List.set_cons_zero, List.set_cons_succ]))
          (refine Ord.takeQ (v := ?_) (Or.inl ⟨rfl, ?_⟩) ?_; rotate_left; (intro w hSw; (try dsimp only at hSw); go_simp; try (with_reducible rfl)); (try simp only [Act.put, List.setIfInBounds_toArray, List.set_cons_zero, List.set_cons_succ]))
          (refine Ord.takeQ (v := ?_) (Or.inl ⟨rfl, ?_⟩) ?_; rotate_left; (intro w hSw; (try dsimp only at hSw); go_simp; try (with_reducible rfl)); (try simp only [Act.put, List.setIfInBounds_toArray, List.set_cons_zero, List.set_cons_succ]))
          (refine Ord.takeQ (v := ?_) (Or.inl ⟨rfl, ?_⟩) ?_; rotate_left; (intro w hSw; (try dsimp only at hSw); go_simp; try (with_reducible rfl)); (try simp only [Act.put, List.setIfInBounds_toArray, List.set_cons_zero, List.set_cons_succ]))
          (refine Ord.takeC 15 #[.int .i64 a.w] rfl (fun _ _ => by kernel_rfl) (fun w hSw => small_any _ _ ia1) ?_; (try simp only [Act.put, List.setIfInBounds_toArray, List.set_cons_zero, List.set_cons_succ]))
          (refine Ord.takeQ (v := ?_) (Or.inl ⟨rfl, ?_⟩) ?_; rotate_left; (intro w hSw; (try dsimp only at hSw); go_simp; try (with_reducible rfl)); (try simp only [Act.put, List.setIfInBounds_toArray, List.set_cons_zero, List.set_cons_succ]))
          (refine Ord.takeQ (v := ?_) (Or.inl ⟨rfl, ?_⟩) ?_; rotate_left; (intro w hSw; (try dsimp only at hSw); go_simp; try (with_reducible rfl)); (try simp only [Act.put, List.setIfInBounds_toArray, List.set_cons_zero, List.set_cons_succ]))
          (refine Ord.takeQ (v := ?_) (Or.inl ⟨rfl, ?_⟩) ?_; rotate_left; (intro w hSw; (try dsimp only at hSw); go_simp; try (with_reducible rfl)); (try simp only [Act.put, List.setIfInBounds_toArray, List.set_cons_zero, List.set_cons_succ]))
          (refine Ord.takeQ (v := ?_) (Or.inl ⟨rfl, ?_⟩) ?_; rotate_left; (intro w hSw; (try dsimp only at hSw); go_simp; try (with_reducible rfl)); (try simp only [Act.put, List.setIfInBounds_toArray, List.set_cons_zero, List.set_cons_succ]))
          (refine Ord.takeQ (v := ?_) (Or.inl ⟨rfl, ?_⟩) ?_; rotate_left; (intro w hSw; (try dsimp only at hSw); go_simp; try (with_reducible rfl)); (try simp only [Act.put, List.setIfInBounds_toArray, List.set_cons_zero, List.set_cons_succ]))
          (refine Ord.takeC 15 #[.int .i64 a.h] rfl (fun _ _ => by kernel_rfl) (fun w hSw => small_any _ _ ia2) ?_; (try simp only [Act.put, List.setIfInBounds_toArray, List.set_cons_zero, List.set_cons_succ]))
          refine Ord.aloneQ rfl rfl (fun K hK => ?_)
          go_simp
          have hput := ref17_Put g2 (g2 + 1) 0 W2 D _ a.right (few a.w) (few a.h) 0 wr.drew (by omega) (by decide) (by simp; omega) hEd
          rw [HAR.out, HFe.out] at hput
          refine hput.mono ?_
          clear hput
          rintro e w5 ⟨rfl, ⟨v5, hr5⟩, hk5⟩
          have hb5 : Below g1 wr w5 := hdb.trans (hk5.below _ (by omega) (by omega) (by simp; omega))
          go_wp2_with fail
          (try simp only [Act.put, List.setIfInBounds_toArray, List.set_cons_zero, List.set_cons_succ])
          refine hK.out _ _ (hQ _ hb5) (fun _ => ?_)
          clear hK K
          refine Ord.doneQ (NoPanic.normal ?_)
          have hR5 := RoomAt.over hRd hk5 hg12 hEd.blk (by decide)
          have hB5 := hB.trans hb5
          have hz5 := hr5.blk.lt
          clear hQ hdb hEd hRd hB hb5 hk5 hS0
          go_wp2_with fail
          go_roundg (l.length - (k + 1))
          case rel => exact ⟨k + 1, D ++ [F], _, rfl, by omega, by omega, by go_num, by simp [hD], HD2, hR5, hr5, hz5, hB5⟩
          case measure => omega
    · have hlt : k < l.length := by have := HQ.out; simp at this; exact this.1
      have hk19 : k < 20 := by have := HQ.out; simp at this; exact this.2
      clear HQ
      obtain ⟨bq, oq, a, rfl, hbq, hax, q0, q1, q2, q3⟩ := ask_at (hA.below hB) hlt
      obtain ⟨ia1, ia2, ia3⟩ := hx a (List.mem_of_getElem? hax.out)
      have hQ : ∀ Z, Below g1 wr Z → (fun Z : World => Z.cell? ⟨bq, oq + k * 4, none⟩ = some (.bool a.right) ∧ Z.cell? ⟨bq, oq + k * 4 + 1, none⟩ = some (.int .i64 a.w) ∧ Z.cell? ⟨bq, oq + k * 4 + 2, none⟩ = some (.int .i64 a.h)) Z := fun Z h => ⟨(h.cell hbq).trans q0, (h.cell hbq).trans q1, (h.cell hbq).trans q2⟩
      have hdb : Below g1 wr wr.drew := (Drawn.refl wr).drew.below _
      have hRd : RoomAt wr.drew g1 (g1 + 1) 0 R D v := hR.drawn (Drawn.refl wr).drew
      have HBN : Hid (Bd (33554432 + k * 16777216 + 16777216) 0 (place D 0 R a.right (few a.w) (few a.h) 0)) := hid ((place_bd HBd.out (by omega) hR1 hR2 (by omega) (by omega) (few_hi _) (few_hi _) (by omega) (by omega)).1)
      obtain ⟨F, hF⟩ : ∃ F, place D 0 R a.right (few a.w) (few a.h) 0 = F := ⟨_, rfl⟩
      have HFe := hid hF
      rw [hF] at HBN
      have HD2 : Hid (D ++ [F] = putsF R l (k + 1)) := hid (by rw [putsF_step hax.out, ← HD.out, hF])
      have hD1 : (D ++ [F]).length = k + 1 := by simp [hD]
      have HBd1 : Hid (∀ f ∈ D ++ [F], Bd (33554432 + ((k + 1 : Nat) : Int) * 16777216) 0 f) := hid (by
        intro f hf
        rcases List.mem_append.1 hf with h | h
        · exact (HBd.out f h).more (by omega)
        · have : f = F := by simpa using h
          subst this
          have := HBN.out
          rw [show (33554432 + ((k + 1 : Nat) : Int) * 16777216) = 33554432 + k * 16777216 + 16777216 by omega]
          exact this)
      clear hF hR q0 q1 q2 q3 HBd HBN HD
      go_upto_region 7 with fail
      refine wp_region_noPanic ?_
      refine Ord.region_Q (S := fun Z : World => Z.cell? ⟨bq, oq + k * 4, none⟩ = some (.bool a.right) ∧ Z.cell? ⟨bq, oq + k * 4 + 1, none⟩ = some (.int .i64 a.w) ∧ Z.cell? ⟨bq, oq + k * 4 + 2, none⟩ = some (.int .i64 a.h)) 999 (.one 0 true (.one 1 true (.one 2 true (.one 3 true (.one 4 true (.one 5 true (.one 6 true (.one 7 true (.one 8 true (.one 9 true (.one 10 true (.one 11 true (.one 12 true (.one 13 true (.one 14 true (.one 15 true (.one 16 true (.one 17 true (.one 18 false .nil))))))))))))))))))) (by kernel_rfl) (by kernel_rfl) (by kernel_rfl) (by decide) (fun _ _ _ _ _ h => h) (hQ _ hdb) (fun hS0 => ?_)
      simp only [Ord.layT, List.getElem?_cons_zero, List.getElem?_cons_succ]
      (refine Ord.takeQ (v := ?_) (Or.inl ⟨rfl, ?_⟩) ?_; rotate_left; (intro w hSw; (try dsimp only at hSw); go_simp; try (with_reducible rfl)); (try simp only [Act.put, List.setIfInBounds_toArray, List.set_cons_zero, List.set_cons_succ]))
      (refine Ord.takeQ (v := ?_) (Or.inl ⟨rfl, ?_⟩) ?_; rotate_left; (intro w hSw; (try dsimp only at hSw); go_simp; try (with_reducible rfl)); (try simp only [Act.put, List.setIfInBounds_toArray, List.set_cons_zero, List.set_cons_succ]))
      (refine Ord.takeQ (v := ?_) (Or.inl ⟨rfl, ?_⟩) ?_; rotate_left; (intro w hSw; (try dsimp only at hSw); go_simp; try (with_reducible rfl)); (try simp only [Act.put, List.setIfInBounds_toArray, List.set_cons_zero, List.set_cons_succ]))
      (refine Ord.takeQ (v := ?_) (Or.inl ⟨rfl, ?_⟩) ?_; rotate_left; (intro w hSw; (try dsimp only at hSw); go_simp; try (with_reducible rfl)); (try simp only [Act.put, List.setIfInBounds_toArray, List.set_cons_zero, List.set_cons_succ]))
      (refine Ord.takeQ (v := ?_) (Or.inl ⟨rfl, ?_⟩) ?_; rotate_left; (intro w hSw; (try dsimp only at hSw); go_simp; try (with_reducible rfl)); (try simp only [Act.put, List.setIfInBounds_toArray, List.set_cons_zero, List.set_cons_succ]))
      (refine Ord.takeQ (v := ?_) (Or.inl ⟨rfl, ?_⟩) ?_; rotate_left; (intro w hSw; (try dsimp only at hSw); go_simp; try (with_reducible rfl)); (try simp only [Act.put, List.setIfInBounds_toArray, List.set_cons_zero, List.set_cons_succ]))
      (refine Ord.takeQ (v := ?_) (Or.inl ⟨rfl, ?_⟩) ?_; rotate_left; (intro w hSw; (try dsimp only at hSw); go_simp; try (with_reducible rfl)); (try simp only [Act.put, List.setIfInBounds_toArray, List.set_cons_zero, List.set_cons_succ]))
      (refine Ord.takeQ (v := ?_) (Or.inl ⟨rfl, ?_⟩) ?_; rotate_left; (intro w hSw; (try dsimp only at hSw); go_simp; try (with_reducible rfl)); (try simp only [Act.put, List.setIfInBounds_toArray, List.set_cons_zero, List.set_cons_succ]))
      (refine Ord.takeQ (v := ?_) (Or.inl ⟨rfl, ?_⟩) ?_; rotate_left; (intro w hSw; (try dsimp only at hSw); go_simp; try (with_reducible rfl)); (try simp only [Act.put, List.setIfInBounds_toArray, List.set_cons_zero, List.set_cons_succ]))
      (refine Ord.takeQ (v := ?_) (Or.inl ⟨rfl, ?_⟩) ?_; rotate_left; (intro w hSw; (try dsimp only at hSw); go_simp; try (with_reducible rfl)); (try simp only [Act.put, List.setIfInBounds_toArray, List.set_cons_zero, List.set_cons_succ]))
      (refine Ord.takeQ (v := ?_) (Or.inl ⟨rfl, ?_⟩) ?_; rotate_left; (intro w hSw; (try dsimp only at hSw); go_simp; try (with_reducible rfl)); (try simp only [Act.put, List.setIfInBounds_toArray, List.set_cons_zero, List.set_cons_succ]))
      (refine Ord.takeC 15 #[.int .i64 a.w] rfl (fun _ _ => by kernel_rfl) (fun w hSw => small_any _ _ ia1) ?_; (try simp only [Act.put, List.setIfInBounds_toArray, List.set_cons_zero, List.set_cons_succ]))
      (refine Ord.takeQ (v := ?_) (Or.inl ⟨rfl, ?_⟩) ?_; rotate_left; (intro w hSw; (try dsimp only at hSw); go_simp; try (with_reducible rfl)); (try simp only [Act.put, List.setIfInBounds_toArray, List.set_cons_zero, List.set_cons_succ]))
      (refine Ord.takeQ (v := ?_) (Or.inl ⟨rfl, ?_⟩) ?_; rotate_left; (intro w hSw; (try dsimp only at hSw); go_simp; try (with_reducible rfl)); (try simp only [Act.put, List.setIfInBounds_toArray, List.set_cons_zero, List.set_cons_succ]))
      (refine Ord.takeQ (v := ?_) (Or.inl ⟨rfl, ?_⟩) ?_; rotate_left; (intro w hSw; (try dsimp only at hSw); go_simp; try (with_reducible rfl)); (try simp only [Act.put, List.setIfInBounds_toArray, List.set_cons_zero, List.set_cons_succ]))
      (refine Ord.takeQ (v := ?_) (Or.inl ⟨rfl, ?_⟩) ?_; rotate_left; (intro w hSw; (try dsimp only at hSw); go_simp; try (with_reducible rfl)); (try simp only [Act.put, List.setIfInBounds_toArray, List.set_cons_zero, List.set_cons_succ]))
      (refine Ord.takeQ (v := ?_) (Or.inl ⟨rfl, ?_⟩) ?_; rotate_left; (intro w hSw; (try dsimp only at hSw); go_simp; try (with_reducible rfl)); (try simp only [Act.put, List.setIfInBounds_toArray, List.set_cons_zero, List.set_cons_succ]))
      (refine Ord.takeC 15 #[.int .i64 a.h] rfl (fun _ _ => by kernel_rfl) (fun w hSw => small_any _ _ ia2) ?_; (try simp only [Act.put, List.setIfInBounds_toArray, List.set_cons_zero, List.set_cons_succ]))
      refine Ord.aloneQ rfl rfl (fun K hK => ?_)
      go_simp
      have hput := room_Put g1 (g1 + 1) 0 R D _ a.right (few a.w) (few a.h) 0 wr.drew (by omega) (by simp; omega) hRd
      rw [HFe.out] at hput
      refine hput.mono ?_
      clear hput
      rintro e w5 ⟨rfl, ⟨v5, hr5⟩, hk5⟩
      have hb5 : Below g1 wr w5 := hdb.trans (hk5.below _ (by omega) (by omega) (by simp; omega))
      go_wp2_with fail
      (try simp only [Act.put, List.setIfInBounds_toArray, List.set_cons_zero, List.set_cons_succ])
      refine hK.out _ _ (hQ _ hb5) (fun _ => ?_)
      clear hK K
      refine Ord.doneQ (NoPanic.normal ?_)
      have hB5 := hB.trans hb5
      have hz5 := hr5.blk.lt
      clear hQ hdb hRd hB hb5 hk5 hS0 HFe
      generalize D ++ [F] = D1 at *
      go_wp2_with fail
      refine (room_All g1 (g1 + 1) 0 R D1 v5 _ (by omega) hr5).mono ?_
      rintro e w6 ⟨v6, rfl, ho6, hb6⟩
      have hz6 := hb6.size
      obtain ⟨b, cap, cur, hv6, hbb, hbk, hnc, hcm, hcs⟩ : ∃ b cap cur, v6 = .slice (some ⟨b, 0, none⟩) D1.length cap ∧ w5.heap.size ≤ b ∧ Blk w6 b 38 cur ∧ D1.length ≤ cap ∧ cap ≤ maxLen ∧ cur.size = cap * 5 := by
        rcases ho6.2 with ⟨rfl, h0⟩ | ⟨b, cap, cur, rfl, hb, hh, hnc, hcm, hcs, _⟩
        · exact absurd h0 (by omega)
        · exact ⟨b, cap, cur, rfl, hb, hh, hnc, hcm, hcs⟩
      subst hv6
      replace hr5 := hid hr5
      clear ho6
      go_wp2_with fail
      go_loopw [8] (fun s8 wz => ∃ (j : Nat) (cur : Array Value), j ≤ D1.length ∧ s8 = .int .i64 j ∧ Blk wz b 38 cur ∧ cur.size = cap * 5 ∧ Below w5.heap.size w5 wz) (fun i _ => D1.length - (intOf i).toNat)
      case atStart => exact ⟨0, cur, Nat.zero_le _, rfl, hbk, hcs, hb6⟩
      case round =>
        clear hbk hcs hb6
        obtain ⟨j, cur, hj, rfl, hbk, hcs, hb6⟩ := hrel
        by_cases hltj : j < D1.length
        · have dj : decide ((j : Int) < (D1.length : Int)) = true := decide_eq_true (by omega)
          have hcl : cur.toList.length = cap * 5 := by simpa using hcs
          have hsplit : (cur.toList.take (j * 5) ++ (cur.toList.drop (j * 5)).take 5 ++ cur.toList.drop (j * 5 + 5)).toArray = cur := by
            apply Array.ext'
            rw [← List.drop_drop, List.append_assoc, List.take_append_drop, List.take_append_drop]
          go_wp2_with (refine stop_store _ _ _ rfl rfl ?_)
          refine ⟨?_⟩
          refine wl_store_at rfl 38 _ _ rfl b (j * 5) #[.bool false, .int .i64 (-9), .int .i64 0, .int .i64 0, .int .i64 0] rfl rfl 38 (cur.toList.take (j * 5)) ((cur.toList.drop (j * 5)).take 5) (cur.toList.drop (j * 5 + 5)) (by rw [hsplit]; exact hbk) (by simp; omega) (by simp; omega) (by kernel_rfl) (by simp [Value.oneCell']) ?_
          intro w7 hb7 hc7
          (try simp only [Act.put, List.setIfInBounds_toArray, List.set_cons_zero, List.set_cons_succ])
          have hbe := hb6.trans (hc7.below hbb)
          have hsz : ((cur.toList.take (j * 5) ++ #[Value.bool false, .int .i64 (-9), .int .i64 0, .int .i64 0, .int .i64 0].toList ++ cur.toList.drop (j * 5 + 5)).toArray).size = cap * 5 := by
            simp only [List.size_toArray, List.length_append, List.length_take, List.length_drop, hcl]
            simp
            omega
          clear hb6 hbk hc7
          go_wp2_with fail
          go_roundw
          case rel => exact ⟨j + 1, _, by omega, by go_num, hb7, hsz, hbe⟩
          case measure => simp [intOf]; omega
        · obtain rfl : j = D1.length := by omega
          have dj : decide ((D1.length : Int) < (D1.length : Int)) = false := by simp
          have hR7 := hr5.out.below hb6
          have hB7 := hB5.trans (hb6.mono (by omega))
          have hz7 := hR7.blk.lt
          clear hb6 hbk hB5 hr5
          go_wp2_with fail
          go_roundg (l.length - (k + 1))
          case rel => exact ⟨k + 1, D1, _, rfl, by omega, by omega, by go_num, hD1, HD2, HBd1, hR7, hz7, hB7⟩
          case measure => omega
end Go.Proofs.Ytkoanijiihnioaa
