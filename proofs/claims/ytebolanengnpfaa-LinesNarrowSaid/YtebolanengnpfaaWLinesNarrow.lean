/-
  The walk of LinesNarrow.
-/
import Derived.Test.YtebolanengnpfaaKnown15
namespace Go.Proofs.Ytebolanengnpfaa
open Go.RowKit Num Mem Opn
set_option linter.unusedVariables false
set_option linter.unusedSimpArgs false
set_option maxRecDepth 100000 in
set_option maxHeartbeats 4000000 in
theorem walk_LinesNarrow (A : Option Addr) (l : List Bt) (c : Nat) (room more : Int) (w : World) (hr : RowB w A l c) (ir : I64 room) (im : I64 more) :
    Calls Try.prog 5 #[.slice A l.length c, .int .i64 room, .int .i64 more] w fun e w' => e = .returned (.bool true) ∧ Below w.heap.size w w' := by
  obtain ⟨hA, hlc, hcp, hx⟩ := hr
  have hr1 := lit24_lo room
  have hr2 := lit24_hi room
  have hm1 := lit24_lo more
  have hm2 := lit24_hi more
  have HW := (pcs_wide (l.take 80) 0).wide0
  have h80 : (pcs 0 (l.take 80)).length ≤ 80 := by rw [pcs_length]; simp; omega
  go_enter Try.func5, Try.ntmps5
  go_wp2_with fail
  refine (some_n l _ A c _ rfl hA (by omega) hx).mono ?_
  rintro e w1 ⟨v, v', rfl, hB, ho, ho'⟩
  generalize pcs 0 (l.take 80) = P at *
  obtain ⟨A1, c1, rfl, hc1, hP⟩ := own_pcs ho
  clear ho ho' hA hx
  go_wp2_with fail
  refine (law_small _ _ ir).mono ?_
  rintro e w2 ⟨rfl, rfl⟩
  go_wp2_with fail
  refine (law_small _ _ im).mono ?_
  rintro e w2 ⟨rfl, rfl⟩
  generalize lit24 room = r at *
  generalize lit24 more = m at *
  go_wp2_with fail
  refine (break_n P _ A1 c1 r 0 _ rfl (by omega) hc1 hP).mono ?_
  rintro e w2 ⟨v, rfl, hoa, hb⟩
  replace hP := (hP.below hb).more hb.size
  replace hB := hB.trans (hb.mono hB.size)
  clear hb
  obtain ⟨A2, c2, rfl, hc2, hLa⟩ := own_lns hoa
  clear hoa
  go_wp2_with fail
  refine (break_n P _ A1 c1 (r + m) 0 _ rfl (by omega) hc1 hP).mono ?_
  rintro e w3 ⟨v, rfl, hob, hb⟩
  replace hLa := (hLa.below hb).more hb.size
  replace hB := hB.trans (hb.mono hB.size)
  clear hb hP
  obtain ⟨A3, c3, rfl, hc3, hLb⟩ := own_lns hob
  clear hob
  have hlen := lns_mono (show r ≤ r + m by omega) 0 HW
  have hlena := lns_length r 0 P
  have hto : 0 < (lns r 0 P).length → ∃ x y, (lns r 0 P)[0]? = some x ∧ (lns (r + m) 0 P)[0]? = some y ∧ x.to ≤ y.to := by
    intro h0
    have hp : 0 < P.length := by omega
    obtain ⟨t, ht⟩ := lns_some r 0 hp
    obtain ⟨t', ht'⟩ := lns_some (r + m) 0 hp
    refine ⟨_, _, by rw [ht]; rfl, by rw [ht']; rfl, ?_⟩
    have := stop_mono (show r ≤ r + m by omega) HW (Nat.le_refl 0) (stop_gt r P hp)
    simp only [first]
    omega
  have hne : 0 < (lns r 0 P).length → 0 < (lns (r + m) 0 P).length := by
    intro h0
    obtain ⟨x, y, -, hy, -⟩ := hto h0
    exact (List.getElem?_eq_some_iff.1 hy).1
  generalize lns r 0 P = La at *
  generalize lns (r + m) 0 P = Lb at *
  clear HW
  have g1 : decide (La.length < Lb.length) = false := by simp; omega
  rcases Nat.eq_zero_or_pos La.length with h0 | h0
  · have g2 : ((La.length : Int) == 0) = true := by simp [h0]
    clear hto hne h0
    go_wp2_with fail
    refine wp_region_noPanic ?_
    refine Ord.region_ord (S := fun W => Below w.heap.size w W) [(0, true), (1, true), (2, true), (3, true), (4, true), (5, true), (6, true), (7, true), (8, true), (9, true), (10, true), (11, true), (12, true), (13, true), (14, true), (15, false), (16, true), (17, true)] (by kernel_rfl) (by kernel_rfl) (by kernel_rfl) (by decide) (fun _ _ _ _ _ h => h) (hB.drew) (fun hS0 => ?_)
    simp only [Ord.lay, List.getElem?_cons_zero, List.getElem?_cons_succ]
    (refine Ord.take (v := ?_) (Or.inl ⟨rfl, ?_⟩) ?_; rotate_left; (intro w hSw; (try dsimp only at hSw); go_simp; try (with_reducible rfl)); (try simp only [Act.put, List.setIfInBounds_toArray, List.set_cons_zero, List.set_cons_succ]))
    (refine Ord.take (v := ?_) (Or.inl ⟨rfl, ?_⟩) ?_; rotate_left; (intro w hSw; (try dsimp only at hSw); go_simp; try (with_reducible rfl)); (try simp only [Act.put, List.setIfInBounds_toArray, List.set_cons_zero, List.set_cons_succ]))
    (refine Ord.take (v := ?_) (Or.inl ⟨rfl, ?_⟩) ?_; rotate_left; (intro w hSw; (try dsimp only at hSw); go_simp; try (with_reducible rfl)); (try simp only [Act.put, List.setIfInBounds_toArray, List.set_cons_zero, List.set_cons_succ]))
    (refine Ord.take (v := ?_) (Or.inl ⟨rfl, ?_⟩) ?_; rotate_left; (intro w hSw; (try dsimp only at hSw); go_simp; try (with_reducible rfl)); (try simp only [Act.put, List.setIfInBounds_toArray, List.set_cons_zero, List.set_cons_succ]))
    (refine Ord.take (Or.inr ⟨rfl, rfl⟩) ?_; (try simp only [Act.put, List.setIfInBounds_toArray, List.set_cons_zero, List.set_cons_succ]))
    (refine Ord.take (Or.inr ⟨rfl, rfl⟩) ?_; (try simp only [Act.put, List.setIfInBounds_toArray, List.set_cons_zero, List.set_cons_succ]))
    (refine Ord.take (Or.inr ⟨rfl, rfl⟩) ?_; (try simp only [Act.put, List.setIfInBounds_toArray, List.set_cons_zero, List.set_cons_succ]))
    (refine Ord.take (Or.inr ⟨rfl, rfl⟩) ?_; (try simp only [Act.put, List.setIfInBounds_toArray, List.set_cons_zero, List.set_cons_succ]))
    (refine Ord.take (Or.inr ⟨rfl, rfl⟩) ?_; (try simp only [Act.put, List.setIfInBounds_toArray, List.set_cons_zero, List.set_cons_succ]))
    (refine Ord.take (Or.inr ⟨rfl, rfl⟩) ?_; (try simp only [Act.put, List.setIfInBounds_toArray, List.set_cons_zero, List.set_cons_succ]))
    (refine Ord.take (Or.inr ⟨rfl, rfl⟩) ?_; (try simp only [Act.put, List.setIfInBounds_toArray, List.set_cons_zero, List.set_cons_succ]))
    (refine Ord.take (Or.inr ⟨rfl, rfl⟩) ?_; (try simp only [Act.put, List.setIfInBounds_toArray, List.set_cons_zero, List.set_cons_succ]))
    (refine Ord.take (Or.inr ⟨rfl, rfl⟩) ?_; (try simp only [Act.put, List.setIfInBounds_toArray, List.set_cons_zero, List.set_cons_succ]))
    (refine Ord.take (v := ?_) (Or.inl ⟨rfl, ?_⟩) ?_; rotate_left; (intro w hSw; (try dsimp only at hSw); go_simp; try (with_reducible rfl)); (try simp only [Act.put, List.setIfInBounds_toArray, List.set_cons_zero, List.set_cons_succ]))
    (refine Ord.take (v := ?_) (Or.inl ⟨rfl, ?_⟩) ?_; rotate_left; (intro w hSw; (try dsimp only at hSw); go_simp; try (with_reducible rfl)); (try simp only [Act.put, List.setIfInBounds_toArray, List.set_cons_zero, List.set_cons_succ]))
    refine Ord.alone rfl (fun K hK => ?_)
    go_simp
    refine (known15 _).mono ?_
    rintro e w9 ⟨rfl, hb9⟩
    have hS1 : Below w.heap.size w w9 := Below.trans hS0 (hb9.mono (Below.size hS0))
    go_wp2_with fail
    refine hK.out _ _ (hS1) (fun _ => ?_)
    clear hK K
    (try simp only [Act.put, List.setIfInBounds_toArray, List.set_cons_zero, List.set_cons_succ])
    (refine Ord.take (v := ?_) (Or.inl ⟨rfl, ?_⟩) ?_; rotate_left; (intro w hSw; (try dsimp only at hSw); go_simp; try (with_reducible rfl)); (try simp only [Act.put, List.setIfInBounds_toArray, List.set_cons_zero, List.set_cons_succ]))
    (refine Ord.take (v := ?_) (Or.inl ⟨rfl, ?_⟩) ?_; rotate_left; (intro w hSw; (try dsimp only at hSw); go_simp; try (with_reducible rfl)); (try simp only [Act.put, List.setIfInBounds_toArray, List.set_cons_zero, List.set_cons_succ]))
    refine Ord.done (NoPanic.normal ?_)
    have hB2 := hS1
    clear hB hS0 hLa hLb
    go_wp2_with fail
    go_ret
    exact ⟨rfl, hB2⟩
  · obtain ⟨x, y, hx, hy, hxy⟩ := hto h0
    have h0b := hne h0
    obtain ⟨b1, o1, x', rfl, -, -, -⟩ := hLa.at_ h0
    obtain ⟨b2, o2, y', rfl, -, -, -⟩ := hLb.at_ h0b
    have g2 : ((La.length : Int) == 0) = false := beq_eq_false_iff_ne.2 (by omega)
    obtain ⟨x1, hx1⟩ : ∃ x1, x.to = x1 := ⟨_, rfl⟩
    obtain ⟨x2, hx2⟩ : ∃ x2, y.to = x2 := ⟨_, rfl⟩
    have cx : ∀ W, (Below w.heap.size w W ∧ Lns W W.heap.size (some ⟨b1, o1, none⟩) La ∧ Lns W W.heap.size (some ⟨b2, o2, none⟩) Lb) → (fun W => (Below w.heap.size w W ∧ Lns W W.heap.size (some ⟨b1, o1, none⟩) La ∧ Lns W W.heap.size (some ⟨b2, o2, none⟩) Lb) ∧ W.cell? ⟨b1, o1 + 1, none⟩ = some (.int .i64 x1) ∧ W.cell? ⟨b2, o2 + 1, none⟩ = some (.int .i64 x2)) W := by
      intro W h
      have hx := (lines_at h.2.1 hx).2.1
      have hy := (lines_at h.2.2 hy).2.1
      simp only [Nat.zero_mul, Nat.add_zero] at hx hy
      exact ⟨h, by rw [hx, hx1], by rw [hy, hx2]⟩
    rw [hx1, hx2] at hxy
    have g3 : decide (x1 ≤ x2) = true := by simpa using hxy
    have HX := hid hx
    have HY := hid hy
    clear hx hy hx1 hx2 x' y' hto hne
    go_wp2_with fail
    refine wp_region_noPanic ?_
    refine Ord.region_ord (S := fun W => (Below w.heap.size w W ∧ Lns W W.heap.size (some ⟨b1, o1, none⟩) La ∧ Lns W W.heap.size (some ⟨b2, o2, none⟩) Lb) ∧ W.cell? ⟨b1, o1 + 1, none⟩ = some (.int .i64 x1) ∧ W.cell? ⟨b2, o2 + 1, none⟩ = some (.int .i64 x2)) [(0, true), (1, true), (2, true), (3, true), (4, true), (5, true), (6, true), (7, true), (8, true), (9, true), (10, true), (11, true), (12, true), (13, true), (14, true), (15, false), (16, true), (17, true)] (by kernel_rfl) (by kernel_rfl) (by kernel_rfl) (by decide) (fun _ _ _ _ _ h => h) (cx _ ⟨hB.drew, hLa, hLb⟩) (fun hS0 => ?_)
    simp only [Ord.lay, List.getElem?_cons_zero, List.getElem?_cons_succ]
    (refine Ord.take (v := ?_) (Or.inl ⟨rfl, ?_⟩) ?_; rotate_left; (intro w hSw; (try dsimp only at hSw); go_simp; try (with_reducible rfl)); (try simp only [Act.put, List.setIfInBounds_toArray, List.set_cons_zero, List.set_cons_succ]))
    (refine Ord.take (v := ?_) (Or.inl ⟨rfl, ?_⟩) ?_; rotate_left; (intro w hSw; (try dsimp only at hSw); go_simp; try (with_reducible rfl)); (try simp only [Act.put, List.setIfInBounds_toArray, List.set_cons_zero, List.set_cons_succ]))
    (refine Ord.take (v := ?_) (Or.inl ⟨rfl, ?_⟩) ?_; rotate_left; (intro w hSw; (try dsimp only at hSw); go_simp; try (with_reducible rfl)); (try simp only [Act.put, List.setIfInBounds_toArray, List.set_cons_zero, List.set_cons_succ]))
    (refine Ord.take (v := ?_) (Or.inl ⟨rfl, ?_⟩) ?_; rotate_left; (intro w hSw; (try dsimp only at hSw); go_simp; try (with_reducible rfl)); (try simp only [Act.put, List.setIfInBounds_toArray, List.set_cons_zero, List.set_cons_succ]))
    (refine Ord.take (v := ?_) (Or.inl ⟨rfl, ?_⟩) ?_; rotate_left; (intro w hSw; (try dsimp only at hSw); go_simp; try (with_reducible rfl)); (try simp only [Act.put, List.setIfInBounds_toArray, List.set_cons_zero, List.set_cons_succ]))
    (refine Ord.take (v := ?_) (Or.inl ⟨rfl, ?_⟩) ?_; rotate_left; (intro w hSw; (try dsimp only at hSw); go_simp; try (with_reducible rfl)); (try simp only [Act.put, List.setIfInBounds_toArray, List.set_cons_zero, List.set_cons_succ]))
    (refine Ord.take (v := ?_) (Or.inl ⟨rfl, ?_⟩) ?_; rotate_left; (intro w hSw; (try dsimp only at hSw); go_simp; try (with_reducible rfl)); (try simp only [Act.put, List.setIfInBounds_toArray, List.set_cons_zero, List.set_cons_succ]))
    (refine Ord.take (v := ?_) (Or.inl ⟨rfl, ?_⟩) ?_; rotate_left; (intro w hSw; (try dsimp only at hSw); go_simp; try (with_reducible rfl)); (try simp only [Act.put, List.setIfInBounds_toArray, List.set_cons_zero, List.set_cons_succ]))
    (refine Ord.take (v := ?_) (Or.inl ⟨rfl, ?_⟩) ?_; rotate_left; (intro w hSw; (try dsimp only at hSw); go_simp; try (with_reducible rfl)); (try simp only [Act.put, List.setIfInBounds_toArray, List.set_cons_zero, List.set_cons_succ]))
    (refine Ord.take (v := ?_) (Or.inl ⟨rfl, ?_⟩) ?_; rotate_left; (intro w hSw; (try dsimp only at hSw); go_simp; try (with_reducible rfl)); (try simp only [Act.put, List.setIfInBounds_toArray, List.set_cons_zero, List.set_cons_succ]))
    (refine Ord.take (v := ?_) (Or.inl ⟨rfl, ?_⟩) ?_; rotate_left; (intro w hSw; (try dsimp only at hSw); go_simp; try (with_reducible rfl)); (try simp only [Act.put, List.setIfInBounds_toArray, List.set_cons_zero, List.set_cons_succ]))
    (refine Ord.take (v := ?_) (Or.inl ⟨rfl, ?_⟩) ?_; rotate_left; (intro w hSw; (try dsimp only at hSw); go_simp; try (with_reducible rfl)); (try simp only [Act.put, List.setIfInBounds_toArray, List.set_cons_zero, List.set_cons_succ]))
    (refine Ord.take (v := ?_) (Or.inl ⟨rfl, ?_⟩) ?_; rotate_left; (intro w hSw; (try dsimp only at hSw); go_simp; try (with_reducible rfl)); (try simp only [Act.put, List.setIfInBounds_toArray, List.set_cons_zero, List.set_cons_succ]))
    (refine Ord.take (v := ?_) (Or.inl ⟨rfl, ?_⟩) ?_; rotate_left; (intro w hSw; (try dsimp only at hSw); go_simp; try (with_reducible rfl)); (try simp only [Act.put, List.setIfInBounds_toArray, List.set_cons_zero, List.set_cons_succ]))
    (refine Ord.take (v := ?_) (Or.inl ⟨rfl, ?_⟩) ?_; rotate_left; (intro w hSw; (try dsimp only at hSw); go_simp; try (with_reducible rfl)); (try simp only [Act.put, List.setIfInBounds_toArray, List.set_cons_zero, List.set_cons_succ]))
    refine Ord.alone rfl (fun K hK => ?_)
    go_simp
    refine (known15 _).mono ?_
    rintro e w9 ⟨rfl, hb9⟩
    have hS1 := cx w9 ⟨hS0.1.1.trans (hb9.mono hS0.1.1.size), (hS0.1.2.1.below hb9).more hb9.size, (hS0.1.2.2.below hb9).more hb9.size⟩
    go_wp2_with fail
    refine hK.out _ _ (hS1) (fun _ => ?_)
    clear hK K
    (try simp only [Act.put, List.setIfInBounds_toArray, List.set_cons_zero, List.set_cons_succ])
    (refine Ord.take (v := ?_) (Or.inl ⟨rfl, ?_⟩) ?_; rotate_left; (intro w hSw; (try dsimp only at hSw); go_simp; try (with_reducible rfl)); (try simp only [Act.put, List.setIfInBounds_toArray, List.set_cons_zero, List.set_cons_succ]))
    (refine Ord.take (v := ?_) (Or.inl ⟨rfl, ?_⟩) ?_; rotate_left; (intro w hSw; (try dsimp only at hSw); go_simp; try (with_reducible rfl)); (try simp only [Act.put, List.setIfInBounds_toArray, List.set_cons_zero, List.set_cons_succ]))
    refine Ord.done (NoPanic.normal ?_)
    have hB2 := hS1.1.1
    clear hB hS0 hS1 hLa hLb cx
    go_wp2_with fail
    go_ret
    exact ⟨rfl, hB2⟩
end Go.Proofs.Ytebolanengnpfaa
