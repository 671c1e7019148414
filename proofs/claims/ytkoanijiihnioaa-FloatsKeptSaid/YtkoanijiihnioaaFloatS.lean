/-
  The walks of the document's room of floats: Clear, Bottom, New, Put.
-/
import Derived.Test.YtkoanijiihnioaaFloatR
namespace Go.Proofs.Ytkoanijiihnioaa
open Go.RowKit Num Mem
set_option linter.unusedVariables false
set_option linter.unusedSimpArgs false
theorem hits_eq (which : Int) (r : Bool) : hits which r = ((which == if r = true then 2 else 1) || (which == 3)) := by
  cases r <;> simp [hits, Bool.or_comm]
set_option maxRecDepth 100000 in
set_option maxHeartbeats 2000000 in
theorem ref17_Clear (g base : Nat) (left width : Int) (l : List Fl) (v : Value) (y which : Int) (w : World) (hl : l.length ≤ 1000) (hr : RefAt w g base left width l v) :
    Calls Try.prog 35 #[.pointer (some ⟨g, 0, none⟩), .int .i64 y, .int .i64 which] w fun e w' =>
      e = .returned (.int .i64 (clear_ which l y)) ∧ Below w.heap.size w w' := by
  have HC : Hid (∀ W, Below w.heap.size w W → W.cell? ⟨g, 2, none⟩ = some v) := hid fun W h => (hr.below h).blk.cell 2
  obtain ⟨A, c, rfl, hc⟩ := own_some hr.own
  have hA : Recs w w.heap.size A 5 Fl.cells l := Recs.of_own fl_length (by decide) hr.own
  obtain ⟨R, hR⟩ : ∃ R, clear_ which l y = R := ⟨_, rfl⟩
  have HR := hid hR
  rw [hR]
  clear hR hr
  go_enter Try.func35, Try.ntmps35
  go_wp2_with fail
  go_loopg [1, 7] l.length (fun g' s1 s7 wr => ∃ (k : Nat) (n : Int), g' = l.length - k ∧ k ≤ l.length ∧ s7 = .int .i64 k ∧ s1 = .int .i64 n ∧ Hid (clear_ which (l.drop k) n = R) ∧ Below w.heap.size w wr)
  case atStart => exact ⟨0, y, rfl, Nat.zero_le _, rfl, rfl, HR, Below.refl _ _⟩
  case round =>
    obtain ⟨k, n, rfl, hk, rfl, rfl, HB, hB⟩ := hrel
    have c2 := HC.out wr hB
    have hsz := hB.size
    by_cases hlt : k < l.length
    · obtain ⟨bb, off, f, rfl, hb, hf, -⟩ := (hA.below hB).at_ hlt
      obtain ⟨f0, f1, f2, f3, f4⟩ := floats_at (hA.below hB) hf.out
      have HB1 : Hid (clear_ which (l.drop (k + 1)) (if ((which == if f.right = true then 2 else 1) || (which == 3)) = true then max n f.bot else n) = R) := hid (by
        have := HB.out
        rw [drop_step hf.out, clear_step, hits_eq] at this
        exact this)
      clear HB
      obtain ⟨r, x, fy, wd, h⟩ := f
      simp only at f0 f1 f2 f3 f4
      have HBO : Hid (Fl.bot ⟨r, x, fy, wd, h⟩ = add fy h) := rfl
      simp only [HBO.out] at HB1
      have z2 : wr.drew.cell? ⟨g, 2, none⟩ = some (.slice (some ⟨bb, off, none⟩) l.length c) := c2
      have z3 : wr.drew.cell? ⟨bb, off + k * 5 + 2, none⟩ = some (.int .i64 fy) := f2
      have z4 : wr.drew.cell? ⟨bb, off + k * 5 + 4, none⟩ = some (.int .i64 h) := f4
      cases r
      all_goals
        simp only [if_true, if_false, Bool.false_eq_true, if_neg, reduceIte] at HB1
        go_upto_region 7 with fail
        refine wp_region_noPanic ?_
        refine Ord.region_Q (S := fun Z : World => Z.cell? ⟨g, 2, none⟩ = some (.slice (some ⟨bb, off, none⟩) l.length c) ∧ Z.cell? ⟨bb, off + k * 5 + 2, none⟩ = some (.int .i64 fy) ∧ Z.cell? ⟨bb, off + k * 5 + 4, none⟩ = some (.int .i64 h)) 999 (.one 0 true (.one 1 true (.one 2 true (.one 3 true (.one 4 true (.one 5 true (.one 6 true (.one 7 true (.one 8 true (.one 9 true (.one 10 true (.one 11 true (.one 12 true (.one 13 true (.one 14 true (.one 15 true (.one 16 true (.one 17 true (.one 18 true (.one 19 true .nil)))))))))))))))))))) (by kernel_rfl) (by kernel_rfl) (by kernel_rfl) (by decide) (fun _ _ _ _ _ h => h) (⟨z2, z3, z4⟩) (fun hS0 => ?_)
        simp only [Ord.layT, List.getElem?_cons_zero, List.getElem?_cons_succ]
        (refine Ord.takeQ (v := ?_) (Or.inl ⟨rfl, ?_⟩) ?_; rotate_left; (intro w hSw; (try dsimp only at hSw); go_simp; try (with_reducible rfl)); (try simp only [Act.put, List.setIfInBounds_toArray, List.set_cons_zero, List.set_cons_succ]))
        (refine Ord.takeQ (v := ?_) (Or.inl ⟨rfl, ?_⟩) ?_; rotate_left; (intro w hSw; (try dsimp only at hSw); go_simp; try (with_reducible rfl)); (try simp only [Act.put, List.setIfInBounds_toArray, List.set_cons_zero, List.set_cons_succ]))
        (refine Ord.takeQ (v := ?_) (Or.inl ⟨rfl, ?_⟩) ?_; rotate_left; (intro w hSw; (try dsimp only at hSw); go_simp; try (with_reducible rfl)); (try simp only [Act.put, List.setIfInBounds_toArray, List.set_cons_zero, List.set_cons_succ]))
        (refine Ord.takeQ (v := ?_) (Or.inl ⟨rfl, ?_⟩) ?_; rotate_left; (intro w hSw; (try dsimp only at hSw); go_simp; try (with_reducible rfl)); (try simp only [Act.put, List.setIfInBounds_toArray, List.set_cons_zero, List.set_cons_succ]))
        (refine Ord.takeQ (v := ?_) (Or.inl ⟨rfl, ?_⟩) ?_; rotate_left; (intro w hSw; (try dsimp only at hSw); go_simp; try (with_reducible rfl)); (try simp only [Act.put, List.setIfInBounds_toArray, List.set_cons_zero, List.set_cons_succ]))
        (refine Ord.takeQ (v := ?_) (Or.inl ⟨rfl, ?_⟩) ?_; rotate_left; (intro w hSw; (try dsimp only at hSw); go_simp; try (with_reducible rfl)); (try simp only [Act.put, List.setIfInBounds_toArray, List.set_cons_zero, List.set_cons_succ]))
        (refine Ord.takeQ (v := ?_) (Or.inl ⟨rfl, ?_⟩) ?_; rotate_left; (intro w hSw; (try dsimp only at hSw); go_simp; try (with_reducible rfl)); (try simp only [Act.put, List.setIfInBounds_toArray, List.set_cons_zero, List.set_cons_succ]))
        (refine Ord.takeQ (v := ?_) (Or.inl ⟨rfl, ?_⟩) ?_; rotate_left; (intro w hSw; (try dsimp only at hSw); go_simp; try (with_reducible rfl)); (try simp only [Act.put, List.setIfInBounds_toArray, List.set_cons_zero, List.set_cons_succ]))
        (refine Ord.takeQ (v := ?_) (Or.inl ⟨rfl, ?_⟩) ?_; rotate_left; (intro w hSw; (try dsimp only at hSw); go_simp; try (with_reducible rfl)); (try simp only [Act.put, List.setIfInBounds_toArray, List.set_cons_zero, List.set_cons_succ]))
        (refine Ord.takeQ (v := ?_) (Or.inl ⟨rfl, ?_⟩) ?_; rotate_left; (intro w hSw; (try dsimp only at hSw); go_simp; try (with_reducible rfl)); (try simp only [Act.put, List.setIfInBounds_toArray, List.set_cons_zero, List.set_cons_succ]))
        (refine Ord.takeQ (v := ?_) (Or.inl ⟨rfl, ?_⟩) ?_; rotate_left; (intro w hSw; (try dsimp only at hSw); go_simp; try (with_reducible rfl)); (try simp only [Act.put, List.setIfInBounds_toArray, List.set_cons_zero, List.set_cons_succ]))
        (refine Ord.takeQ (v := ?_) (Or.inl ⟨rfl, ?_⟩) ?_; rotate_left; (intro w hSw; (try dsimp only at hSw); go_simp; try (with_reducible rfl)); (try simp only [Act.put, List.setIfInBounds_toArray, List.set_cons_zero, List.set_cons_succ]))
        (refine Ord.takeQ (v := ?_) (Or.inl ⟨rfl, ?_⟩) ?_; rotate_left; (intro w hSw; (try dsimp only at hSw); go_simp; try (with_reducible rfl)); (try simp only [Act.put, List.setIfInBounds_toArray, List.set_cons_zero, List.set_cons_succ]))
        (refine Ord.takeQ (v := ?_) (Or.inl ⟨rfl, ?_⟩) ?_; rotate_left; (intro w hSw; (try dsimp only at hSw); go_simp; try (with_reducible rfl)); (try simp only [Act.put, List.setIfInBounds_toArray, List.set_cons_zero, List.set_cons_succ]))
        (refine Ord.takeQ (v := ?_) (Or.inl ⟨rfl, ?_⟩) ?_; rotate_left; (intro w hSw; (try dsimp only at hSw); go_simp; try (with_reducible rfl)); (try simp only [Act.put, List.setIfInBounds_toArray, List.set_cons_zero, List.set_cons_succ]))
        (refine Ord.takeQ (v := ?_) (Or.inl ⟨rfl, ?_⟩) ?_; rotate_left; (intro w hSw; (try dsimp only at hSw); go_simp; try (with_reducible rfl)); (try simp only [Act.put, List.setIfInBounds_toArray, List.set_cons_zero, List.set_cons_succ]))
        (refine Ord.takeQ (v := ?_) (Or.inl ⟨rfl, ?_⟩) ?_; rotate_left; (intro w hSw; (try dsimp only at hSw); go_simp; try (with_reducible rfl)); (try simp only [Act.put, List.setIfInBounds_toArray, List.set_cons_zero, List.set_cons_succ]))
        (refine Ord.takeQ (v := ?_) (Or.inl ⟨rfl, ?_⟩) ?_; rotate_left; (intro w hSw; (try dsimp only at hSw); go_simp; try (with_reducible rfl)); (try simp only [Act.put, List.setIfInBounds_toArray, List.set_cons_zero, List.set_cons_succ]))
        (refine Ord.takeC 60 #[.int .i64 fy, .int .i64 h] rfl (fun _ _ => by kernel_rfl) (fun w hSw => ref_Add _ _ _) ?_; (try simp only [Act.put, List.setIfInBounds_toArray, List.set_cons_zero, List.set_cons_succ]))
        (refine Ord.takeQ (v := ?_) (Or.inl ⟨rfl, ?_⟩) ?_; rotate_left; (intro w hSw; (try dsimp only at hSw); go_simp; try (with_reducible rfl)); (try simp only [Act.put, List.setIfInBounds_toArray, List.set_cons_zero, List.set_cons_succ]))
        refine Ord.doneQ (NoPanic.normal ?_)
        clear hS0 c2 f0 f1 f2 f3 f4 z2 z3 z4 HBO
        have hBz := hB.drew
        generalize wr.drew = w2 at *
        obtain ⟨bo, hbo⟩ : ∃ bo, add fy h = bo := ⟨_, rfl⟩
        rw [hbo] at HB1 ⊢
        clear hbo
      · by_cases hs : which = 1
        · have gs : (which == 1) = true := by simpa using hs
          rw [gs] at HB1
          simp only [Bool.true_or, if_true, reduceIte] at HB1
          clear hs
          by_cases h2 : n < bo
          · have g2 : decide (n < bo) = true := by simpa using h2
            have HB2 : Hid (clear_ which (l.drop (k + 1)) bo = R) := hid (by rw [show max n bo = bo by omega] at HB1; exact HB1.out)
            go_wp2_with fail
            go_roundg (l.length - (k + 1))
            case rel => exact ⟨k + 1, bo, rfl, by omega, by go_num, rfl, HB2, hBz⟩
            case measure => omega
          · have g2 : decide (n < bo) = false := by simpa using h2
            have HB2 : Hid (clear_ which (l.drop (k + 1)) n = R) := hid (by rw [show max n bo = n by omega] at HB1; exact HB1.out)
            go_wp2_with fail
            go_roundg (l.length - (k + 1))
            case rel => exact ⟨k + 1, n, rfl, by omega, by go_num, rfl, HB2, hBz⟩
            case measure => omega
        · have gs : (which == 1) = false := by simpa using hs
          by_cases h3 : which = 3
          · have g3 : (which == 3) = true := by simpa using h3
            rw [gs, g3] at HB1
            simp only [Bool.or_true, if_true, reduceIte] at HB1
            clear hs h3
            by_cases h2 : n < bo
            · have g2 : decide (n < bo) = true := by simpa using h2
              have HB2 : Hid (clear_ which (l.drop (k + 1)) bo = R) := hid (by rw [show max n bo = bo by omega] at HB1; exact HB1.out)
              go_wp2_with fail
              go_roundg (l.length - (k + 1))
              case rel => exact ⟨k + 1, bo, rfl, by omega, by go_num, rfl, HB2, hBz⟩
              case measure => omega
            · have g2 : decide (n < bo) = false := by simpa using h2
              have HB2 : Hid (clear_ which (l.drop (k + 1)) n = R) := hid (by rw [show max n bo = n by omega] at HB1; exact HB1.out)
              go_wp2_with fail
              go_roundg (l.length - (k + 1))
              case rel => exact ⟨k + 1, n, rfl, by omega, by go_num, rfl, HB2, hBz⟩
              case measure => omega
          · have g3 : (which == 3) = false := by simpa using h3
            have HB2 : Hid (clear_ which (l.drop (k + 1)) n = R) := hid (by rw [gs, g3] at HB1; exact HB1.out)
            clear hs h3
            go_wp2_with fail
            go_roundg (l.length - (k + 1))
            case rel => exact ⟨k + 1, n, rfl, by omega, by go_num, rfl, HB2, hBz⟩
            case measure => omega
      · by_cases hs : which = 2
        · have gs : (which == 2) = true := by simpa using hs
          rw [gs] at HB1
          simp only [Bool.true_or, if_true, reduceIte] at HB1
          clear hs
          by_cases h2 : n < bo
          · have g2 : decide (n < bo) = true := by simpa using h2
            have HB2 : Hid (clear_ which (l.drop (k + 1)) bo = R) := hid (by rw [show max n bo = bo by omega] at HB1; exact HB1.out)
            go_wp2_with fail
            go_roundg (l.length - (k + 1))
            case rel => exact ⟨k + 1, bo, rfl, by omega, by go_num, rfl, HB2, hBz⟩
            case measure => omega
          · have g2 : decide (n < bo) = false := by simpa using h2
            have HB2 : Hid (clear_ which (l.drop (k + 1)) n = R) := hid (by rw [show max n bo = n by omega] at HB1; exact HB1.out)
            go_wp2_with fail
            go_roundg (l.length - (k + 1))
            case rel => exact ⟨k + 1, n, rfl, by omega, by go_num, rfl, HB2, hBz⟩
            case measure => omega
        · have gs : (which == 2) = false := by simpa using hs
          by_cases h3 : which = 3
          · have g3 : (which == 3) = true := by simpa using h3
            rw [gs, g3] at HB1
            simp only [Bool.or_true, if_true, reduceIte] at HB1
            clear hs h3
            by_cases h2 : n < bo
            · have g2 : decide (n < bo) = true := by simpa using h2
              have HB2 : Hid (clear_ which (l.drop (k + 1)) bo = R) := hid (by rw [show max n bo = bo by omega] at HB1; exact HB1.out)
              go_wp2_with fail
              go_roundg (l.length - (k + 1))
              case rel => exact ⟨k + 1, bo, rfl, by omega, by go_num, rfl, HB2, hBz⟩
              case measure => omega
            · have g2 : decide (n < bo) = false := by simpa using h2
              have HB2 : Hid (clear_ which (l.drop (k + 1)) n = R) := hid (by rw [show max n bo = n by omega] at HB1; exact HB1.out)
              go_wp2_with fail
              go_roundg (l.length - (k + 1))
              case rel => exact ⟨k + 1, n, rfl, by omega, by go_num, rfl, HB2, hBz⟩
              case measure => omega
          · have g3 : (which == 3) = false := by simpa using h3
            have HB2 : Hid (clear_ which (l.drop (k + 1)) n = R) := hid (by rw [gs, g3] at HB1; exact HB1.out)
            clear hs h3
            go_wp2_with fail
            go_roundg (l.length - (k + 1))
            case rel => exact ⟨k + 1, n, rfl, by omega, by go_num, rfl, HB2, hBz⟩
            case measure => omega
    · obtain rfl : k = l.length := by omega
      have HZ : Hid (n = R) := hid (by have := HB.out; rw [List.drop_of_length_le (Nat.le_refl _), clear_] at this; exact this)
      go_wp2_with fail
      go_ret
      exact ⟨ret_int HZ.out, hB⟩
theorem ref17_Bottom (g base : Nat) (left width : Int) (l : List Fl) (v : Value) (w : World) (hl : l.length ≤ 1000) (hr : RefAt w g base left width l v) :
    Calls Try.prog 34 #[.pointer (some ⟨g, 0, none⟩)] w fun e w' =>
      e = .returned (.int .i64 (clear_ 3 l (-70368744177664))) ∧ Below w.heap.size w w' := by
  go_enter Try.func34, Try.ntmps34
  go_wp2_with fail
  refine (ref17_Clear g base left width l v _ _ _ hl hr).mono ?_
  rintro e w1 ⟨rfl, hb⟩
  go_wp2_with fail
  go_ret
  exact ⟨rfl, hb⟩
theorem ref17_New (left width : Int) (w : World) :
    Calls Try.prog 21 #[.int .i64 left, .int .i64 width] w fun e w' =>
      e = .returned (.pointer (some ⟨w.heap.size, 0, none⟩)) ∧ Below w.heap.size w w' ∧ w'.heap.size = w.heap.size + 1 ∧ RefAt w' w.heap.size (w.heap.size + 1) left (max width 0) [] (.slice none 0 0) := by
  have hN : ∀ q, Blk (w.alloc (.cells #[.int .i64 left, .int .i64 q, .slice none 0 0] 43)) w.heap.size 43 #[.int .i64 left, .int .i64 q, .slice none 0 0] := fun q => Blk.new _ _ _
  have hB : ∀ q, Below w.heap.size w (w.alloc (.cells #[.int .i64 left, .int .i64 q, .slice none 0 0] 43)) := fun q => by go_grown
  by_cases h : width < 0
  · have g1 : decide (width < 0) = true := by simpa using h
    have HZ : Hid (max width 0 = 0) := hid (by omega)
    rw [HZ.out]
    go_enter Try.func21, Try.ntmps21
    go_wp2_with fail
    go_ret
    exact ⟨rfl, hB _, by simp, hN _, own_nil _ _ _ _⟩
  · have g1 : decide (width < 0) = false := by simpa using h
    have HZ : Hid (max width 0 = width) := hid (by omega)
    rw [HZ.out]
    go_enter Try.func21, Try.ntmps21
    go_wp2_with fail
    go_ret
    exact ⟨rfl, hB _, by simp, hN _, own_nil _ _ _ _⟩
end Go.Proofs.Ytkoanijiihnioaa
