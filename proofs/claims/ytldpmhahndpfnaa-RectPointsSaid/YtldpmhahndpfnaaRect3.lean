/-
  The walk of rect.Has, and of casementlaw2's helpers.
-/
import Derived.Test.YtldpmhahndpfnaaRect2
namespace Go.Proofs.Ytldpmhahndpfnaa
open Go.RowKit Num Mem

set_option maxHeartbeats 2000000 in
theorem rect_Has (x y ww hh px py : Int) (w : World) : Calls Try.prog 32 #[.agg #[.int .i64 x, .int .i64 y, .int .i64 ww, .int .i64 hh], .int .i64 px, .int .i64 py] w fun e w' =>
    e = .returned (.bool (has ⟨x, y, ww, hh⟩ px py)) ∧ Below w.heap.size w w' := by
  generalize hm : has ⟨x, y, ww, hh⟩ px py = m
  unfold has at hm
  simp only at hm
  cases he : emp ww hh
  · cases h0 : decide (sat x ≤ sat px)
    · have HM : Hid (m = false) := by show m = _; rw [← hm]; simp [*]
      clear hm
      go_enter Try.func32, Try.ntmps32
      go_wp2_with (first | (go_at_call 33; refine (rect_Empty _ _ _ _ _).mono ?_; rintro e w' ⟨rfl, rfl⟩) | (go_at_call 46; refine (rect_of _ _ _ _ _).mono ?_; rintro e w' ⟨rfl, rfl⟩) | (go_at_call 36; refine (fixed_Sat _ _).mono ?_; rintro e w' ⟨rfl, rfl⟩))
      go_ret
      exact ⟨by rw [HM.out]; rfl, by go_grown⟩
    · cases h1 : decide (sat px < add x ww)
      · have HM : Hid (m = false) := by show m = _; rw [← hm]; simp [*]
        clear hm
        go_enter Try.func32, Try.ntmps32
        go_wp2_with (first | (go_at_call 33; refine (rect_Empty _ _ _ _ _).mono ?_; rintro e w' ⟨rfl, rfl⟩) | (go_at_call 46; refine (rect_of _ _ _ _ _).mono ?_; rintro e w' ⟨rfl, rfl⟩) | (go_at_call 36; refine (fixed_Sat _ _).mono ?_; rintro e w' ⟨rfl, rfl⟩))
        go_ret
        exact ⟨by rw [HM.out]; rfl, by go_grown⟩
      · cases h2 : decide (sat y ≤ sat py)
        · have HM : Hid (m = false) := by show m = _; rw [← hm]; simp [*]
          clear hm
          go_enter Try.func32, Try.ntmps32
          go_wp2_with (first | (go_at_call 33; refine (rect_Empty _ _ _ _ _).mono ?_; rintro e w' ⟨rfl, rfl⟩) | (go_at_call 46; refine (rect_of _ _ _ _ _).mono ?_; rintro e w' ⟨rfl, rfl⟩) | (go_at_call 36; refine (fixed_Sat _ _).mono ?_; rintro e w' ⟨rfl, rfl⟩))
          go_ret
          exact ⟨by rw [HM.out]; rfl, by go_grown⟩
        · cases h3 : decide (sat py < add y hh)
          · have HM : Hid (m = false) := by show m = _; rw [← hm]; simp [*]
            clear hm
            go_enter Try.func32, Try.ntmps32
            go_wp2_with (first | (go_at_call 33; refine (rect_Empty _ _ _ _ _).mono ?_; rintro e w' ⟨rfl, rfl⟩) | (go_at_call 46; refine (rect_of _ _ _ _ _).mono ?_; rintro e w' ⟨rfl, rfl⟩) | (go_at_call 36; refine (fixed_Sat _ _).mono ?_; rintro e w' ⟨rfl, rfl⟩))
            go_ret
            exact ⟨by rw [HM.out]; rfl, by go_grown⟩
          · have HM : Hid (m = true) := by show m = _; rw [← hm]; simp [*]
            clear hm
            go_enter Try.func32, Try.ntmps32
            go_wp2_with (first | (go_at_call 33; refine (rect_Empty _ _ _ _ _).mono ?_; rintro e w' ⟨rfl, rfl⟩) | (go_at_call 46; refine (rect_of _ _ _ _ _).mono ?_; rintro e w' ⟨rfl, rfl⟩) | (go_at_call 36; refine (fixed_Sat _ _).mono ?_; rintro e w' ⟨rfl, rfl⟩))
            go_ret
            exact ⟨by rw [HM.out]; rfl, by go_grown⟩
  · have HM : Hid (m = false) := by show m = _; rw [← hm]; simp [*]
    clear hm
    go_enter Try.func32, Try.ntmps32
    go_wp2_with (first | (go_at_call 33; refine (rect_Empty _ _ _ _ _).mono ?_; rintro e w' ⟨rfl, rfl⟩) | (go_at_call 46; refine (rect_of _ _ _ _ _).mono ?_; rintro e w' ⟨rfl, rfl⟩) | (go_at_call 36; refine (fixed_Sat _ _).mono ?_; rintro e w' ⟨rfl, rfl⟩))
    go_ret
    exact ⟨by rw [HM.out]; rfl, by go_grown⟩

/-- are all within 2^40? -/
def smalls (l : List Int) : Bool := l.all fun x => decide (-1099511627776 ≤ x ∧ x ≤ 1099511627776)
theorem law2_small (l : List Int) (A : Option Addr) (c B : Nat) (w : World) (hl : l.length ≤ 1048576) (hA : Ints w B A l) :
    Calls Try.prog 14 #[.slice A l.length c] w fun e w' => e = .returned (.bool (smalls l)) ∧ w = w' := by
  go_enter Try.func14, Try.ntmps14
  go_wp2
  go_loop [3] (fun i => ∃ k : Nat, k ≤ l.length ∧ i = .int .i64 k ∧ Hid (∀ j, j < k → -1099511627776 ≤ l.getD j 0 ∧ l.getD j 0 ≤ 1099511627776)) (fun i => l.length - (intOf i).toNat)
  case atStart => exact ⟨0, Nat.zero_le _, rfl, fun j hj => by omega⟩
  case round =>
    obtain ⟨k, hk, rfl, HS⟩ := hrel
    by_cases hlt : k < l.length
    · obtain ⟨b, off, x, rfl, hb, hc, HX⟩ := hA.at_ hlt
      have HF : Hid (¬ (-1099511627776 ≤ x ∧ x ≤ 1099511627776) → smalls l = false) := by
        intro hn
        unfold smalls
        rw [List.all_eq_false]
        refine ⟨l[k], List.getElem_mem hlt, ?_⟩
        have := HX.out
        rw [List.getD_eq_getElem?_getD, List.getElem?_eq_getElem hlt, Option.getD_some] at this
        rw [this]
        simpa using hn
      rcases Int.lt_or_le 1099511627776 x with h1 | h1
      · go_wp2
        go_ret
        exact ⟨by rw [HF.out (by omega)]; rfl, rfl⟩
      · rcases Int.lt_or_le x (-1099511627776) with h2 | h2
        · go_wp2
          go_ret
          exact ⟨by rw [HF.out (by omega)]; rfl, rfl⟩
        · clear HF
          go_wp2
          go_round
          case rel =>
            refine ⟨k + 1, by omega, by go_num, fun j hj => ?_⟩
            rcases Nat.lt_or_ge j k with h3 | h3
            · exact HS.out j h3
            · obtain rfl : j = k := by omega
              rw [HX.out]; exact ⟨h2, h1⟩
          case measure => simp [intOf]; omega
    · obtain rfl : k = l.length := by omega
      have HF : Hid (smalls l = true) := by
        show _ = _
        unfold smalls
        rw [List.all_eq_true]
        intro x hx
        obtain ⟨j, hj, rfl⟩ := List.getElem_of_mem hx
        have := HS.out j hj
        rw [List.getD_eq_getElem?_getD, List.getElem?_eq_getElem hj, Option.getD_some] at this
        simpa using this
      go_wp2
      go_ret
      exact ⟨by rw [HF.out]; rfl, rfl⟩

theorem known2 (w : World) : Calls Try.prog 15 #[] w fun e w' => e = .returned (.bool true) ∧ Below w.heap.size w w' := by
  go_enter Try.func15, Try.ntmps15
  go_wp2_with fail
  refine (rect_Meet _ _ _ _ _ _ _ _ _).mono ?_
  rw [show meet ⟨0, 0, 10, 10⟩ ⟨5, 5, 10, 10⟩ = ⟨5, 5, 5, 5⟩ by decide]
  rintro e w1 ⟨rfl, hb⟩
  go_wp2_with fail
  refine (rect_Inset _ _ _ _ _ _ _ _ _).mono ?_
  rw [show add 0 4 = 4 by decide, show add 0 1 = 1 by decide, show max (sub (sub 10 4) 2) 0 = 4 by decide, show max (sub (sub 10 1) 3) 0 = 6 by decide]
  rintro e w2 ⟨rfl, rfl⟩
  go_wp2
  go_ret
  exact ⟨rfl, by have := hb.size; go_grown⟩
end Go.Proofs.Ytldpmhahndpfnaa
