/-
  The walks of package block's smaller functions: Length, sides, Collapse, Inner, left.
-/
import Derived.Test.YtkkabnkhdhlhkaaRect0
import Derived.Test.YtkkabnkhdhlhkaaOpen
import Derived.Handy
namespace Go.Proofs.Ytkkabnkhdhlhkaa
open Go.RowKit Num Mem Opn
namespace Num
/-- a length, of a room. -/
def len (k n room : Int) : Int := if k = 1 then n else if k = 2 then prt room n 6400 else 0
def given (k : Int) : Bool := decide (k = 1) || decide (k = 2)
end Num
set_option linter.unusedVariables false
theorem block_LengthX (k n room : Int) (w : World) : Calls Try.prog 32 #[.agg #[.int .i64 k, .int .i64 n], .int .i64 room] w fun e w' =>
    e = .returned (.tuple #[.int .i64 (len k n room), .bool (given k)]) ∧ w.alloc (.cells #[.int .i64 k, .int .i64 n] 23) = w' := by
  by_cases h1 : k = 1
  · subst h1
    go_enter Try.func32, Try.ntmps32
    go_wp2_with fail
    go_returns
    exact ⟨rfl, rfl⟩
  · by_cases h2 : k = 2
    · subst h2
      go_enter Try.func32, Try.ntmps32
      go_wp2_with fail
      refine (fixed_Part _ _ _ _).mono ?_
      rintro e w' ⟨rfl, rfl⟩
      go_wp2_with fail
      go_returns
      exact ⟨rfl, rfl⟩
    · have hL : Hid (len k n room = 0) := by show _ = _; unfold len; rw [if_neg h1, if_neg h2]
      have hG : Hid (given k = false) := by show _ = _; unfold given; simp [h1, h2]
      have d1 : decide (k = 1) = false := by simp [h1]
      have d2 : decide (k = 2) = false := by simp [h2]
      go_enter Try.func32, Try.ntmps32
      go_wp2_with fail
      go_returns
      exact ⟨by rw [hL.out, hG.out]; rfl, rfl⟩
theorem block_Length (k n room : Int) (w : World) : Calls Try.prog 32 #[.agg #[.int .i64 k, .int .i64 n], .int .i64 room] w fun e w' =>
    e = .returned (.tuple #[.int .i64 (len k n room), .bool (given k)]) ∧ Below w.heap.size w w' := (block_LengthX k n room w).mono fun _ _ ⟨h, h'⟩ => ⟨h, by subst h'; go_grown⟩
theorem block_Collapse (a b : Int) (w : World) : Calls Try.prog 17 #[.int .i64 a, .int .i64 b] w fun e w' =>
    e = .returned (.int .i64 (if 0 ≤ a ∧ 0 ≤ b then max a b else if a < 0 ∧ b < 0 then min a b else add a b)) ∧ Below w.heap.size w w' := by
  rcases Int.lt_or_le a 0 with h1 | h1 <;> rcases Int.lt_or_le b 0 with h2 | h2
  · rw [if_neg (by omega), if_pos ⟨h1, h2⟩]
    have d1 : decide (0 ≤ a) = false := by simp; omega
    have d2 : decide (a < 0) = true := by simp; omega
    have d3 : decide (b < 0) = true := by simp; omega
    go_enter Try.func17, Try.ntmps17
    go_wp2_with fail
    go_ret
    exact ⟨rfl, by go_grown⟩
  · rw [if_neg (by omega), if_neg (by omega)]
    have d1 : decide (0 ≤ a) = false := by simp; omega
    have d2 : decide (a < 0) = true := by simp; omega
    have d3 : decide (b < 0) = false := by simp; omega
    go_enter Try.func17, Try.ntmps17
    go_wp2_with fail
    refine (fixed_Add _ _ _).mono ?_
    rintro e w' ⟨rfl, rfl⟩
    go_wp2_with fail
    go_ret
    exact ⟨rfl, by go_grown⟩
  · rw [if_neg (by omega), if_neg (by omega)]
    have d1 : decide (0 ≤ a) = true := by simp; omega
    have d2 : decide (a < 0) = false := by simp; omega
    have d3 : decide (0 ≤ b) = false := by simp; omega
    go_enter Try.func17, Try.ntmps17
    go_wp2_with fail
    refine (fixed_Add _ _ _).mono ?_
    rintro e w' ⟨rfl, rfl⟩
    go_wp2_with fail
    go_ret
    exact ⟨rfl, by go_grown⟩
  · rw [if_pos ⟨h1, h2⟩]
    have d1 : decide (0 ≤ a) = true := by simp; omega
    have d3 : decide (0 ≤ b) = true := by simp; omega
    go_enter Try.func17, Try.ntmps17
    go_wp2_with fail
    go_ret
    exact ⟨rfl, by go_grown⟩
theorem block_one (n : Int) (w : World) : Calls Try.prog 65 #[.int .i64 n] w fun e w' => e = .returned (.int .i64 (max n 0)) ∧ w' = w := by
  go_enter Try.func65, Try.ntmps65
  go_wp2_with fail
  go_ret
  exact ⟨rfl, rfl⟩
/-- one length of the sides, at least what is captured. -/
theorem block_sides1 (k n room least : Int) (p q : Addr) (w : World) (hp : w.cell? p = some (.int .i64 room)) (hq : w.cell? q = some (.int .i64 least)) :
    Calls Try.prog 71 #[.agg #[.int .i64 k, .int .i64 n], .pointer (some p), .pointer (some q)] w fun e w' => e = .returned (.int .i64 (max (len k n room) least)) ∧
      (w.alloc (.cells #[.int .i64 k, .int .i64 n] 23)).alloc (.cells #[.int .i64 k, .int .i64 n] 23) = w' := by
  have hbp := World.block_lt_of_cell? w p hp
  have hbq := World.block_lt_of_cell? w q hq
  have hq1 : ((w.alloc (.cells #[.int .i64 k, .int .i64 n] 23)).alloc (.cells #[.int .i64 k, .int .i64 n] 23)).cell? q = some (.int .i64 least) := by
    have h1 : (w.alloc (.cells #[.int .i64 k, .int .i64 n] 23)).cell? q = some (.int .i64 least) := by rw [World.cell?_alloc_some _ _ _ (by rw [hq]; rfl)]; exact hq
    rw [World.cell?_alloc_some _ _ _ (by rw [h1]; rfl)]; exact h1
  go_enter Try.func71, Try.ntmps71
  go_wp2_with fail
  refine (block_LengthX _ _ _ _).mono ?_
  rintro e w1 ⟨rfl, rfl⟩
  go_wp2_with fail
  go_ret
  exact ⟨rfl, rfl⟩
end Go.Proofs.Ytkkabnkhdhlhkaa
