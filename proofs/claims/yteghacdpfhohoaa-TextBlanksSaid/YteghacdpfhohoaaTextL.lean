/-
  casementkeep's in.
-/
import Derived.Test.YteghacdpfhohoaaTextI
namespace Go.Proofs.Yteghacdpfhohoaa
open Go.RowKit Num Mem Opn
set_option linter.unusedVariables false
set_option linter.unusedSimpArgs false
namespace Num
/-- a number brought within 0 .. top. -/
def inn (n top : Int) : Int := if n < 0 then 0 else if top < n then n % (top + 1) else n
theorem inn_lim {n top : Int} (ht : 0 ≤ top) : 0 ≤ inn n top ∧ inn n top ≤ top := by
  unfold inn
  split
  · omega
  · split
    · have h1 := Int.emod_nonneg n (show top + 1 ≠ 0 by omega)
      have h2 := Int.emod_lt_of_pos n (show 0 < top + 1 by omega)
      omega
    · omega
end Num
set_option maxRecDepth 100000 in
theorem keep_in (n top : Int) (w : World) (ht : 0 ≤ top) (ht2 : top ≤ 16777216) (hn : n ≤ 9223372036854775807) : Calls Try.prog 58 #[.int .i64 n, .int .i64 top] w fun e w' => e = .returned (.int .i64 (inn n top)) ∧ w = w' := by
  by_cases h0 : n < 0
  · have HH : Hid (0 = inn n top) := hid (by unfold inn; rw [if_pos h0])
    have d1 : decide (n < 0) = true := decide_eq_true h0
    clear h0
    go_enter Try.func58, Try.ntmps58
    go_wp2_with fail
    go_ret
    exact ⟨by rw [← HH.out]; rfl, rfl⟩
  · have d1 : decide (n < 0) = false := decide_eq_false h0
    by_cases h1 : top < n
    · have HH : Hid (n % (top + 1) = inn n top) := hid (by unfold inn; rw [if_neg h0, if_pos h1])
      have d2 : decide (top < n) = true := decide_eq_true h1
      have d3 : decide (n > top) = true := decide_eq_true h1
      have e1 : IntKind.i64.wrap (top + 1) = top + 1 := IntWalk.i64_in _ (by omega)
      have hz : ¬ (top + 1 = 0) := by omega
      have hm : IntKind.i64.wrap (n.tmod (top + 1)) = n % (top + 1) := by
        rw [Int.tmod_eq_emod_of_nonneg (by omega)]
        have h3 := Int.emod_nonneg n (show top + 1 ≠ 0 by omega)
        have h4 := Int.emod_lt_of_pos n (show 0 < top + 1 by omega)
        exact IntWalk.i64_in _ (by omega)
      go_enter Try.func58, Try.ntmps58
      go_wp2_with fail
      go_ret
      exact ⟨by rw [← HH.out, ← hm]; rfl, rfl⟩
    · have HH : Hid (n = inn n top) := hid (by unfold inn; rw [if_neg h0, if_neg h1])
      have d2 : decide (top < n) = false := decide_eq_false h1
      have d3 : decide (n > top) = false := decide_eq_false h1
      go_enter Try.func58, Try.ntmps58
      go_wp2_with fail
      go_ret
      exact ⟨by rw [← HH.out]; rfl, rfl⟩
end Go.Proofs.Yteghacdpfhohoaa
