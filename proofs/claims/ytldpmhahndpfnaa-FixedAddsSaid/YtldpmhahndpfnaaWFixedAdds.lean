/-
  The walk of FixedAdds, and its plain law.
-/
import Derived.Test.YtldpmhahndpfnaaKnown1
import Derived.Test.YtldpmhahndpfnaaOpen
namespace Go.Proofs.Ytldpmhahndpfnaa
open Go.RowKit Num Mem Opn

theorem add_comm (a b : Int) : add a b = add b a := by unfold add; rw [Int.add_comm]
theorem sub_neg (a b : Int) : sub a b = add a (sub 0 b) := by unfold sub add sat; omega

set_option maxHeartbeats 2000000 in
theorem walk_FixedAdds (a b c : Int) (w : World) (_ : I64 a) (_ : I64 b) (_ : I64 c) :
    Calls Try.prog 5 #[.int .i64 a, .int .i64 b, .int .i64 c] w fun e w' => e = .returned (.bool true) ∧ Below w.heap.size w w' := by
  have h1 : (add a b != add b a) = false := by rw [add_comm]; simp
  have h2 : (sub a b != add a (sub 0 b)) = false := by rw [sub_neg]; simp
  have h3 := add_lo a b
  have h4 := add_hi a b
  by_cases hs : (a ≤ 1099511627776 ∧ -1099511627776 ≤ a) ∧ (b ≤ 1099511627776 ∧ -1099511627776 ≤ b) ∧ (c ≤ 1099511627776 ∧ -1099511627776 ≤ c)
  · obtain ⟨⟨a1, a2⟩, ⟨b1, b2⟩, ⟨c1, c2⟩⟩ := hs
    have h5 : (add a b == a + b) = true := by simp; unfold add sat; omega
    have h6 : (sub (add a b) b == a) = true := by simp; unfold sub add sat; omega
    have h7 : (add (add a b) c == add a (add b c)) = true := by simp; unfold add sat; omega
    go_enter Try.func5, Try.ntmps5
    go_wp2_with (first | (go_at_call 24; refine (fixed_Add _ _ _).mono ?_; rintro e w' ⟨rfl, rfl⟩) | (go_at_call 25; refine (fixed_Sub _ _ _).mono ?_; rintro e w' ⟨rfl, rfl⟩) | (go_at_call 23; refine (known1 _).mono ?_; rintro e w' ⟨rfl, hb⟩))
    go_ret
    exact ⟨rfl, hb⟩
  · have hc : 1099511627776 < a ∨ (a ≤ 1099511627776 ∧ a < -1099511627776) ∨ ((a ≤ 1099511627776 ∧ -1099511627776 ≤ a) ∧ 1099511627776 < b) ∨ ((a ≤ 1099511627776 ∧ -1099511627776 ≤ a) ∧ b ≤ 1099511627776 ∧ b < -1099511627776)
        ∨ ((a ≤ 1099511627776 ∧ -1099511627776 ≤ a) ∧ (b ≤ 1099511627776 ∧ -1099511627776 ≤ b) ∧ 1099511627776 < c) ∨ ((a ≤ 1099511627776 ∧ -1099511627776 ≤ a) ∧ (b ≤ 1099511627776 ∧ -1099511627776 ≤ b) ∧ c ≤ 1099511627776 ∧ c < -1099511627776) := by omega
    clear hs
    rcases hc with h | ⟨h, h'⟩ | ⟨⟨h, h'⟩, h''⟩ | ⟨⟨h, h'⟩, h'', h'''⟩ | ⟨⟨h, h'⟩, ⟨h'', h'''⟩, h''''⟩ | ⟨⟨h, h'⟩, ⟨h'', h'''⟩, h'''', h'''''⟩
    all_goals
      go_enter Try.func5, Try.ntmps5
      go_wp2_with (first | (go_at_call 24; refine (fixed_Add _ _ _).mono ?_; rintro e w' ⟨rfl, rfl⟩) | (go_at_call 25; refine (fixed_Sub _ _ _).mono ?_; rintro e w' ⟨rfl, rfl⟩) | (go_at_call 23; refine (known1 _).mono ?_; rintro e w' ⟨rfl, hb⟩))
      go_ret
      exact ⟨rfl, hb⟩
end Go.Proofs.Ytldpmhahndpfnaa
