/-
  The walks of the statements' own helpers on rows of numbers: Same, Roomy, Intact; and of Sum.
-/
import Derived.Test.YtkoanijiihnioaaShare
import Derived.Laws.CopyOwn
namespace Go.Proofs.Ytkoanijiihnioaa
open Go.RowKit Num Mem

/-- two rows that read alike are the same. -/
theorem book_Same (l : List Int) (A A' : Option Addr) (c c' B B' : Nat) (w : World) (hl : l.length ≤ 35184372088832) (hA : Ints w B A l) (hA' : Ints w B' A' l) :
    Calls Try.prog 37 #[.slice A l.length c, .slice A' l.length c'] w fun e w' => e = .returned (.bool true) ∧ Drawn w w' := by
  go_enter Try.func37, Try.ntmps37
  go_wp2
  go_loopw [5] (fun i wr => ∃ k : Nat, k ≤ l.length ∧ i = .int .i64 k ∧ Drawn w wr) (fun i _ => l.length - (intOf i).toNat)
  case atStart => exact ⟨0, Nat.zero_le _, rfl, .refl _⟩
  case round =>
    obtain ⟨k, hk, rfl, HW⟩ := hrel
    by_cases hlt : k < l.length
    · obtain ⟨b, off, x, rfl, hb, hc, HX⟩ := (hA.drawn HW).at_ hlt
      obtain ⟨b', off', x', rfl, hb', hc', HX'⟩ := (hA'.drawn HW).at_ hlt
      obtain rfl : x = x' := HX.out.symm.trans HX'.out
      go_wp2
      go_quiet (fail)
      go_wp2
      go_roundw
      case rel => exact ⟨k + 1, by omega, by go_num, HW.more _⟩
      case measure => simp [intOf]; omega
    · obtain rfl : k = l.length := by omega
      go_wp2
      go_ret
      exact ⟨rfl, HW⟩

theorem ref_Sum (l : List Int) (A : Option Addr) (c B : Nat) (w : World) (hl : l.length ≤ 17592186044416) (hA : Ints w B A l) :
    Calls Try.prog 63 #[.slice A l.length c] w fun e w' => e = .returned (.int .i64 (sums l l.length)) ∧ w = w' := by
  go_enter Try.func63, Try.ntmps63
  go_wp2
  go_loop [3, 4] (fun s i => ∃ k : Nat, k ≤ l.length ∧ i = .int .i64 k ∧ s = .int .i64 (sums l k)) (fun _ i => l.length - (intOf i).toNat)
  case atStart => exact ⟨0, Nat.zero_le _, rfl, rfl⟩
  case round =>
    obtain ⟨k, hk, rfl, rfl⟩ := hrel
    by_cases hlt : k < l.length
    · obtain ⟨b, off, x, rfl, hb, hc, HX⟩ := hA.at_ hlt
      go_wp2_with (go_at_call 60; refine (ref_Add _ _ _).mono ?_; rintro e w' ⟨rfl, rfl⟩)
      go_round
      case rel => exact ⟨k + 1, by omega, by go_num, by simp only [sums, HX.out]⟩
      case measure => simp [intOf]; omega
    · obtain rfl : k = l.length := by omega
      go_wp2
      go_ret
      exact ⟨rfl, rfl⟩

end Go.Proofs.Ytkoanijiihnioaa
