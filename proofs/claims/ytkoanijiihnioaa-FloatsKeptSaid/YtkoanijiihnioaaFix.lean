/-
  The walks of package fixed's functions on numbers: what each computes, in the words of the plain text.
-/
import Derived.Test.YtkoanijiihnioaaProg
import Derived.Test.YtkoanijiihnioaaPlainA
import Derived.WalkKit
import Derived.Handy
import Derived.Lib.MinMax
namespace Go.Proofs.Ytkoanijiihnioaa
open Go.RowKit Num
theorem ret_int {k : IntKind} {a b : Int} (h : a = b) : Ending.returned (.int k a) = .returned (.int k b) := by rw [h]
theorem hid {p : Prop} (h : p) : Hid p := h

theorem fixed_Sat (n : Int) (w : World) : Calls Try.prog 48 #[.int .i64 n] w fun e w' => e = .returned (.int .i64 (sat n)) ∧ w = w' := by
  go_enter Try.func48, Try.ntmps48
  go_wp2
  go_ret
  exact ⟨rfl, rfl⟩

theorem fixed_Add (a b : Int) (w : World) : Calls Try.prog 49 #[.int .i64 a, .int .i64 b] w fun e w' => e = .returned (.int .i64 (add a b)) ∧ w = w' := by
  have h1 := sat_lo a
  have h2 := sat_hi a
  have h3 := sat_lo b
  have h4 := sat_hi b
  go_enter Try.func49, Try.ntmps49
  go_wp2_with (go_at_call 48; refine (fixed_Sat _ _).mono ?_; rintro e w' ⟨rfl, rfl⟩)
  go_ret
  exact ⟨rfl, rfl⟩

theorem fixed_Sub (a b : Int) (w : World) : Calls Try.prog 50 #[.int .i64 a, .int .i64 b] w fun e w' => e = .returned (.int .i64 (sub a b)) ∧ w = w' := by
  have h1 := sat_lo a
  have h2 := sat_hi a
  have h3 := sat_lo b
  have h4 := sat_hi b
  go_enter Try.func50, Try.ntmps50
  go_wp2_with (go_at_call 48; refine (fixed_Sat _ _).mono ?_; rintro e w' ⟨rfl, rfl⟩)
  go_ret
  exact ⟨rfl, rfl⟩

theorem ref_in (n lo hi : Int) (w : World) (h : lo ≤ hi) : Calls Try.prog 69 #[.int .i64 n, .int .i64 lo, .int .i64 hi] w fun e w' => e = .returned (.int .i64 (clip n lo hi)) ∧ w = w' := by
  have hf := hid (in_clip (n := n) h)
  by_cases h1 : n < lo
  · go_enter Try.func69, Try.ntmps69
    go_wp2
    go_ret
    exact ⟨ret_int (by rw [← hf.out, if_pos h1]), rfl⟩
  · by_cases h2 : hi < n
    · go_enter Try.func69, Try.ntmps69
      go_wp2
      go_ret
      exact ⟨ret_int (by rw [← hf.out, if_neg (by omega), if_pos h2]), rfl⟩
    · go_enter Try.func69, Try.ntmps69
      go_wp2
      go_ret
      exact ⟨ret_int (by rw [← hf.out, if_neg (by omega), if_neg (by omega)]), rfl⟩

theorem ref_Sat (n : Int) (w : World) : Calls Try.prog 67 #[.int .i64 n] w fun e w' => e = .returned (.int .i64 (sat n)) ∧ w = w' := by
  go_enter Try.func67, Try.ntmps67
  go_wp2_with (go_at_call 69; refine (ref_in _ _ _ _ (by omega)).mono ?_; rintro e w' ⟨rfl, rfl⟩)
  go_ret
  exact ⟨rfl, rfl⟩

theorem ref_Add (a b : Int) (w : World) : Calls Try.prog 60 #[.int .i64 a, .int .i64 b] w fun e w' => e = .returned (.int .i64 (add a b)) ∧ w = w' := by
  have h1 := sat_lo a
  have h2 := sat_hi a
  have h3 := sat_lo b
  have h4 := sat_hi b
  go_enter Try.func60, Try.ntmps60
  go_wp2_with (go_at_call 67; refine (ref_Sat _ _).mono ?_; rintro e w' ⟨rfl, rfl⟩)
  go_ret
  exact ⟨rfl, rfl⟩

theorem ref_Sub (a b : Int) (w : World) : Calls Try.prog 53 #[.int .i64 a, .int .i64 b] w fun e w' => e = .returned (.int .i64 (sub a b)) ∧ w = w' := by
  have h1 := sat_lo a
  have h2 := sat_hi a
  have h3 := sat_lo b
  have h4 := sat_hi b
  go_enter Try.func53, Try.ntmps53
  go_wp2_with (go_at_call 67; refine (ref_Sat _ _).mono ?_; rintro e w' ⟨rfl, rfl⟩)
  go_ret
  exact ⟨rfl, rfl⟩

end Go.Proofs.Ytkoanijiihnioaa
