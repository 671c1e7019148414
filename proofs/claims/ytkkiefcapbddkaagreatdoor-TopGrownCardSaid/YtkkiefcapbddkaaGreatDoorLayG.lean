/-
  numbers as texts.
-/
import Derived.Test.YtkkiefcapbddkaaGreatDoorProg
import Derived.WalkKit
import Derived.Handy
import Derived.Below
import Derived.Deep.Draws
import Derived.Laws.Strings
set_option linter.all false
namespace Go.Abs
open Go.RowKit Go.Proofs
set_option linter.unusedVariables false
set_option maxRecDepth 100000
/-- a digit's text. -/
def dig (n : Int) : ByteArray := ⟨#[UInt8.ofNat (48 + n.toNat)]⟩
theorem number_one (n : Int) (h0 : 0 ≤ n) (h1 : n ≤ 9) (w : World) : Calls Tryz.prog 7 #[.int .i64 n] w fun e w' => e = .returned (.string (dig n)) ∧ w = w' := by
  obtain rfl | rfl | rfl | rfl | rfl | rfl | rfl | rfl | rfl | rfl : n = 0 ∨ n = 1 ∨ n = 2 ∨ n = 3 ∨ n = 4 ∨ n = 5 ∨ n = 6 ∨ n = 7 ∨ n = 8 ∨ n = 9 := by omega
  all_goals
    go_enter Tryz.func7, Tryz.ntmps7
    go_wp2
    go_ret
    exact ⟨rfl, rfl⟩
theorem tdiv10 {n : Int} (h : 0 ≤ n) : n.tdiv 10 = n / 10 := Int.tdiv_eq_ediv_of_nonneg h
theorem tmod10 {n : Int} (h : 0 ≤ n) : n.tmod 10 = n % 10 := Int.tmod_eq_emod_of_nonneg h
theorem number_two (n : Int) (h0 : 10 ≤ n) (h1 : n ≤ 99) (w : World) : Calls Tryz.prog 7 #[.int .i64 n] w fun e w' => e = .returned (.string (dig (n / 10) ++ dig (n % 10))) ∧ w = w' := by
  have e1 := tdiv10 (n := n) (by omega)
  have e2 := tmod10 (n := n) (by omega)
  have d1 : decide (n < 0) = false := decide_eq_false (by omega)
  have d2 : decide (9 < n) = true := decide_eq_true (by omega)
  have w1 : IntKind.i64.wrap (n.tdiv 10) = n / 10 := by rw [e1]; exact IntWalk.i64_in (n / 10) (by omega)
  have w2 : IntKind.i64.wrap (n.tmod 10) = n % 10 := by rw [e2]; exact IntWalk.i64_in (n % 10) (by omega)
  go_enter Tryz.func7, Tryz.ntmps7
  go_wp2_with (go_at_call 7; refine (number_one _ (by omega) (by omega) _).mono ?_; rintro e w' ⟨rfl, rfl⟩)
  go_ret
  exact ⟨rfl, rfl⟩
/-- a width's text. -/
def digs (n : Int) : ByteArray := (dig (n / 10 / 10) ++ dig (n / 10 % 10)) ++ dig (n % 10)
theorem number_three (n : Int) (h0 : 100 ≤ n) (h1 : n ≤ 999) (w : World) : Calls Tryz.prog 7 #[.int .i64 n] w fun e w' => e = .returned (.string (digs n)) ∧ w = w' := by
  have e1 := tdiv10 (n := n) (by omega)
  have e2 := tmod10 (n := n) (by omega)
  have d1 : decide (n < 0) = false := decide_eq_false (by omega)
  have d2 : decide (9 < n) = true := decide_eq_true (by omega)
  have w1 : IntKind.i64.wrap (n.tdiv 10) = n / 10 := by rw [e1]; exact IntWalk.i64_in (n / 10) (by omega)
  have w2 : IntKind.i64.wrap (n.tmod 10) = n % 10 := by rw [e2]; exact IntWalk.i64_in (n % 10) (by omega)
  have hno : ¬ ((dig (n / 10 / 10) ++ dig (n / 10 % 10)).size + (dig (n % 10)).size > 9223372036854775807) := by
    rw [ByteArray.size_append]; show ¬ (1 + 1 + 1 > 9223372036854775807); omega
  have hadd := run_string_add_sum (P := Tryz.prog) (w := w) (dig (n / 10 / 10) ++ dig (n / 10 % 10)) (dig (n % 10)) (by omega)
  go_enter Tryz.func7, Tryz.ntmps7
  go_wp2_with (go_at_call 7; first | (refine (number_two _ (by omega) (by omega) _).mono ?_; rintro e w' ⟨rfl, rfl⟩) | (refine (number_one _ (by omega) (by omega) _).mono ?_; rintro e w' ⟨rfl, rfl⟩))
  go_ret
  exact ⟨rfl, rfl⟩
theorem tm (n : Int) : (n.tmod 10 = n % 10 ∧ 0 ≤ n.tmod 10) ∨ (n.tmod 10 = n % 10 - 10 ∧ n.tmod 10 < 0) := by
  have h := Int.tmod_eq_emod (a := n) (b := 10)
  split at h
  · left; omega
  · right
    have : n % 10 ≠ 0 := fun e => by
      next hn => exact hn (.inr (Int.dvd_of_emod_eq_zero e))
    have e : ((Int.natAbs 10 : Nat) : Int) = 10 := rfl
    rw [e] at h
    omega
theorem tm801 (n : Int) : (n.tmod 801 = n % 801 ∧ 0 ≤ n.tmod 801) ∨ (n.tmod 801 = n % 801 - 801 ∧ n.tmod 801 < 0) := by
  have h := Int.tmod_eq_emod (a := n) (b := 801)
  split at h
  · left; omega
  · right
    have : n % 801 ≠ 0 := fun e => by
      next hn => exact hn (.inr (Int.dvd_of_emod_eq_zero e))
    have e : ((Int.natAbs 801 : Nat) : Int) = 801 := rfl
    rw [e] at h
    omega
theorem ret_int {k : IntKind} {a b : Int} (h : a = b) : Ending.returned (.int k a) = .returned (.int k b) := by rw [h]
theorem within_nine (n : Int) (w : World) : Calls Tryz.prog 8 #[.int .i64 n, .int .i64 0, .int .i64 9] w fun e w' => e = .returned (.int .i64 (n % 10)) ∧ w = w' := by
  obtain ⟨m, hm⟩ : ∃ m, n.tmod 10 = m := ⟨_, rfl⟩
  have ht := tm n
  have hd := Int.tmod_def n 10
  rw [hm] at ht hd
  rcases ht with ⟨h1, h2⟩ | ⟨h1, h2⟩
  · go_enter Tryz.func8, Tryz.ntmps8
    go_wp2
    go_ret
    refine ⟨ret_int ?_, rfl⟩
    omega
  · go_enter Tryz.func8, Tryz.ntmps8
    go_wp2
    go_ret
    refine ⟨ret_int ?_, rfl⟩
    omega
theorem within_wide (n : Int) (w : World) : Calls Tryz.prog 8 #[.int .i64 n, .int .i64 100, .int .i64 900] w fun e w' => e = .returned (.int .i64 (100 + n % 801)) ∧ w = w' := by
  obtain ⟨m, hm⟩ : ∃ m, n.tmod 801 = m := ⟨_, rfl⟩
  have ht := tm801 n
  have hd := Int.tmod_def n 801
  rw [hm] at ht hd
  rcases ht with ⟨h1, h2⟩ | ⟨h1, h2⟩
  · go_enter Tryz.func8, Tryz.ntmps8
    go_wp2
    go_ret
    refine ⟨ret_int ?_, rfl⟩
    omega
  · go_enter Tryz.func8, Tryz.ntmps8
    go_wp2
    go_ret
    refine ⟨ret_int ?_, rfl⟩
    omega
end Go.Abs
