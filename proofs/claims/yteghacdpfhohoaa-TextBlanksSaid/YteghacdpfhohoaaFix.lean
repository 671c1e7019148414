/-
  The walks of package fixed's functions on numbers: what each computes, in the words of the plain text.
-/
import Derived.Test.YteghacdpfhohoaaProg
import Derived.Test.YteghacdpfhohoaaPlainA
import Derived.WalkKit
import Derived.Handy
import Derived.Lib.MinMax
namespace Go.Proofs.Yteghacdpfhohoaa
open Go.RowKit Num
theorem ret_int {k : IntKind} {a b : Int} (h : a = b) : Ending.returned (.int k a) = .returned (.int k b) := by rw [h]
theorem hid {p : Prop} (h : p) : Hid p := h

theorem fixed_Sat (n : Int) (w : World) : Calls Try.prog 50 #[.int .i64 n] w fun e w' => e = .returned (.int .i64 (sat n)) ∧ w = w' := by
  go_enter Try.func50, Try.ntmps50
  go_wp2
  go_ret
  exact ⟨rfl, rfl⟩

theorem fixed_Add (a b : Int) (w : World) : Calls Try.prog 53 #[.int .i64 a, .int .i64 b] w fun e w' => e = .returned (.int .i64 (add a b)) ∧ w = w' := by
  have h1 := sat_lo a
  have h2 := sat_hi a
  have h3 := sat_lo b
  have h4 := sat_hi b
  go_enter Try.func53, Try.ntmps53
  go_wp2_with (go_at_call 50; refine (fixed_Sat _ _).mono ?_; rintro e w' ⟨rfl, rfl⟩)
  go_ret
  exact ⟨rfl, rfl⟩

theorem fixed_Sub (a b : Int) (w : World) : Calls Try.prog 51 #[.int .i64 a, .int .i64 b] w fun e w' => e = .returned (.int .i64 (sub a b)) ∧ w = w' := by
  have h1 := sat_lo a
  have h2 := sat_hi a
  have h3 := sat_lo b
  have h4 := sat_hi b
  go_enter Try.func51, Try.ntmps51
  go_wp2_with (go_at_call 50; refine (fixed_Sat _ _).mono ?_; rintro e w' ⟨rfl, rfl⟩)
  go_ret
  exact ⟨rfl, rfl⟩

theorem fixed_floor (a b : Int) (w : World) (h1 : -4611686018427387904 ≤ a) (h2 : a ≤ 4611686018427387904) (h3 : 1 ≤ b) : Calls Try.prog 64 #[.int .i64 a, .int .i64 b] w fun e w' => e = .returned (.int .i64 (a / b)) ∧ w = w' := by
  have hf := hid (floor_of a b (by omega))
  obtain ⟨h4, h5⟩ := tdiv_bd (b := b) h1 h2
  have hz : (b == 0) = false := by simp; omega
  go_enter Try.func64, Try.ntmps64
  go_wp2
  · go_ret
    exact ⟨ret_int (by rw [← hf.out, if_pos (by assumption)]), rfl⟩
  · go_ret
    exact ⟨ret_int (by rw [← hf.out, if_neg (by omega)]), rfl⟩

theorem fixed_Part (a b c : Int) (w : World) : Calls Try.prog 55 #[.int .i64 a, .int .i64 b, .int .i64 c] w fun e w' => e = .returned (.int .i64 (prt a b c)) ∧ w = w' := by
  have h := mul_fits (sat_lo a) (sat_hi a) (Int.le_trans (by decide) (clip_lo b 0 65536 (by omega))) (clip_hi b _ _) rfl
  have h3 := clip_lo c 1 65536 (by omega)
  unfold clip at h h3
  obtain ⟨h1, h2⟩ := h
  go_enter Try.func55, Try.ntmps55
  go_wp2_with (first | (go_at_call 50; refine (fixed_Sat _ _).mono ?_; rintro e w' ⟨rfl, rfl⟩) | (go_at_call 64; refine (fixed_floor _ _ _ (by assumption) (by assumption) (by assumption)).mono ?_; rintro e w' ⟨rfl, rfl⟩))
  go_ret
  exact ⟨rfl, rfl⟩

theorem ref_in (n lo hi : Int) (w : World) (h : lo ≤ hi) : Calls Try.prog 66 #[.int .i64 n, .int .i64 lo, .int .i64 hi] w fun e w' => e = .returned (.int .i64 (clip n lo hi)) ∧ w = w' := by
  have hf := hid (in_clip (n := n) h)
  by_cases h1 : n < lo
  · go_enter Try.func66, Try.ntmps66
    go_wp2
    go_ret
    exact ⟨ret_int (by rw [← hf.out, if_pos h1]), rfl⟩
  · by_cases h2 : hi < n
    · go_enter Try.func66, Try.ntmps66
      go_wp2
      go_ret
      exact ⟨ret_int (by rw [← hf.out, if_neg (by omega), if_pos h2]), rfl⟩
    · go_enter Try.func66, Try.ntmps66
      go_wp2
      go_ret
      exact ⟨ret_int (by rw [← hf.out, if_neg (by omega), if_neg (by omega)]), rfl⟩

theorem ref_Sat (n : Int) (w : World) : Calls Try.prog 65 #[.int .i64 n] w fun e w' => e = .returned (.int .i64 (sat n)) ∧ w = w' := by
  go_enter Try.func65, Try.ntmps65
  go_wp2_with (go_at_call 66; refine (ref_in _ _ _ _ (by omega)).mono ?_; rintro e w' ⟨rfl, rfl⟩)
  go_ret
  exact ⟨rfl, rfl⟩

theorem ref_Add (a b : Int) (w : World) : Calls Try.prog 57 #[.int .i64 a, .int .i64 b] w fun e w' => e = .returned (.int .i64 (add a b)) ∧ w = w' := by
  have h1 := sat_lo a
  have h2 := sat_hi a
  have h3 := sat_lo b
  have h4 := sat_hi b
  go_enter Try.func57, Try.ntmps57
  go_wp2_with (go_at_call 65; refine (ref_Sat _ _).mono ?_; rintro e w' ⟨rfl, rfl⟩)
  go_ret
  exact ⟨rfl, rfl⟩

theorem ref_Part (a b c : Int) (w : World) : Calls Try.prog 56 #[.int .i64 a, .int .i64 b, .int .i64 c] w fun e w' => e = .returned (.int .i64 (prt a b c)) ∧ w = w' := by
  obtain ⟨h1, h2⟩ := mul_fits (sat_lo a) (sat_hi a) (Int.le_trans (by decide) (clip_lo b 0 65536 (by omega))) (clip_hi b _ _) rfl
  have h3 := clip_lo c 1 65536 (by omega)
  have hf := hid (floor_of (sat a * clip b 0 65536) (clip c 1 65536) (by omega))
  obtain ⟨h4, h5⟩ := tdiv_bd (b := clip c 1 65536) h1 h2
  have hz : (clip c 1 65536 == 0) = false := by simp; omega
  go_enter Try.func56, Try.ntmps56
  go_wp2_with (first | (go_at_call 65; refine (ref_Sat _ _).mono ?_; rintro e w' ⟨rfl, rfl⟩) | (go_at_call 66; refine (ref_in _ _ _ _ (by omega)).mono ?_; rintro e w' ⟨rfl, rfl⟩))
  · go_ret
    exact ⟨ret_int (by unfold prt; rw [← hf.out, if_pos (by assumption)]), rfl⟩
  · go_ret
    exact ⟨ret_int (by unfold prt; rw [← hf.out, if_neg (by omega)]), rfl⟩

end Go.Proofs.Yteghacdpfhohoaa
