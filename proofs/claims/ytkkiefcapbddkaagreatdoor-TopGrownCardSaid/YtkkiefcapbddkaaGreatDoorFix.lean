/-
  The walks of package fixed's functions on numbers: what each computes, in the words of the plain text.
-/
import Derived.Test.YtkkiefcapbddkaaGreatDoorProg
import Derived.Test.YtkkiefcapbddkaaGreatDoorPlainA
import Derived.WalkKit
import Derived.Handy
import Derived.Lib.MinMax
namespace Go.Proofs.YtkkiefcapbddkaaGreatDoor
open Go.RowKit Num
theorem ret_int {k : IntKind} {a b : Int} (h : a = b) : Ending.returned (.int k a) = .returned (.int k b) := by rw [h]
theorem hid {p : Prop} (h : p) : Hid p := h

theorem fixed_Sat (n : Int) (w : World) : Calls Tryz.prog 197 #[.int .i64 n] w fun e w' => e = .returned (.int .i64 (sat n)) ∧ w = w' := by
  go_enter Tryz.func197, Tryz.ntmps197
  go_wp2
  go_ret
  exact ⟨rfl, rfl⟩

theorem fixed_Add (a b : Int) (w : World) : Calls Tryz.prog 141 #[.int .i64 a, .int .i64 b] w fun e w' => e = .returned (.int .i64 (add a b)) ∧ w = w' := by
  have h1 := sat_lo a
  have h2 := sat_hi a
  have h3 := sat_lo b
  have h4 := sat_hi b
  go_enter Tryz.func141, Tryz.ntmps141
  go_wp2_with (go_at_call 197; refine (fixed_Sat _ _).mono ?_; rintro e w' ⟨rfl, rfl⟩)
  go_ret
  exact ⟨rfl, rfl⟩

theorem fixed_Sub (a b : Int) (w : World) : Calls Tryz.prog 129 #[.int .i64 a, .int .i64 b] w fun e w' => e = .returned (.int .i64 (sub a b)) ∧ w = w' := by
  have h1 := sat_lo a
  have h2 := sat_hi a
  have h3 := sat_lo b
  have h4 := sat_hi b
  go_enter Tryz.func129, Tryz.ntmps129
  go_wp2_with (go_at_call 197; refine (fixed_Sat _ _).mono ?_; rintro e w' ⟨rfl, rfl⟩)
  go_ret
  exact ⟨rfl, rfl⟩

theorem fixed_floor (a b : Int) (w : World) (h1 : -4611686018427387904 ≤ a) (h2 : a ≤ 4611686018427387904) (h3 : 1 ≤ b) : Calls Tryz.prog 198 #[.int .i64 a, .int .i64 b] w fun e w' => e = .returned (.int .i64 (a / b)) ∧ w = w' := by
  have hf := hid (floor_of a b (by omega))
  obtain ⟨h4, h5⟩ := tdiv_bd (b := b) h1 h2
  have hz : (b == 0) = false := by simp; omega
  go_enter Tryz.func198, Tryz.ntmps198
  go_wp2
  · go_ret
    exact ⟨ret_int (by rw [← hf.out, if_pos (by assumption)]), rfl⟩
  · go_ret
    exact ⟨ret_int (by rw [← hf.out, if_neg (by omega)]), rfl⟩

theorem fixed_Part (a b c : Int) (w : World) : Calls Tryz.prog 130 #[.int .i64 a, .int .i64 b, .int .i64 c] w fun e w' => e = .returned (.int .i64 (prt a b c)) ∧ w = w' := by
  have h := mul_fits (sat_lo a) (sat_hi a) (Int.le_trans (by decide) (clip_lo b 0 65536 (by omega))) (clip_hi b _ _) rfl
  have h3 := clip_lo c 1 65536 (by omega)
  unfold clip at h h3
  obtain ⟨h1, h2⟩ := h
  go_enter Tryz.func130, Tryz.ntmps130
  go_wp2_with (first | (go_at_call 197; refine (fixed_Sat _ _).mono ?_; rintro e w' ⟨rfl, rfl⟩) | (go_at_call 198; refine (fixed_floor _ _ _ (by assumption) (by assumption) (by assumption)).mono ?_; rintro e w' ⟨rfl, rfl⟩))
  go_ret
  exact ⟨rfl, rfl⟩

end Go.Proofs.YtkkiefcapbddkaaGreatDoor
