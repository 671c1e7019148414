/-
  The walk of FixedParts, and its plain law.
-/
import Derived.Test.YtldpmhahndpfnaaKnown1
import Derived.Test.YtldpmhahndpfnaaOpen
namespace Go.Proofs.Ytldpmhahndpfnaa
open Go.RowKit Num Mem Opn

theorem part_small {a num den : Int} (h1 : -1073741824 ≤ a) (h2 : a ≤ 1073741824) (h3 : 0 ≤ num) (h4 : num ≤ 1000) (h5 : 1 ≤ den) (h6 : den ≤ 1000) :
    prt a num den = a * num / den ∧ -1073741824000 ≤ a * num ∧ a * num ≤ 1073741824000 := by
  have e1 : sat a = a := sat_id (by omega) (by omega)
  have e2 : clip num 0 65536 = num := clip_id (by omega) (by omega)
  have e3 : clip den 1 65536 = den := clip_id (by omega) (by omega)
  have b1 : -1073741824000 ≤ a * num := by
    have k1 : -1073741824 * num ≤ a * num := Int.mul_le_mul_of_nonneg_right h1 h3
    omega
  have b2 : a * num ≤ 1073741824000 := by
    have k1 : a * num ≤ 1073741824 * num := Int.mul_le_mul_of_nonneg_right h2 h3
    omega
  refine ⟨?_, b1, b2⟩
  obtain ⟨k1, k2⟩ := ediv_bd (m := 1073741824000) (by omega) b1 b2 h5
  unfold prt
  rw [e1, e2, e3, sat_id (by omega) (by omega)]
theorem part_law {a num den : Int} (h1 : -1073741824 ≤ a) (h2 : a ≤ 1073741824) (h3 : 0 ≤ num) (h4 : num ≤ 1000) (h5 : 1 ≤ den) (h6 : den ≤ 1000) :
    ∃ p, prt a num den = p ∧ -1073741824000 ≤ p ∧ p ≤ 1073741824000 ∧ p * den ≤ a * num ∧ a * num < (p + 1) * den ∧ -1073741825000 ≤ p * den ∧ (p + 1) * den ≤ 1073741825000 := by
  obtain ⟨e, b1, b2⟩ := part_small h1 h2 h3 h4 h5 h6
  obtain ⟨k1, k2⟩ := ediv_bd (m := 1073741824000) (by omega) b1 b2 h5
  have k3 := Int.mul_ediv_add_emod (a * num) den
  have k4 := Int.emod_nonneg (a * num) (by omega : den ≠ 0)
  have k5 := Int.emod_lt_of_pos (a * num) (by omega : 0 < den)
  rw [Int.mul_comm] at k3
  refine ⟨_, e, k1, k2, ?_, ?_, ?_, ?_⟩
  · omega
  · rw [Int.add_mul]; omega
  · omega
  · rw [Int.add_mul]; omega
theorem part_whole {a den : Int} (h1 : -1073741824 ≤ a) (h2 : a ≤ 1073741824) (h5 : 1 ≤ den) (h6 : den ≤ 1000) : prt a den den = a := by
  rw [(part_small h1 h2 (by omega) h6 h5 h6).1, Int.mul_ediv_cancel _ (by omega)]

set_option maxHeartbeats 2000000 in
theorem walk_FixedParts (a b c : Int) (w : World) (_ : I64 a) (_ : I64 b) (_ : I64 c) :
    Calls Try.prog 7 #[.int .i64 a, .int .i64 b, .int .i64 c] w fun e w' => e = .returned (.bool true) ∧ Below w.heap.size w w' := by
  by_cases hs : (a ≤ 1073741824 ∧ -1073741824 ≤ a) ∧ (0 ≤ b ∧ b ≤ 1000) ∧ (1 ≤ c ∧ c ≤ 1000)
  · obtain ⟨⟨a1, a2⟩, ⟨b1, b2⟩, ⟨c1, c2⟩⟩ := hs
    obtain ⟨p, hp, p1, p2, p3, p4, p5, p6⟩ := part_law a2 a1 b1 b2 c1 c2
    have HP := hid hp
    have HB := hid (part_small a2 a1 b1 b2 c1 c2).2
    have q1 : -1073741825000 ≤ a * b := by have := HB.out; omega
    have q2 : a * b ≤ 1073741825000 := by have := HB.out; omega
    have q3 : -1073741825000 ≤ (p + 1) * c := by omega
    have q4 : p * c ≤ 1073741825000 := by omega
    have HW : Hid (prt a c c = a) := part_whole a2 a1 c1 c2
    clear hp
    go_enter Try.func7, Try.ntmps7
    go_wp2_with fail
    refine (fixed_Part _ _ _ _).mono ?_
    rintro e w' ⟨rfl, rfl⟩
    rw [HP.out]
    go_wp2_with fail
    refine (fixed_Part _ _ _ _).mono ?_
    rintro e w' ⟨rfl, rfl⟩
    rw [HW.out]
    go_wp2_with fail
    refine (known1 _).mono ?_
    rintro e w' ⟨rfl, hb⟩
    go_wp2
    go_ret
    exact ⟨rfl, hb⟩
  · have hc : 1073741824 < a ∨ (a ≤ 1073741824 ∧ a < -1073741824) ∨ ((a ≤ 1073741824 ∧ -1073741824 ≤ a) ∧ b < 0) ∨ ((a ≤ 1073741824 ∧ -1073741824 ≤ a) ∧ 0 ≤ b ∧ 1000 < b)
        ∨ ((a ≤ 1073741824 ∧ -1073741824 ≤ a) ∧ (0 ≤ b ∧ b ≤ 1000) ∧ c < 1) ∨ ((a ≤ 1073741824 ∧ -1073741824 ≤ a) ∧ (0 ≤ b ∧ b ≤ 1000) ∧ 1 ≤ c ∧ 1000 < c) := by omega
    clear hs
    rcases hc with h | ⟨h, h'⟩ | ⟨⟨h, h'⟩, h''⟩ | ⟨⟨h, h'⟩, h'', h'''⟩ | ⟨⟨h, h'⟩, ⟨h'', h'''⟩, h''''⟩ | ⟨⟨h, h'⟩, ⟨h'', h'''⟩, h'''', h'''''⟩
    all_goals
      go_enter Try.func7, Try.ntmps7
      go_wp2_with (go_at_call 23; refine (known1 _).mono ?_; rintro e w' ⟨rfl, hb⟩)
      go_ret
      exact ⟨rfl, hb⟩
end Go.Proofs.Ytldpmhahndpfnaa
