/-
  The numbers of chapters 1 and 2, with no program in sight: what fixed.Sat, Add, Sub, Times, Part compute.
-/
import Derived.IntWalk
namespace Go.Proofs.YtkkiefcapbddkaaGreatDoor
namespace Num
def sat (n : Int) : Int := min (max n (-70368744177664)) 70368744177664
def add (a b : Int) : Int := sat (sat a + sat b)
def sub (a b : Int) : Int := sat (sat a - sat b)
def clip (n lo hi : Int) : Int := min (max n lo) hi
def times (a n : Int) : Int := sat (sat a * clip n (-65536) 65536)
def prt (a num den : Int) : Int := sat ((sat a * clip num 0 65536) / clip den 1 65536)

/-- the sum of the first k, added from the left on. -/
def sums (l : List Int) : Nat → Int
  | 0 => 0
  | k + 1 => add (sums l k) (l.getD k 0)

theorem sat_lo (n : Int) : -70368744177664 ≤ sat n := by unfold sat; omega
theorem sat_hi (n : Int) : sat n ≤ 70368744177664 := by unfold sat; omega
theorem sat_id {n : Int} (h1 : -70368744177664 ≤ n) (h2 : n ≤ 70368744177664) : sat n = n := by unfold sat; omega
theorem sat_sat (n : Int) : sat (sat n) = sat n := sat_id (sat_lo n) (sat_hi n)
theorem clip_lo (n lo hi : Int) (h : lo ≤ hi) : lo ≤ clip n lo hi := by unfold clip; omega
theorem clip_hi (n lo hi : Int) : clip n lo hi ≤ hi := by unfold clip; omega
theorem clip_id {n lo hi : Int} (h1 : lo ≤ n) (h2 : n ≤ hi) : clip n lo hi = n := by unfold clip; omega
theorem add_lo (a b : Int) : -70368744177664 ≤ add a b := sat_lo _
theorem add_hi (a b : Int) : add a b ≤ 70368744177664 := sat_hi _
theorem sub_lo (a b : Int) : -70368744177664 ≤ sub a b := sat_lo _
theorem sub_hi (a b : Int) : sub a b ≤ 70368744177664 := sat_hi _
/-- a product of something between the rails and something between 0 and 2^16 fits. -/
theorem mul_fits {a n m : Int} (h1 : -70368744177664 ≤ a) (h2 : a ≤ 70368744177664) (h3 : -65536 ≤ n) (h4 : n ≤ 65536) (hm : m = a * n) : -4611686018427387904 ≤ m ∧ m ≤ 4611686018427387904 := by
  subst hm
  constructor
  · rcases Int.le_total 0 n with h | h
    · calc (-4611686018427387904 : Int) ≤ -70368744177664 * 65536 := by decide
        _ ≤ -70368744177664 * n := by omega
        _ ≤ a * n := Int.mul_le_mul_of_nonneg_right h1 h
    · calc (-4611686018427387904 : Int) ≤ 70368744177664 * n := by omega
        _ ≤ a * n := Int.mul_le_mul_of_nonpos_right h2 h
  · rcases Int.le_total 0 n with h | h
    · calc a * n ≤ 70368744177664 * n := Int.mul_le_mul_of_nonneg_right h2 h
        _ ≤ 4611686018427387904 := by omega
    · calc a * n ≤ -70368744177664 * n := Int.mul_le_mul_of_nonpos_right h1 h
        _ ≤ 4611686018427387904 := by omega
/-- Go's quotient rounded down, by the truncated one. -/
theorem floor_of (a b : Int) (hb : 0 < b) : (if a.tmod b < 0 then a.tdiv b - 1 else a.tdiv b) = a / b := by
  rw [Int.tdiv_eq_ediv, Int.tmod_eq_emod]
  have hn : b.natAbs = b := by omega
  have hs : b.sign = 1 := Int.sign_eq_one_of_pos hb
  have h1 := Int.emod_nonneg a (by omega : b ≠ 0)
  have h2 := Int.emod_lt_of_pos a hb
  by_cases h : 0 ≤ a ∨ b ∣ a
  · rw [if_pos h, if_pos h, if_neg (by omega)]; omega
  · rw [if_neg h, if_neg h, if_pos (by omega), hs]; omega
/-- Go's quotient lies between the dividend and its negative. -/
theorem tdiv_bd {a b m : Int} (h1 : -m ≤ a) (h2 : a ≤ m) : -m ≤ a.tdiv b ∧ a.tdiv b ≤ m := by
  have hn : (a.tdiv b).natAbs ≤ a.natAbs := by
    rw [Int.natAbs_tdiv]
    exact Nat.div_le_self _ _
  omega
/-- a quotient rounded down lies there, too. -/
theorem ediv_bd {a b m : Int} (h0 : 0 ≤ m) (h1 : -m ≤ a) (h2 : a ≤ m) (hb : 1 ≤ b) : -m ≤ a / b ∧ a / b ≤ m := by
  constructor
  · have h3 : -m ≤ (-m) / b := by
      rw [Int.le_ediv_iff_mul_le (by omega)]
      have h4 := Int.mul_le_mul_of_nonneg_left hb h0
      rw [Int.neg_mul]
      omega
    exact Int.le_trans h3 (Int.ediv_le_ediv (by omega) h1)
  · exact Int.le_trans (Int.ediv_le_ediv (by omega) h2) (Int.ediv_le_self _ h0)
/-- the reference's way to bring a number between two others. -/
theorem in_clip {n lo hi : Int} (h : lo ≤ hi) : (if n < lo then lo else if hi < n then hi else n) = clip n lo hi := by
  unfold clip
  split
  · omega
  · split <;> omega
end Num
end Go.Proofs.YtkkiefcapbddkaaGreatDoor
