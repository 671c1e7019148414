/-
  words for memory, numbers, regions that draw; shares.
-/
import Derived.IntWalk
import Derived.Test.YtkkiefcapbddkaaGreatDoorProg
import Derived.WalkKit
import Derived.Handy
import Derived.Lib.MinMax
import Derived.Below
import Derived.Laws.Rows
import Derived.Laws.OwnMore
import Derived.Deep.Draws
import Derived.Deep.QuietTactic
import Derived.BigQuiet
import Derived.RegionTactic
import Derived.ChangeAlike
import Derived.Laws.AppendOwn
import Derived.Deep.MidRow
import Derived.ProofKit
import Derived.OpenShut
import Derived.SizedLaws
import Derived.Lib.SmallJoins
import Derived.StillTailTactics
import Derived.StillTactics
import Derived.Deep.RegionHeld3
import Derived.Deep.DeepCutAuto
import Derived.BigFrame
import Derived.StillTail
import Derived.OwnWalk
import Derived.Deep.Slices
import Derived.Deep.Fields
import Derived.Deep.DeepMust
set_option linter.all false
namespace Go.Proofs.YtkkiefcapbddkaaGreatDoor
namespace Num
def sat (n : Int) : Int := min (max n (-70368744177664)) 70368744177664
def add (a b : Int) : Int := sat (sat a + sat b)
def sub (a b : Int) : Int := sat (sat a - sat b)
def clip (n lo hi : Int) : Int := min (max n lo) hi
def times (a n : Int) : Int := sat (sat a * clip n (-65536) 65536)
def prt (a num den : Int) : Int := sat ((sat a * clip num 0 65536) / clip den 1 65536)

def sums (l : List Int) : Nat → Int
  | 0 => 0
  | k + 1 => add (sums l k) (l.getD k 0)

theorem sat_lo (n : Int) : -70368744177664 ≤ sat n := by unfold sat; omega
theorem sat_hi (n : Int) : sat n ≤ 70368744177664 := by unfold sat; omega
theorem sat_id {n : Int} (h1 : -70368744177664 ≤ n) (h2 : n ≤ 70368744177664) : sat n = n := by unfold sat; omega
theorem sat_sat (n : Int) : sat (sat n) = sat n := sat_id (sat_lo n) (sat_hi n)
theorem clip_lo (n lo hi : Int) (h : lo ≤ hi) : lo ≤ clip n lo hi := by unfold clip; omega
theorem clip_hi (n lo hi : Int) : clip n lo hi ≤ hi := by unfold clip; omega
theorem clip_id {n lo hi : Int} (h1 : lo ≤ n) (h2 : n ≤ hi) : clip n lo hi = n := by unfold clip; omega
theorem add_lo (a b : Int) : -70368744177664 ≤ add a b := sat_lo _
theorem add_hi (a b : Int) : add a b ≤ 70368744177664 := sat_hi _
theorem sub_lo (a b : Int) : -70368744177664 ≤ sub a b := sat_lo _
theorem sub_hi (a b : Int) : sub a b ≤ 70368744177664 := sat_hi _
theorem mul_fits {a n m : Int} (h1 : -70368744177664 ≤ a) (h2 : a ≤ 70368744177664) (h3 : -65536 ≤ n) (h4 : n ≤ 65536) (hm : m = a * n) : -4611686018427387904 ≤ m ∧ m ≤ 4611686018427387904 := by
  subst hm
  constructor
  · rcases Int.le_total 0 n with h | h
    · calc (-4611686018427387904 : Int) ≤ -70368744177664 * 65536 := by decide
        _ ≤ -70368744177664 * n := by omega
        _ ≤ a * n := Int.mul_le_mul_of_nonneg_right h1 h
    · calc (-4611686018427387904 : Int) ≤ 70368744177664 * n := by omega
        _ ≤ a * n := Int.mul_le_mul_of_nonpos_right h2 h
  · rcases Int.le_total 0 n with h | h
    · calc a * n ≤ 70368744177664 * n := Int.mul_le_mul_of_nonneg_right h2 h
        _ ≤ 4611686018427387904 := by omega
    · calc a * n ≤ -70368744177664 * n := Int.mul_le_mul_of_nonpos_right h1 h
        _ ≤ 4611686018427387904 := by omega
theorem floor_of (a b : Int) (hb : 0 < b) : (if a.tmod b < 0 then a.tdiv b - 1 else a.tdiv b) = a / b := by
  rw [Int.tdiv_eq_ediv, Int.tmod_eq_emod]
  have hn : b.natAbs = b := by omega
  have hs : b.sign = 1 := Int.sign_eq_one_of_pos hb
  have h1 := Int.emod_nonneg a (by omega : b ≠ 0)
  have h2 := Int.emod_lt_of_pos a hb
  by_cases h : 0 ≤ a ∨ b ∣ a
  · rw [if_pos h, if_pos h, if_neg (by omega)]; omega
  · rw [if_neg h, if_neg h, if_pos (by omega), hs]; omega
theorem tdiv_bd {a b m : Int} (h1 : -m ≤ a) (h2 : a ≤ m) : -m ≤ a.tdiv b ∧ a.tdiv b ≤ m := by
  have hn : (a.tdiv b).natAbs ≤ a.natAbs := by
    rw [Int.natAbs_tdiv]
    exact Nat.div_le_self _ _
  omega
theorem ediv_bd {a b m : Int} (h0 : 0 ≤ m) (h1 : -m ≤ a) (h2 : a ≤ m) (hb : 1 ≤ b) : -m ≤ a / b ∧ a / b ≤ m := by
  constructor
  · have h3 : -m ≤ (-m) / b := by
      rw [Int.le_ediv_iff_mul_le (by omega)]
      have h4 := Int.mul_le_mul_of_nonneg_left hb h0
      rw [Int.neg_mul]
      omega
    exact Int.le_trans h3 (Int.ediv_le_ediv (by omega) h1)
  · exact Int.le_trans (Int.ediv_le_ediv (by omega) h2) (Int.ediv_le_self _ h0)
theorem in_clip {n lo hi : Int} (h : lo ≤ hi) : (if n < lo then lo else if hi < n then hi else n) = clip n lo hi := by
  unfold clip
  split
  · omega
  · split <;> omega
end Num
end Go.Proofs.YtkkiefcapbddkaaGreatDoor
namespace Go.Proofs.YtkkiefcapbddkaaGreatDoor
namespace Num
def wt (x : Int) : Int := clip x 0 65536
def wsum (l : List Int) : Nat → Int
  | 0 => 0
  | k + 1 => wsum l k + wt (l.getD k 0)
def tot (t : Int) : Int := clip t 0 70368744177664
def quo (t : Int) (l : List Int) (i : Nat) : Int := tot t * wt (l.getD i 0) / wsum l l.length
def rem (t : Int) (l : List Int) (i : Nat) : Int := tot t * wt (l.getD i 0) % wsum l l.length
def upto (f : Nat → Int) (n k : Nat) : List Int := (List.range n).map fun i => if i < k then f i else 0
def left (t : Int) (l : List Int) : Nat → Int
  | 0 => tot t
  | k + 1 => left t l k - quo t l k
def bst (r : List Int) : Nat → Int
  | 0 => -1
  | k + 1 => if 0 ≤ r.getD k 0 ∧ (bst r k < 0 ∨ r.getD (bst r k).toNat 0 < r.getD k 0) then k else bst r k
def give : Nat → List Int → List Int → List Int
  | 0, x, _ => x
  | j + 1, x, r => give j (x.set (bst r r.length).toNat (x.getD (bst r r.length).toNat 0 + 1)) (r.set (bst r r.length).toNat (-1))
def share (t : Int) (l : List Int) : List Int :=
  if wsum l l.length = 0 then List.replicate l.length 0
  else give (left t l l.length).toNat (upto (quo t l) l.length l.length) (upto (rem t l) l.length l.length)

theorem wt_lo (x : Int) : 0 ≤ wt x := by unfold wt clip; omega
theorem wt_hi (x : Int) : wt x ≤ 65536 := by unfold wt clip; omega
theorem wsum_lo (l : List Int) (k : Nat) : 0 ≤ wsum l k := by
  induction k with
  | zero => simp [wsum]
  | succ k ih => have := wt_lo (l.getD k 0); simp only [wsum]; omega
theorem wsum_hi (l : List Int) (k : Nat) : wsum l k ≤ 65536 * k := by
  induction k with
  | zero => simp [wsum]
  | succ k ih => have := wt_hi (l.getD k 0); simp only [wsum]; omega
theorem wsum_mono (l : List Int) {j k : Nat} (h : j ≤ k) : wsum l j ≤ wsum l k := by
  induction k with
  | zero => have : j = 0 := by omega
            subst this; exact Int.le_refl _
  | succ k ih =>
    rcases Nat.lt_or_ge j (k + 1) with h1 | h1
    · have := ih (by omega); have := wt_lo (l.getD k 0); simp only [wsum]; omega
    · have : j = k + 1 := by omega
      subst this; exact Int.le_refl _
theorem tot_lo (t : Int) : 0 ≤ tot t := by unfold tot clip; omega
theorem tot_hi (t : Int) : tot t ≤ 70368744177664 := by unfold tot clip; omega
theorem quo_lo (t : Int) (l : List Int) (i : Nat) : 0 ≤ quo t l i := Int.ediv_nonneg (Int.mul_nonneg (tot_lo t) (wt_lo _)) (wsum_lo l _)
theorem rem_lo (t : Int) (l : List Int) (i : Nat) (h : wsum l l.length ≠ 0) : 0 ≤ rem t l i := Int.emod_nonneg _ h
theorem rem_hi (t : Int) (l : List Int) (i : Nat) (h : wsum l l.length ≠ 0) : rem t l i < wsum l l.length := Int.emod_lt_of_pos _ (by have := wsum_lo l l.length; omega)
theorem quo_rem (t : Int) (l : List Int) (i : Nat) : quo t l i * wsum l l.length + rem t l i = tot t * wt (l.getD i 0) := by
  unfold quo rem
  rw [Int.mul_comm]
  exact Int.mul_ediv_add_emod _ _
def rsum (t : Int) (l : List Int) : Nat → Int
  | 0 => 0
  | k + 1 => rsum t l k + rem t l k
theorem left_eq (t : Int) (l : List Int) (k : Nat) : left t l k * wsum l l.length = tot t * (wsum l l.length - wsum l k) + rsum t l k := by
  induction k with
  | zero => simp [left, wsum, rsum]
  | succ k ih =>
    have h := quo_rem t l k
    simp only [left, wsum, rsum]
    rw [Int.sub_mul, ih]
    have e : tot t * (wsum l l.length - (wsum l k + wt (l.getD k 0))) = tot t * (wsum l l.length - wsum l k) - tot t * wt (l.getD k 0) := by
      rw [← Int.mul_sub]; congr 1; omega
    rw [e]; omega
theorem rsum_lo (t : Int) (l : List Int) (h : wsum l l.length ≠ 0) (k : Nat) : 0 ≤ rsum t l k := by
  induction k with
  | zero => simp [rsum]
  | succ k ih => have := rem_lo t l k h; simp only [rsum]; omega
theorem rsum_hi (t : Int) (l : List Int) (h : wsum l l.length ≠ 0) (k : Nat) (hk : 0 < k) : rsum t l k < k * wsum l l.length := by
  induction k with
  | zero => omega
  | succ k ih =>
    have h1 := rem_hi t l k h
    simp only [rsum]
    rw [show ((k + 1 : Nat) : Int) * wsum l l.length = (k : Int) * wsum l l.length + wsum l l.length by rw [Int.natCast_add, Int.add_mul]; simp]
    rcases Nat.eq_zero_or_pos k with h0 | h0
    · subst h0; simp [rsum]; omega
    · have := ih h0; omega
theorem left_lo (t : Int) (l : List Int) (h : wsum l l.length ≠ 0) {k : Nat} (hk : k ≤ l.length) : 0 ≤ left t l k := by
  have h1 := left_eq t l k
  have h2 := rsum_lo t l h k
  have h3 := wsum_mono l hk
  have h4 := wsum_lo l l.length
  have h5 : 0 ≤ tot t * (wsum l l.length - wsum l k) := Int.mul_nonneg (tot_lo t) (by omega)
  rcases Int.lt_or_le (left t l k) 0 with h6 | h6
  · have h7 : left t l k * wsum l l.length < 0 := Int.mul_neg_of_neg_of_pos h6 (by omega)
    omega
  · exact h6
theorem left_hi (t : Int) (l : List Int) (k : Nat) : left t l k ≤ tot t := by
  induction k with
  | zero => exact Int.le_refl _
  | succ k ih => have := quo_lo t l k; simp only [left]; omega
theorem left_lt (t : Int) (l : List Int) (h : wsum l l.length ≠ 0) : left t l l.length < l.length := by
  have h1 := left_eq t l l.length
  have hl : 0 < l.length := by
    rcases Nat.eq_zero_or_pos l.length with h0 | h0
    · rw [h0] at h; simp [wsum] at h
    · exact h0
  have h2 := rsum_hi t l h l.length hl
  have h4 := wsum_lo l l.length
  rw [Int.sub_self, Int.mul_zero, Int.zero_add] at h1
  rw [← h1] at h2
  exact Int.lt_of_mul_lt_mul_right h2 h4
theorem quo_hi (t : Int) (l : List Int) (i : Nat) (h : wsum l l.length ≠ 0) (hi : i < l.length) : quo t l i ≤ tot t := by
  have h1 := left_lo t l h (k := i + 1) (by omega)
  have h2 := left_hi t l i
  simp only [left] at h1
  omega
theorem upto_length (f : Nat → Int) (n k : Nat) : (upto f n k).length = n := by simp [upto]
theorem upto_getD (f : Nat → Int) {n k i : Nat} (hi : i < n) : (upto f n k).getD i 0 = if i < k then f i else 0 := by
  simp [upto, List.getD_eq_getElem?_getD, hi]
theorem upto_set (f : Nat → Int) {n k : Nat} : (upto f n k).set k (f k) = upto f n (k + 1) := by
  apply List.ext_getElem
  · simp [upto]
  · intro i h1 h2
    simp only [upto, List.getElem_set, List.getElem_map, List.getElem_range]
    by_cases h : k = i
    · subst h; simp
    · rw [if_neg h]
      by_cases h3 : i < k
      · rw [if_pos h3, if_pos (by omega)]
      · rw [if_neg h3, if_neg (by omega)]
theorem upto_zero (f : Nat → Int) (n : Nat) : upto f n 0 = List.replicate n 0 := by
  apply List.ext_getElem
  · simp [upto]
  · intro i h1 h2; simp [upto]
theorem bst_lo (r : List Int) (k : Nat) : -1 ≤ bst r k := by
  induction k with
  | zero => simp [bst]
  | succ k ih => simp only [bst]; split <;> omega
theorem bst_hi (r : List Int) (k : Nat) : bst r k < k := by
  induction k with
  | zero => simp [bst]
  | succ k ih => simp only [bst]; split <;> omega
def cnt : List Int → Nat
  | [] => 0
  | y :: r => (if 0 ≤ y then 1 else 0) + cnt r
theorem cnt_get {r : List Int} (h : 0 < cnt r) : ∃ i, i < r.length ∧ 0 ≤ r.getD i 0 := by
  induction r with
  | nil => simp [cnt] at h
  | cons y r ih =>
    by_cases hy : 0 ≤ y
    · exact ⟨0, by simp, by simpa using hy⟩
    · simp only [cnt, if_neg hy, Nat.zero_add] at h
      obtain ⟨i, h1, h2⟩ := ih h
      exact ⟨i + 1, by simpa using h1, by simpa using h2⟩
theorem cnt_set {r : List Int} {i : Nat} (hi : i < r.length) (h : 0 ≤ r.getD i 0) : cnt (r.set i (-1)) + 1 = cnt r := by
  induction r generalizing i with
  | nil => simp at hi
  | cons y r ih =>
    cases i with
    | zero =>
      have hy : 0 ≤ y := by simpa using h
      simp [cnt, hy]; omega
    | succ i =>
      have := ih (i := i) (by simpa using hi) (by simpa using h)
      simp only [List.set_cons_succ, cnt]; omega
theorem cnt_all {r : List Int} (h : ∀ i, i < r.length → 0 ≤ r.getD i 0) : cnt r = r.length := by
  induction r with
  | nil => rfl
  | cons y r ih =>
    have hy : 0 ≤ y := by simpa using h 0 (by simp)
    have := ih (fun i hi => by simpa using h (i + 1) (by simpa using hi))
    simp only [cnt, if_pos hy, List.length_cons]; omega
theorem bst_get {r : List Int} {k : Nat} (h : 0 ≤ bst r k) : 0 ≤ r.getD (bst r k).toNat 0 := by
  induction k with
  | zero => simp [bst] at h
  | succ k ih =>
    simp only [bst] at h ⊢
    split
    · rename_i hc; simpa using hc.1
    · rename_i hc; rw [if_neg hc] at h; exact ih h
theorem bst_some {r : List Int} {i k : Nat} (hi : i < k) (h : 0 ≤ r.getD i 0) : 0 ≤ bst r k := by
  induction k with
  | zero => omega
  | succ k ih =>
    simp only [bst]
    split
    · omega
    · rename_i hc
      rcases Nat.lt_or_ge i k with h1 | h1
      · exact ih h1
      · obtain rfl : i = k := by omega
        by_cases h2 : bst r i < 0
        · exact absurd ⟨h, .inl h2⟩ hc
        · omega
theorem bst_found {j : Nat} {r : List Int} (h : j < cnt r) : ∃ q : Nat, bst r r.length = q ∧ q < r.length ∧ 0 ≤ r.getD q 0 := by
  obtain ⟨i, h1, h2⟩ := cnt_get (by omega : 0 < cnt r)
  have h3 := bst_some h1 h2
  have h4 := bst_get h3
  have h5 := bst_hi r r.length
  exact ⟨(bst r r.length).toNat, by omega, by omega, h4⟩
def bnd (x : List Int) (j : Nat) : Prop := ∀ i, i < x.length → 0 ≤ x.getD i 0 ∧ x.getD i 0 + j ≤ 140737488355328
theorem bnd_set {x : List Int} {j q : Nat} (h : bnd x (j + 1)) (hq : q < x.length) : bnd (x.set q (x.getD q 0 + 1)) j := by
  intro i hi
  rw [List.length_set] at hi
  have h1 := h i hi
  have h2 := h q hq
  simp only [List.getD_eq_getElem?_getD] at h1 h2 ⊢
  rw [List.getElem?_set]
  by_cases e : q = i
  · subst e; simp only [if_pos hq, if_true, Option.getD_some]; omega
  · rw [if_neg e]; omega
theorem give_succ {j q : Nat} {x r : List Int} (hq : bst r r.length = q) : give (j + 1) x r = give j (x.set q (x.getD q 0 + 1)) (r.set q (-1)) := by
  simp [give, hq]
theorem bnd_start (t : Int) (l : List Int) (h : wsum l l.length ≠ 0) (hl : l.length ≤ 1048576) {j : Nat} (hj : j < l.length) : bnd (upto (quo t l) l.length l.length) j := by
  intro i hi
  rw [upto_length] at hi
  rw [upto_getD _ hi, if_pos hi]
  have := quo_lo t l i
  have := quo_hi t l i h hi
  have := tot_hi t
  omega
theorem cnt_start (t : Int) (l : List Int) (h : wsum l l.length ≠ 0) : cnt (upto (rem t l) l.length l.length) = l.length := by
  rw [cnt_all, upto_length]
  intro i hi
  rw [upto_length] at hi
  rw [upto_getD _ hi, if_pos hi]
  exact rem_lo t l i h
end Num
end Go.Proofs.YtkkiefcapbddkaaGreatDoor
namespace Go.Proofs.YtkkiefcapbddkaaGreatDoor
namespace Num
theorem getD_set {x : List Int} {p i : Nat} {v : Int} : (x.set p v).getD i 0 = if p = i ∧ i < x.length then v else x.getD i 0 := by
  simp only [List.getD_eq_getElem?_getD, List.getElem?_set]
  by_cases h : p = i
  · subst h
    by_cases h2 : p < x.length
    · simp [h2]
    · simp [h2]
  · simp [h]
theorem bst_max {r : List Int} {i k : Nat} (hi : i < k) (h : 0 ≤ bst r k) : r.getD i 0 ≤ r.getD (bst r k).toNat 0 := by
  induction k with
  | zero => omega
  | succ k ih =>
    simp only [bst] at h ⊢
    split
    · rename_i hc
      simp only [Int.toNat_natCast]
      rcases Nat.lt_or_ge i k with h1 | h1
      · rcases Int.lt_or_le (bst r k) 0 with h2 | h2
        · rcases Int.lt_or_le (r.getD i 0) 0 with h3 | h3
          · omega
          · have := bst_some h1 h3; omega
        · have := ih h1 h2
          rcases hc.2 with h4 | h4 <;> omega
      · have : i = k := by omega
        subst this; exact Int.le_refl _
    · rename_i hc
      rw [if_neg hc] at h
      rcases Nat.lt_or_ge i k with h1 | h1
      · exact ih h1 h
      · have : i = k := by omega
        subst this
        have := bst_get h
        rcases Int.lt_or_le (r.getD i 0) 0 with h3 | h3
        · omega
        · rcases Int.lt_or_le (r.getD (bst r i).toNat 0) (r.getD i 0) with h4 | h4
          · exact absurd ⟨h3, .inr h4⟩ hc
          · exact h4
theorem pick {j : Nat} {r : List Int} (h : j < cnt r) : ∃ q : Nat, bst r r.length = q ∧ q < r.length ∧ 0 ≤ r.getD q 0 ∧ ∀ i, i < r.length → r.getD i 0 ≤ r.getD q 0 := by
  obtain ⟨q, h1, h2, h3⟩ := bst_found h
  refine ⟨q, h1, h2, h3, fun i hi => ?_⟩
  have := bst_max hi (by omega : 0 ≤ bst r r.length)
  rwa [h1, Int.toNat_natCast] at this
theorem give_ind (Q : Nat → List Int → List Int → Prop)
    (hstep : ∀ j x r q, x.length = r.length → j + 1 < cnt r → Q (j + 1) x r → q < r.length → 0 ≤ r.getD q 0 → (∀ i, i < r.length → r.getD i 0 ≤ r.getD q 0) → Q j (x.set q (x.getD q 0 + 1)) (r.set q (-1))) :
    ∀ j x r, x.length = r.length → j < cnt r → Q j x r → ∃ r', Q 0 (give j x r) r' ∧ r'.length = r.length := by
  intro j
  induction j with
  | zero => intro x r _ _ h; exact ⟨r, h, rfl⟩
  | succ j ih =>
    intro x r hl hj h
    obtain ⟨q, h1, h2, h3, h4⟩ := pick hj
    rw [give_succ h1]
    have hc := cnt_set h2 h3
    obtain ⟨r', h5, h6⟩ := ih (x.set q (x.getD q 0 + 1)) (r.set q (-1)) (by simp [hl]) (by omega) (hstep j x r q hl hj h h2 h3 h4)
    exact ⟨r', h5, by simpa using h6⟩
def psum (x : List Int) : Nat → Int
  | 0 => 0
  | k + 1 => psum x k + x.getD k 0
theorem psum_set {x : List Int} {q : Nat} (hq : q < x.length) (v : Int) (k : Nat) : psum (x.set q v) k = psum x k + if q < k then v - x.getD q 0 else 0 := by
  induction k with
  | zero => simp [psum]
  | succ k ih =>
    simp only [psum]
    rw [ih, getD_set]
    by_cases h : q = k
    · subst h; simp [hq]; omega
    · by_cases h2 : q < k
      · simp [h, h2, show q < k + 1 by omega]; omega
      · simp [h, h2, show ¬ q < k + 1 by omega]
theorem share_give (t : Int) (l : List Int) (h : wsum l l.length ≠ 0) : ∃ j, (left t l l.length).toNat = j ∧ j < l.length ∧ (j : Int) = left t l l.length ∧ share t l = give j (upto (quo t l) l.length l.length) (upto (rem t l) l.length l.length) := by
  have h1 := left_lo t l h (k := l.length) (by omega)
  have h2 := left_lt t l h
  exact ⟨_, rfl, by omega, by omega, by unfold share; rw [if_neg h]⟩
theorem cnt_r (t : Int) (l : List Int) (h : wsum l l.length ≠ 0) : cnt (upto (rem t l) l.length l.length) = l.length := cnt_start t l h
theorem upto_get (f : Nat → Int) {n i : Nat} (hi : i < n) : (upto f n n).getD i 0 = f i := by rw [upto_getD f hi, if_pos hi]

theorem psum_quo (t : Int) (l : List Int) (k : Nat) (hk : k ≤ l.length) : psum (upto (quo t l) l.length l.length) k = tot t - left t l k := by
  induction k with
  | zero => simp [psum, left]
  | succ k ih => simp only [psum, left]; rw [ih (by omega), upto_get _ (by omega)]; omega
theorem psum_rem (t : Int) (l : List Int) (k : Nat) (hk : k ≤ l.length) : psum (upto (rem t l) l.length l.length) k = rsum t l k := by
  induction k with
  | zero => simp [psum, rsum]
  | succ k ih => simp only [psum, rsum]; rw [ih (by omega), upto_get _ (by omega)]

theorem share_sum (t : Int) (l : List Int) (h : wsum l l.length ≠ 0) : psum (share t l) l.length = tot t := by
  obtain ⟨j, _, hj, hj2, e⟩ := share_give t l h
  obtain ⟨r', hq, _⟩ := give_ind (fun j x r => r.length = l.length ∧ x.length = l.length ∧ psum x l.length + j = tot t)
    (fun j x r q hl _ ⟨h1, h2, h3⟩ hq _ _ => ⟨by simpa using h1, by simpa using h2, by
      rw [psum_set (by omega), if_pos (by omega)]; omega⟩)
    j (upto (quo t l) l.length l.length) (upto (rem t l) l.length l.length) (by rw [upto_length, upto_length]) (by rw [cnt_r t l h]; exact hj)
    ⟨upto_length _ _ _, upto_length _ _ _, by rw [psum_quo t l _ (Nat.le_refl _)]; omega⟩
  rw [e]
  simpa using hq.2.2
theorem share_bnd (t : Int) (l : List Int) (hl : l.length ≤ 1048576) {i : Nat} (hi : i < l.length) : 0 ≤ (share t l).getD i 0 ∧ (share t l).getD i 0 ≤ 140737488355328 := by
  by_cases h : wsum l l.length = 0
  · unfold share
    rw [if_pos h]
    simp [List.getD_eq_getElem?_getD, hi]
  · obtain ⟨j, _, hj, hj2, e⟩ := share_give t l h
    obtain ⟨r', hq, _⟩ := give_ind (fun j x r => x.length = l.length ∧ bnd x j)
      (fun j x r q hl _ ⟨h1, h2⟩ hq _ _ => ⟨by simpa using h1, bnd_set h2 (by omega)⟩)
      j (upto (quo t l) l.length l.length) (upto (rem t l) l.length l.length) (by rw [upto_length, upto_length]) (by rw [cnt_r t l h]; exact hj)
      ⟨upto_length _ _ _, bnd_start t l h hl hj⟩
    rw [e]
    have := hq.2 i (by rw [hq.1]; exact hi)
    simpa using this
def cntp (r : List Int) : Nat → Nat
  | 0 => 0
  | k + 1 => cntp r k + if 0 < r.getD k 0 then 1 else 0
theorem cntp_get {r : List Int} {k : Nat} (h : 0 < cntp r k) : ∃ i, i < k ∧ 0 < r.getD i 0 := by
  induction k with
  | zero => simp [cntp] at h
  | succ k ih =>
    by_cases hk : 0 < r.getD k 0
    · exact ⟨k, by omega, hk⟩
    · simp only [cntp, if_neg hk] at h
      obtain ⟨i, h1, h2⟩ := ih (by omega)
      exact ⟨i, by omega, h2⟩
theorem cntp_set {r : List Int} {q : Nat} (hq : q < r.length) (h : 0 < r.getD q 0) (k : Nat) : cntp (r.set q (-1)) k + (if q < k then 1 else 0) = cntp r k := by
  induction k with
  | zero => simp [cntp]
  | succ k ih =>
    simp only [cntp]
    rw [getD_set]
    by_cases e : q = k
    · subst e
      rw [if_neg (by omega)] at ih
      have e1 : ¬ (0 < (if q = q ∧ q < r.length then (-1 : Int) else r.getD q 0)) := by rw [if_pos ⟨rfl, hq⟩]; omega
      rw [if_neg e1, if_pos (by omega : q < q + 1), if_pos h]
      omega
    · by_cases h2 : q < k
      · simp [e, h2, show q < k + 1 by omega] at ih ⊢; omega
      · simp [e, h2, show ¬ q < k + 1 by omega] at ih ⊢; omega
theorem rsum_cntp (t : Int) (l : List Int) (h : wsum l l.length ≠ 0) (k : Nat) (hk : k ≤ l.length) : rsum t l k ≤ (wsum l l.length - 1) * cntp (upto (rem t l) l.length l.length) k := by
  induction k with
  | zero => simp [rsum, cntp]
  | succ k ih =>
    have ih := ih (by omega)
    have h1 := rem_hi t l k h
    have h2 := rem_lo t l k h
    simp only [rsum, cntp]
    rw [upto_get _ (by omega)]
    by_cases h3 : 0 < rem t l k
    · rw [if_pos h3]
      have : (wsum l l.length - 1) * ((cntp (upto (rem t l) l.length l.length) k + 1 : Nat) : Int) = (wsum l l.length - 1) * cntp (upto (rem t l) l.length l.length) k + (wsum l l.length - 1) := by
        rw [Int.natCast_add, Int.mul_add]; simp
      rw [this]; omega
    · rw [if_neg h3]
      simp only [Nat.add_zero]
      omega
theorem left_cntp (t : Int) (l : List Int) (h : wsum l l.length ≠ 0) : (left t l l.length).toNat ≤ cntp (upto (rem t l) l.length l.length) l.length := by
  have h1 := left_eq t l l.length
  have h2 := rsum_cntp t l h l.length (Nat.le_refl _)
  have h3 := wsum_lo l l.length
  have h4 := left_lo t l h (k := l.length) (by omega)
  rw [Int.sub_self, Int.mul_zero, Int.zero_add] at h1
  rw [← h1] at h2
  generalize cntp (upto (rem t l) l.length l.length) l.length = c at *
  generalize left t l l.length = x at *
  generalize wsum l l.length = s at *
  rcases Int.lt_or_le c x with h5 | h5
  · have h6 : (s - 1) * (c : Int) < x * s := by
      have a1 : (s - 1) * (c : Int) ≤ (s - 1) * x := Int.mul_le_mul_of_nonneg_left (by omega) (by omega)
      have a2 : (s - 1) * x = x * s - x := by rw [Int.sub_mul, Int.mul_comm]; omega
      omega
    omega
  · omega
theorem share_none (t : Int) (l : List Int) {i : Nat} (hi : i < l.length) (hw : l.getD i 0 ≤ 0) : (share t l).getD i 0 = 0 := by
  by_cases h : wsum l l.length = 0
  · unfold share
    rw [if_pos h]
    simp [List.getD_eq_getElem?_getD, hi]
  · obtain ⟨j, hj0, hj, hj2, e⟩ := share_give t l h
    have hw0 : wt (l.getD i 0) = 0 := by unfold wt clip; omega
    have hq0 : quo t l i = 0 := by unfold quo; rw [hw0]; simp
    have hr0 : rem t l i = 0 := by unfold rem; rw [hw0]; simp
    obtain ⟨r', hq, _⟩ := give_ind (fun j x r => r.length = l.length ∧ x.getD i 0 = 0 ∧ r.getD i 0 = 0 ∧ j ≤ cntp r l.length)
      (fun j x r q hl _ ⟨h1, h2, h3, h4⟩ hq _ hmax => by
        obtain ⟨p, hp, hp2⟩ := cntp_get (r := r) (k := l.length) (by omega)
        have hqp : 0 < r.getD q 0 := Int.lt_of_lt_of_le hp2 (hmax p (by omega))
        have hne : ¬ (q = i ∧ i < x.length) := by rintro ⟨rfl, _⟩; omega
        have hne' : ¬ (q = i ∧ i < r.length) := by rintro ⟨rfl, _⟩; omega
        have := cntp_set hq hqp l.length
        rw [if_pos (by omega)] at this
        exact ⟨by simpa using h1, by rw [getD_set, if_neg hne]; exact h2, by rw [getD_set, if_neg hne']; exact h3, by omega⟩)
      j (upto (quo t l) l.length l.length) (upto (rem t l) l.length l.length) (by rw [upto_length, upto_length]) (by rw [cnt_r t l h]; exact hj)
      ⟨upto_length _ _ _, by rw [upto_get _ hi]; exact hq0, by rw [upto_get _ hi]; exact hr0, by rw [← hj0]; exact left_cntp t l h⟩
    rw [e]
    exact hq.2.1
theorem share_mono (t : Int) (l : List Int) {a b : Nat} (ha : a < l.length) (hb : b < l.length) (h1 : l.getD a 0 < l.getD b 0) (h2 : l.getD b 0 ≤ 65536) : (share t l).getD a 0 ≤ (share t l).getD b 0 := by
  rcases Int.lt_or_le 0 (l.getD b 0) with h3 | h3
  · have hwb : 0 < wt (l.getD b 0) := by unfold wt clip; omega
    have hw : wt (l.getD a 0) < wt (l.getD b 0) := by unfold wt clip; omega
    have h : wsum l l.length ≠ 0 := by
      have k1 := wsum_mono l (j := b + 1) (k := l.length) (by omega)
      have k2 := wsum_lo l b
      simp only [wsum] at k1
      omega
    obtain ⟨j, hj0, hj, hj2, e⟩ := share_give t l h
    have hs := wsum_lo l l.length
    have hqa := quo_rem t l a
    have hqb := quo_rem t l b
    have htw : tot t * wt (l.getD a 0) ≤ tot t * wt (l.getD b 0) := Int.mul_le_mul_of_nonneg_left (by omega) (tot_lo t)
    have hqq : quo t l a ≤ quo t l b := by unfold quo; exact Int.ediv_le_ediv (by omega) htw
    have hra := rem_hi t l a h
    have hrb := rem_hi t l b h
    have hstart : quo t l a + 1 ≤ quo t l b ∨ rem t l a < rem t l b ∨ tot t = 0 := by
      rcases Int.lt_or_le (quo t l a) (quo t l b) with k | k
      · exact .inl (by omega)
      · have e2 : quo t l a = quo t l b := by omega
        rw [e2] at hqa
        by_cases ht : tot t = 0
        · exact .inr (.inr ht)
        · have htp : 0 < tot t := by have := tot_lo t; omega
          have := Int.mul_lt_mul_of_pos_left hw htp
          exact .inr (.inl (by omega))
    rcases Classical.em (tot t = 0) with ht | ht
    · have hl0 : left t l l.length = 0 := by
        have := left_hi t l l.length
        omega
      have : j = 0 := by omega
      subst this
      rw [e]
      show (upto _ _ _).getD a 0 ≤ (upto _ _ _).getD b 0
      rw [upto_get _ ha, upto_get _ hb]
      exact hqq
    · obtain ⟨r', hq, _⟩ := give_ind (fun j x r => r.length = l.length ∧ x.length = l.length ∧ x.getD a 0 ≤ x.getD b 0 ∧ (r.getD a 0 < 0 ∨ x.getD a 0 + 1 ≤ x.getD b 0 ∨ r.getD a 0 < r.getD b 0))
        (fun j x r q hl _ ⟨g1, g2, g3, g4⟩ hq hq0 hmax => by
          have hma := hmax a (by omega)
          have hmb := hmax b (by omega)
          refine ⟨by simpa using g1, by simpa using g2, ?_, ?_⟩
          · rw [getD_set, getD_set]
            by_cases ea : q = a
            · subst ea
              have hne : ¬ (q = b ∧ b < x.length) := by rintro ⟨rfl, _⟩; omega
              rw [if_pos ⟨rfl, by omega⟩, if_neg hne]
              rcases g4 with g | g | g <;> omega
            · rw [if_neg (fun hc => ea hc.1)]
              split
              · rename_i hc; obtain ⟨rfl, _⟩ := hc; omega
              · exact g3
          · rw [getD_set, getD_set, getD_set, getD_set]
            by_cases ea : q = a
            · subst ea
              left
              rw [if_pos ⟨rfl, by omega⟩]
              omega
            · rw [if_neg (fun hc => ea hc.1), if_neg (fun hc => ea hc.1)]
              by_cases eb : q = b
              · subst eb
                right; left
                rw [if_pos ⟨rfl, by omega⟩]
                omega
              · rw [if_neg (fun hc => eb hc.1), if_neg (fun hc => eb hc.1)]
                exact g4)
        j (upto (quo t l) l.length l.length) (upto (rem t l) l.length l.length) (by rw [upto_length, upto_length]) (by rw [cnt_r t l h]; exact hj)
        ⟨upto_length _ _ _, upto_length _ _ _, by rw [upto_get _ ha, upto_get _ hb]; exact hqq, by
          rw [upto_get _ ha, upto_get _ hb, upto_get _ ha, upto_get _ hb]
          rcases hstart with k | k | k
          · exact .inr (.inl k)
          · exact .inr (.inr k)
          · exact absurd k ht⟩
      rw [e]
      exact hq.2.2.1
  · rw [share_none t l ha (by omega), share_none t l hb h3]
    exact Int.le_refl _
def anyp (l : List Int) : Nat → Bool
  | 0 => false
  | k + 1 => anyp l k || decide (0 < l.getD k 0)
theorem anyp_wsum (l : List Int) (k : Nat) : anyp l k = true ↔ wsum l k ≠ 0 := by
  induction k with
  | zero => simp [anyp, wsum]
  | succ k ih =>
    have h1 := wsum_lo l k
    have h2 := wt_lo (l.getD k 0)
    simp only [anyp, wsum, Bool.or_eq_true, decide_eq_true_eq]
    rw [ih]
    have : 0 < l.getD k 0 ↔ wt (l.getD k 0) ≠ 0 := by unfold wt clip; omega
    rw [this]
    omega
theorem psum_none (n k : Nat) : psum (List.replicate n 0) k = 0 := by
  induction k with
  | zero => rfl
  | succ k ih =>
    simp only [psum, ih, List.getD_eq_getElem?_getD, List.getElem?_replicate]
    split <;> rfl
theorem share_total (t : Int) (l : List Int) : (anyp l l.length = true ∧ psum (share t l) l.length = tot t) ∨ (anyp l l.length = false ∧ psum (share t l) l.length = 0) := by
  by_cases h : wsum l l.length = 0
  · right
    refine ⟨?_, ?_⟩
    · have := anyp_wsum l l.length
      cases hb : anyp l l.length
      · rfl
      · exact absurd h (this.1 hb)
    · unfold share
      rw [if_pos h]
      exact psum_none _ _
  · left
    exact ⟨(anyp_wsum l l.length).2 h, share_sum t l h⟩
theorem psum_bnd (t : Int) (l : List Int) (hl : l.length ≤ 1048576) (k : Nat) (hk : k ≤ l.length) : 0 ≤ psum (share t l) k ∧ psum (share t l) k ≤ 140737488355328 * k := by
  induction k with
  | zero => simp [psum]
  | succ k ih =>
    have := ih (by omega)
    have := share_bnd t l hl (i := k) (by omega)
    simp only [psum]
    omega
end Num
end Go.Proofs.YtkkiefcapbddkaaGreatDoor
namespace Go.Proofs.YtkkiefcapbddkaaGreatDoor
open Go.RowKit Num
theorem ret_int {k : IntKind} {a b : Int} (h : a = b) : Ending.returned (.int k a) = .returned (.int k b) := by rw [h]
theorem hid {p : Prop} (h : p) : Hid p := h

theorem fixed_Sat (n : Int) (w : World) : Calls Tryz.prog 197 #[.int .i64 n] w fun e w' => e = .returned (.int .i64 (sat n)) ∧ w = w' := by
  go_enter Tryz.func197, Tryz.ntmps197
  go_wp2
  go_ret
  exact ⟨rfl, rfl⟩

theorem fixed_Add (a b : Int) (w : World) : Calls Tryz.prog 141 #[.int .i64 a, .int .i64 b] w fun e w' => e = .returned (.int .i64 (add a b)) ∧ w = w' := by
  have h1 := sat_lo a
  have h2 := sat_hi a
  have h3 := sat_lo b
  have h4 := sat_hi b
  go_enter Tryz.func141, Tryz.ntmps141
  go_wp2_with (go_at_call 197; refine (fixed_Sat _ _).mono ?_; rintro e w' ⟨rfl, rfl⟩)
  go_ret
  exact ⟨rfl, rfl⟩

theorem fixed_Sub (a b : Int) (w : World) : Calls Tryz.prog 129 #[.int .i64 a, .int .i64 b] w fun e w' => e = .returned (.int .i64 (sub a b)) ∧ w = w' := by
  have h1 := sat_lo a
  have h2 := sat_hi a
  have h3 := sat_lo b
  have h4 := sat_hi b
  go_enter Tryz.func129, Tryz.ntmps129
  go_wp2_with (go_at_call 197; refine (fixed_Sat _ _).mono ?_; rintro e w' ⟨rfl, rfl⟩)
  go_ret
  exact ⟨rfl, rfl⟩

theorem fixed_floor (a b : Int) (w : World) (h1 : -4611686018427387904 ≤ a) (h2 : a ≤ 4611686018427387904) (h3 : 1 ≤ b) : Calls Tryz.prog 198 #[.int .i64 a, .int .i64 b] w fun e w' => e = .returned (.int .i64 (a / b)) ∧ w = w' := by
  have hf := hid (floor_of a b (by omega))
  obtain ⟨h4, h5⟩ := tdiv_bd (b := b) h1 h2
  have hz : (b == 0) = false := by simp; omega
  go_enter Tryz.func198, Tryz.ntmps198
  go_wp2
  · go_ret
    exact ⟨ret_int (by rw [← hf.out, if_pos (by assumption)]), rfl⟩
  · go_ret
    exact ⟨ret_int (by rw [← hf.out, if_neg (by omega)]), rfl⟩

theorem fixed_Part (a b c : Int) (w : World) : Calls Tryz.prog 130 #[.int .i64 a, .int .i64 b, .int .i64 c] w fun e w' => e = .returned (.int .i64 (prt a b c)) ∧ w = w' := by
  have h := mul_fits (sat_lo a) (sat_hi a) (Int.le_trans (by decide) (clip_lo b 0 65536 (by omega))) (clip_hi b _ _) rfl
  have h3 := clip_lo c 1 65536 (by omega)
  unfold clip at h h3
  obtain ⟨h1, h2⟩ := h
  go_enter Tryz.func130, Tryz.ntmps130
  go_wp2_with (first | (go_at_call 197; refine (fixed_Sat _ _).mono ?_; rintro e w' ⟨rfl, rfl⟩) | (go_at_call 198; refine (fixed_floor _ _ _ (by assumption) (by assumption) (by assumption)).mono ?_; rintro e w' ⟨rfl, rfl⟩))
  go_ret
  exact ⟨rfl, rfl⟩

end Go.Proofs.YtkkiefcapbddkaaGreatDoor
namespace Go.Proofs.YtkkiefcapbddkaaGreatDoor
open Go.RowKit
namespace Mem
def Blk (w : World) (g : Nat) (t : TypeId) (cs : Array Value) : Prop := w.heap[g]? = some (.cells cs t (0, 0))
def ints (l : List Int) : Array Value := (l.map (Value.int .i64)).toArray
def Seg (w : World) (B : Nat) (A : Option Addr) (xs : List Value) : Prop :=
  xs ≠ [] → ∃ b off, A = some ⟨b, off, none⟩ ∧ b < B ∧ ∀ j, j < xs.length → w.cell? ⟨b, off + j, none⟩ = xs[j]?

def Drawn (w w' : World) : Prop := ∃ n, w.drewN n = w'
theorem Drawn.refl (w : World) : Drawn w w := ⟨0, rfl⟩
theorem Drawn.more {w w' : World} (h : Drawn w w') (n : Nat) : Drawn w (w'.drewN n) := by
  obtain ⟨m, rfl⟩ := h
  exact ⟨m + n, (World.drewN_drewN w m n).symm⟩
theorem Drawn.drew {w w' : World} (h : Drawn w w') : Drawn w w'.drew := h.more 1
theorem Drawn.trans {a b c : World} (h : Drawn a b) (k : Drawn b c) : Drawn a c := by
  obtain ⟨m, rfl⟩ := k
  exact h.more m
theorem Drawn.heap {w w' : World} (h : Drawn w w') : w'.heap = w.heap := by
  obtain ⟨m, rfl⟩ := h
  rfl
theorem Drawn.below {w w' : World} (h : Drawn w w') (B : Nat) : Below B w w' := by
  obtain ⟨m, rfl⟩ := h
  exact ⟨rfl, rfl, rfl, Nat.le_refl _, fun _ _ => rfl⟩
theorem belowN {B : Nat} {a w : World} (h : Below B a w) (n : Nat) : Below B a (w.drewN n) := ⟨h.os, h.tape, h.output, h.size, h.block⟩
section
variable {w w' : World} {g : Nat} {t : TypeId} {cs : Array Value}
theorem Blk.lt (h : Blk w g t cs) : g < w.heap.size := by
  rcases Nat.lt_or_ge g w.heap.size with hlt | hge
  · exact hlt
  · unfold Blk at h
    rw [Array.getElem?_eq_none hge] at h
    cases h
theorem Blk.cell (h : Blk w g t cs) (i : Nat) : w.cell? ⟨g, i, none⟩ = cs[i]? := cell_of_row w g i cs t (0, 0) h
theorem Blk.free (h : Blk w g t cs) (i : Nat) : w.frozen? ⟨g, i, none⟩ = false := frozen_of_row w g i cs t h
theorem Blk.new (w : World) (t : TypeId) (cs : Array Value) : Blk (w.alloc (.cells cs t)) w.heap.size t cs := heap_alloc_new w _
theorem Blk.newAt {n : Nat} (w : World) (t : TypeId) (cs : Array Value) (hn : n = w.heap.size) : Blk (w.alloc (.cells cs t)) n t cs := by subst hn; exact Blk.new w t cs
theorem Blk.four {a b c d : Value} (h : Blk w g t #[a, b, c, d]) : w.cell? ⟨g, 0, none⟩ = some a ∧ w.cell? ⟨g, 1, none⟩ = some b ∧ w.cell? ⟨g, 2, none⟩ = some c ∧ w.cell? ⟨g, 3, none⟩ = some d :=
  ⟨cell_of_row w g 0 _ t (0, 0) h, cell_of_row w g 1 _ t (0, 0) h, cell_of_row w g 2 _ t (0, 0) h, cell_of_row w g 3 _ t (0, 0) h⟩
theorem Blk.drew (h : Blk w g t cs) : Blk w.drew g t cs := h
theorem Blk.drewN (h : Blk w g t cs) (n : Nat) : Blk (w.drewN n) g t cs := h
theorem Blk.alloc (h : Blk w g t cs) (o : Obj) : Blk (w.alloc o) g t cs := (heap_alloc_old w o (h := h.lt)).trans h
theorem Blk.put (h : Blk w g t cs) (i : Nat) (u : Value) : Blk (w.setCell ⟨g, i, none⟩ u) g t (cs.setIfInBounds i u) := by
  unfold Blk at h ⊢
  simp [World.setCell, Array.getElem?_modify, h]
theorem Blk.far (h : Blk w g t cs) {p : Addr} (hp : g ≠ p.block) (u : Value) : Blk (w.setCell p u) g t cs := (heap_setCell_other w p g u hp).trans h
theorem Blk.below {B : Nat} (h : Blk w g t cs) (hb : Below B w w') (hg : g < B) : Blk w' g t cs := (hb.block g hg).trans h
theorem Blk.drawn (h : Blk w g t cs) (hd : Drawn w w') : Blk w' g t cs := by
  obtain ⟨n, rfl⟩ := hd
  exact h
theorem Blk.same (h : Blk w g t cs) (hb : w'.heap = w.heap) : Blk w' g t cs := by
  unfold Blk
  rw [hb]
  exact h

theorem ints_size (l : List Int) : (ints l).size = l.length := by simp [ints]
theorem ints_get (l : List Int) {i : Nat} (h : i < l.length) : (ints l)[i]? = some (.int .i64 (l.getD i 0)) := by
  simp [ints, List.getD_eq_getElem?_getD, h]
theorem ints_set (l : List Int) (i : Nat) (x : Int) : (ints l).setIfInBounds i (.int .i64 x) = ints (l.set i x) := by
  simp [ints, List.map_set]
theorem Blk.int {l : List Int} (h : Blk w g t (ints l)) {i : Nat} (hi : i < l.length) : w.cell? ⟨g, i, none⟩ = some (.int .i64 (l.getD i 0)) := by
  rw [h.cell, ints_get l hi]
theorem Blk.intAt {l : List Int} (h : Blk w g t (ints l)) {i : Nat} (hi : i < l.length) : ∃ x, w.cell? ⟨g, i, none⟩ = some (.int .i64 x) ∧ Hid (l.getD i 0 = x) :=
  ⟨_, h.int hi, rfl⟩
theorem Blk.putInt {l : List Int} (h : Blk w g t (ints l)) (i : Nat) (x : Int) : Blk (w.setCell ⟨g, i, none⟩ (.int .i64 x)) g t (ints (l.set i x)) := by
  have := h.put i (.int .i64 x)
  rwa [ints_set] at this
theorem ints_zeros (n : Nat) : madeCells (Value.int .i64 0).cells (n * 1) = ints (List.replicate n 0) := by
  apply Array.ext'
  rw [Nat.mul_one]
  show (madeCells #[Value.int .i64 0] n).toList = _
  rw [toList_madeCells_one]
  simp [ints]

variable {B : Nat} {A : Option Addr} {xs : List Value}
theorem Seg.nil (w : World) (B : Nat) (A : Option Addr) : Seg w B A [] := fun h => absurd rfl h
theorem Seg.keep (h : Seg w B A xs) (hk : ∀ p : Addr, p.block < B → w'.cell? p = w.cell? p) : Seg w' B A xs := fun hn => by
  obtain ⟨b, off, e, hb, hc⟩ := h hn
  exact ⟨b, off, e, hb, fun j hj => (hk _ hb).trans (hc j hj)⟩
theorem Seg.below (h : Seg w B A xs) (hb : Below B w w') : Seg w' B A xs := h.keep fun _ hp => hb.cell hp
theorem Seg.drawn (h : Seg w B A xs) (hd : Drawn w w') : Seg w' B A xs := h.below (hd.below B)
theorem Seg.drew (h : Seg w B A xs) : Seg w.drew B A xs := h
theorem Seg.drewN (h : Seg w B A xs) (k : Nat) : Seg (w.drewN k) B A xs := h
theorem Seg.more (h : Seg w B A xs) {B' : Nat} (hB : B ≤ B') : Seg w B' A xs := fun hn => by
  obtain ⟨b, off, e, hb, hc⟩ := h hn
  exact ⟨b, off, e, by omega, hc⟩
theorem Seg.alloc (h : Seg w B A xs) (hB : B ≤ w.heap.size) (o : Obj) : Seg (w.alloc o) B A xs := h.keep fun p hp => World.cell?_alloc_lt w o p (by omega)
theorem Seg.setCell (h : Seg w B A xs) {p : Addr} (hB : B ≤ p.block) (u : Value) : Seg (w.setCell p u) B A xs :=
  h.keep fun q hq => World.cell?_setCell_other w p q u (fun e => by subst e; omega)
theorem Seg.ofBlk (h : Blk w g t cs) (hB : g < B) : Seg w B (some ⟨g, 0, none⟩) cs.toList := fun _ => by
  refine ⟨g, 0, rfl, hB, fun j _ => ?_⟩
  rw [Nat.zero_add, h.cell]
  simp
theorem Seg.take (h : Seg w B A xs) (n : Nat) : Seg w B A (xs.take n) := fun hn => by
  obtain ⟨b, off, e, hb, hc⟩ := h (by rintro rfl; simp at hn)
  refine ⟨b, off, e, hb, fun j hj => ?_⟩
  rw [List.length_take] at hj
  rw [hc j (by omega), List.getElem?_take_of_lt (by omega)]
theorem Seg.at_ (h : Seg w B A xs) {k : Nat} (hk : k < xs.length) : ∃ b off, A = some ⟨b, off, none⟩ ∧ b < B ∧ w.cell? ⟨b, off + k, none⟩ = xs[k]? := by
  obtain ⟨b, off, e, hb, hc⟩ := h (by rintro rfl; simp at hk)
  exact ⟨b, off, e, hb, hc k hk⟩
def Ints (w : World) (B : Nat) (A : Option Addr) (l : List Int) : Prop := Seg w B A (l.map (Value.int .i64))
theorem Ints.at_ {l : List Int} (h : Ints w B A l) {k : Nat} (hk : k < l.length) :
    ∃ b off x, A = some ⟨b, off, none⟩ ∧ b < B ∧ w.cell? ⟨b, off + k, none⟩ = some (.int .i64 x) ∧ Hid (l.getD k 0 = x) := by
  obtain ⟨b, off, e, hb, hc⟩ := Seg.at_ h (k := k) (by simpa using hk)
  refine ⟨b, off, _, e, hb, hc.trans ?_, rfl⟩
  simp [List.getD_eq_getElem?_getD, hk]
theorem Ints.below {l : List Int} (h : Ints w B A l) (hb : Below B w w') : Ints w' B A l := Seg.below h hb
theorem Ints.drawn {l : List Int} (h : Ints w B A l) (hd : Drawn w w') : Ints w' B A l := Seg.drawn h hd
theorem Ints.drew {l : List Int} (h : Ints w B A l) : Ints w.drew B A l := h
theorem Ints.drewN {l : List Int} (h : Ints w B A l) (k : Nat) : Ints (w.drewN k) B A l := h
theorem Ints.more {l : List Int} (h : Ints w B A l) {B' : Nat} (hB : B ≤ B') : Ints w B' A l := Seg.more h hB
theorem Ints.alloc {l : List Int} (h : Ints w B A l) (hB : B ≤ w.heap.size) (o : Obj) : Ints (w.alloc o) B A l := Seg.alloc h hB o
theorem Ints.setCell {l : List Int} (h : Ints w B A l) {p : Addr} (hB : B ≤ p.block) (u : Value) : Ints (w.setCell p u) B A l := Seg.setCell h hB u
theorem Ints.nil (w : World) (B : Nat) (A : Option Addr) : Ints w B A [] := Seg.nil w B A
theorem Ints.take {l : List Int} (h : Ints w B A l) (n : Nat) : Ints w B A (l.take n) := by
  have := Seg.take h n
  simpa [Ints, List.map_take] using this
theorem Ints.ofBlk {l : List Int} (h : Blk w g t (ints l)) (hB : g < B) : Ints w B (some ⟨g, 0, none⟩) l := by
  have := Seg.ofBlk h hB
  simpa [ints, Ints] using this
theorem Ints.ofBlkTake {l : List Int} (h : Blk w g t (ints l)) (hB : g < B) (n : Nat) : Ints w B (some ⟨g, 0, none⟩) (l.take n) := Ints.take (Ints.ofBlk h hB) n
end
def room {α : Type} (l : List α) (m z : α) (k : Nat) : List α := l ++ List.replicate k m ++ List.replicate (80 - k) z
theorem room_set {α : Type} (l : List α) (m z : α) {k : Nat} (hk : k < 80) : (room l m z k).set (l.length + k) m = room l m z (k + 1) := by
  unfold room
  obtain ⟨j, hj⟩ : ∃ j, 80 - k = j + 1 := ⟨79 - k, by omega⟩
  rw [List.set_append_right _ _ (by simp), hj, show 80 - (k + 1) = j by omega, List.replicate_succ, List.replicate_succ']
  simp
theorem room_length {α : Type} (l : List α) (m z : α) {k : Nat} (hk : k ≤ 80) : (room l m z k).length = l.length + 80 := by
  simp [room]; omega
theorem room_all {α : Type} (l : List α) (m z : α) : room l m z 80 = l ++ List.replicate 80 m := by simp [room]
theorem room_none {α : Type} (l : List α) (m z : α) : room l m z 0 = l ++ List.replicate 80 z := by simp [room]
end Mem
end Go.Proofs.YtkkiefcapbddkaaGreatDoor
namespace Go.Proofs.YtkkiefcapbddkaaGreatDoor
open Go.RowKit Num Mem

theorem info_i64 : (Tryz.prog.info? 2).map (fun i => (i.zero, i.size, i.bytes)) = some (some (.int .i64 0), 1, 8) := by kernel_rfl
theorem make_ints (n : Nat) (h : n ≤ 35184372088832) (w : World) :
    (Instr.makeSlice 23 (.int .i64 (n : Int)) (.int .i64 (n : Int))).run Tryz.prog w = .ok (.slice (some ⟨w.heap.size, 0, none⟩) n n) (w.alloc (.cells (ints (List.replicate n 0)) 2)) := by
  obtain ⟨i, hi, hz, hs, hb⟩ := info_parts info_i64
  have hr := run_make (P := Tryz.prog) w 23 2 i (.int .i64 0) Tryz.underlying23 hi hz .i64 .i64 (n : Int) (n : Int) (by omega) (by omega) (by rw [hb]; omega) (by omega)
  rw [hs] at hr
  simp only [Int.toNat_natCast] at hr
  rw [hr, ints_zeros]

set_option maxHeartbeats 400000 in
theorem fixed_Share (t : Int) (l : List Int) (A : Option Addr) (c : Nat) (w : World) (hl : l.length ≤ 1048576) (hA : Ints w w.heap.size A l) :
    Calls Tryz.prog 271 #[.int .i64 t, .slice A l.length c] w fun e w' =>
      e = .returned (.slice (some ⟨w.heap.size, 0, none⟩) l.length l.length) ∧ Below w.heap.size w w' ∧ Blk w' w.heap.size 2 (ints (share t l)) := by
  have hmk := make_ints l.length (by omega)
  by_cases hs : wsum l l.length = 0
  · have hs' : (wsum l l.length == 0) = true := by simp [hs]
    have HS := hid hs
    clear hs
    go_enter Tryz.func271, Tryz.ntmps271
    go_wp2
    go_loop [7, 27] (fun s i => ∃ k : Nat, k ≤ l.length ∧ i = .int .i64 k ∧ s = .int .i64 (wsum l k)) (fun _ i => l.length - (intOf i).toNat)
    case atStart => exact ⟨0, Nat.zero_le _, rfl, rfl⟩
    case round =>
      obtain ⟨k, hk, rfl, rfl⟩ := hrel
      have h1 := wsum_lo l k
      have h2 := wsum_hi l k
      by_cases hlt : k < l.length
      · obtain ⟨b, off, x, rfl, hb, hc, HX⟩ := hA.at_ hlt
        go_wp2
        go_round
        case rel => exact ⟨k + 1, by omega, by go_num, by simp only [wsum, HX.out]; rfl⟩
        case measure => simp [intOf]; omega
      · obtain rfl : k = l.length := by omega
        go_wp2
        go_ret
        refine ⟨rfl, ?_, ?_⟩
        · exact ((Below.refl _ _).alloc (Nat.le_refl _) _).alloc (by simp) _
        · unfold share
          rw [if_pos HS.out]
          exact (Blk.new w _ _).alloc _
  · have hs' : (wsum l l.length == 0) = false := by simp [hs]
    have HS := hid hs
    have hs1 := wsum_lo l l.length
    have hs2 : 1 ≤ wsum l l.length := by omega
    have hs3 := wsum_hi l l.length
    clear hs
    go_enter Tryz.func271, Tryz.ntmps271
    go_wp2
    go_loop [7, 27] (fun s i => ∃ k : Nat, k ≤ l.length ∧ i = .int .i64 k ∧ s = .int .i64 (wsum l k)) (fun _ i => l.length - (intOf i).toNat)
    case atStart => exact ⟨0, Nat.zero_le _, rfl, rfl⟩
    case round =>
      obtain ⟨k, hk, rfl, rfl⟩ := hrel
      have h1 := wsum_lo l k
      have h2 := wsum_hi l k
      by_cases hlt : k < l.length
      · obtain ⟨b, off, x, rfl, hb, hc, HX⟩ := hA.at_ hlt
        go_wp2
        go_round
        case rel => exact ⟨k + 1, by omega, by go_num, by simp only [wsum, HX.out]; rfl⟩
        case measure => simp [intOf]; omega
      · obtain rfl : k = l.length := by omega
        go_wp2
        go_loopw [10, 43] (fun lf i wr => ∃ k : Nat, k ≤ l.length ∧ i = .int .i64 k ∧ lf = .int .i64 (left t l k) ∧ Blk wr w.heap.size 2 (ints (upto (quo t l) l.length k)) ∧ Blk wr (w.heap.size + 1) 2 (ints (upto (rem t l) l.length k)) ∧ Below w.heap.size w wr) (fun _ i _ => l.length - (intOf i).toNat)
        case atStart =>
          refine ⟨0, Nat.zero_le _, rfl, rfl, ?_, ?_, ?_⟩
          · rw [upto_zero]; exact (Blk.new w _ _).alloc _
          · rw [upto_zero]; have := Blk.new (w.alloc (.cells (ints (List.replicate l.length 0)) 2)) 2 (ints (List.replicate l.length 0)); simpa using this
          · exact ((Below.refl _ _).alloc (Nat.le_refl _) _).alloc (by simp) _
        case round =>
          obtain ⟨k, hk, rfl, rfl, hO, hR, hB⟩ := hrel
          by_cases hlt : k < l.length
          · obtain ⟨b, off, x, rfl, hb, hc, HX⟩ := (hA.below hB).at_ hlt
            have hcO := hO.int (i := k) (by rw [upto_length]; exact hlt)
            have hfO := hO.free k
            have hcR := hR.int (i := k) (by rw [upto_length]; exact hlt)
            have hfR := hR.free k
            obtain ⟨hm1, hm2⟩ := mul_fits (Int.le_trans (by decide) (tot_lo t)) (tot_hi t) (Int.le_trans (by decide) (wt_lo x)) (wt_hi x) rfl
            have hm3 := Int.mul_nonneg (tot_lo t) (wt_lo x)
            have hq1 := left_lo t l HS.out (k := k + 1) (by omega)
            have hq2 := left_hi t l (k + 1)
            have hq3 := tot_hi t
            simp only [left, quo, HX.out] at hq1 hq2
            have EQ : Hid (quo t l k = tot t * wt x / wsum l l.length) := by unfold quo; rw [HX.out]; rfl
            have ER : Hid (rem t l k = tot t * wt x % wsum l l.length) := by unfold rem; rw [HX.out]; rfl
            unfold tot wt clip at hm1 hm2 hm3 hq1 hq2 EQ ER
            unfold tot clip at hq3
            go_wp2
            go_region
            go_wp2
            go_roundw
            case rel =>
              refine ⟨k + 1, by omega, by go_num, ?_, ?_, ?_, ?_⟩
              · simp only [left]; rw [EQ.out]
              · have h := (hO.putInt k (quo t l k)).far (p := ⟨w.heap.size + 1, k, none⟩) (by simp) (.int .i64 (rem t l k))
                rw [upto_set, EQ.out, ER.out] at h
                exact h.drewN _
              · have h := (hR.far (p := ⟨w.heap.size, k, none⟩) (by simp) (.int .i64 (quo t l k))).putInt k (rem t l k)
                rw [upto_set, EQ.out, ER.out] at h
                exact h.drewN _
              · exact (((hB.setCell (by simp) _).setCell (by simp) _).drew)
            case measure => simp [intOf]; omega
          · obtain rfl : k = l.length := by omega
            have HL := left_lo t l HS.out (k := l.length) (by omega)
            have HM := left_lt t l HS.out
            have HG : Hid (give (left t l l.length).toNat (upto (quo t l) l.length l.length) (upto (rem t l) l.length l.length) = share t l) := by unfold share; rw [if_neg HS.out]; rfl
            have HC := bnd_start t l HS.out hl (j := (left t l l.length).toNat) (by omega)
            have HD := cnt_start t l HS.out
            go_wp2
            go_loopw [10] (fun lf wr => ∃ (j : Nat) (x r : List Int), lf = .int .i64 j ∧ x.length = l.length ∧ r.length = l.length ∧ j < cnt r ∧ Hid (bnd x j) ∧ Hid (give j x r = share t l) ∧ Blk wr w.heap.size 2 (ints x) ∧ Blk wr (w.heap.size + 1) 2 (ints r) ∧ Below w.heap.size w wr) (fun lf _ => (intOf lf).toNat)
            case atStart =>
              exact ⟨(left t l l.length).toNat, _, _, by rw [Int.toNat_of_nonneg HL], upto_length _ _ _, upto_length _ _ _, by omega, HC, HG, hO, hR, hB⟩
            case round =>
              clear HC HG HD HL HM hO hR hB
              obtain ⟨j, x, r, rfl, hx, hr, hj, HN, HV, hO, hR, hB⟩ := hrel
              have HX := hid hx
              have HR := hid hr
              clear hx hr
              by_cases hlt : 0 < j
              · obtain ⟨q, hq, hql, hqr⟩ := bst_found hj
                have HQ := hid hq
                rw [HR.out] at hql
                clear hq
                obtain ⟨wo, rfl⟩ : ∃ wo : World, wo = wr := ⟨_, rfl⟩
                go_wp2
                go_loopw [14, 78] (fun s i wr => ∃ (k : Nat) (m : Int), k ≤ l.length ∧ i = .int .i64 k ∧ s = .int .i64 m ∧ -1 ≤ m ∧ m < k ∧ Hid (bst r k = m) ∧ Blk wr w.heap.size 2 (ints x) ∧ Blk wr (w.heap.size + 1) 2 (ints r) ∧ Below w.heap.size w wr) (fun _ i _ => l.length - (intOf i).toNat)
                case atStart => exact ⟨0, -1, Nat.zero_le _, rfl, rfl, by omega, by omega, rfl, hO, hR, hB⟩
                case round =>
                  clear hO hR hB
                  obtain ⟨k, m, hk, rfl, rfl, hm1, hm2, HM, hO, hR, hB⟩ := hrel
                  by_cases hkl : k < l.length
                  · obtain ⟨y, hy, HY⟩ := hR.intAt (i := k) (by rw [HR.out]; exact hkl)
                    have HS : Hid (bst r (k + 1) = if 0 ≤ y ∧ (m < 0 ∨ r.getD m.toNat 0 < y) then (k : Int) else m) := by
                      show bst r (k + 1) = _
                      simp only [bst, HY.out, HM.out]
                    rcases Int.lt_or_le y 0 with h1 | h1
                    · have hd : decide (0 ≤ y) = false := by simp; omega
                      have HM' : Hid (bst r (k + 1) = m) := by rw [HS.out, if_neg (by omega)]; rfl
                      clear HS
                      go_wp2
                      go_quiet (fail)
                      go_wp2
                      go_roundw
                      case rel => exact ⟨k + 1, m, by omega, by go_num, rfl, by omega, by omega, HM', hO, hR, belowN hB _⟩
                      case measure => simp [intOf]; omega
                    · rcases Int.lt_or_le m 0 with h2 | h2
                      · have hd : decide (m < 0) = true := by simp; omega
                        have HM' : Hid (bst r (k + 1) = (k : Int)) := by rw [HS.out, if_pos (by omega)]; rfl
                        clear HS
                        go_wp2
                        go_quiet (fail)
                        go_wp2
                        go_roundw
                        case rel => exact ⟨k + 1, (k : Int), by omega, by go_num, rfl, by omega, by omega, HM', hO, hR, belowN hB _⟩
                        case measure => simp [intOf]; omega
                      · obtain ⟨p, rfl⟩ := Int.eq_ofNat_of_zero_le h2
                        obtain ⟨z, hz, HZ⟩ := hR.intAt (i := p) (by rw [HR.out]; omega)
                        rw [Int.toNat_natCast, HZ.out] at HS
                        have hd : decide ((p : Int) < 0) = false := by simp
                        by_cases h3 : z < y
                        · have HM' : Hid (bst r (k + 1) = (k : Int)) := by rw [HS.out, if_pos (by omega)]; rfl
                          clear HS
                          go_wp2
                          go_quiet (fail)
                          go_wp2
                          go_roundw
                          case rel => exact ⟨k + 1, (k : Int), by omega, by go_num, rfl, by omega, by omega, HM', hO, hR, belowN hB _⟩
                          case measure => simp [intOf]; omega
                        · have HM' : Hid (bst r (k + 1) = (p : Int)) := by rw [HS.out, if_neg (by omega)]; rfl
                          have hd' : decide (z < y) = false := by simp; omega
                          clear HS
                          go_wp2
                          go_quiet (fail)
                          go_wp2
                          go_roundw
                          case rel => exact ⟨k + 1, (p : Int), by omega, by go_num, rfl, by omega, by omega, HM', hO, hR, belowN hB _⟩
                          case measure => simp [intOf]; omega
                  · obtain rfl : k = l.length := by omega
                    obtain rfl : m = (q : Int) := by rw [← HM.out, ← HQ.out, HR.out]
                    obtain ⟨i, rfl⟩ : ∃ i, j = i + 1 := ⟨j - 1, by omega⟩
                    obtain ⟨y, hy, HY⟩ := hO.intAt (i := q) (by rw [HX.out]; exact hql)
                    obtain ⟨z, hz, HZ⟩ := hR.intAt (i := q) (by rw [HR.out]; exact hql)
                    have hfO := hO.free q
                    have hfR := hR.free q
                    have hb2 := HN.out q (by rw [HX.out]; exact hql)
                    rw [HY.out] at hb2
                    obtain ⟨hb3, hb4⟩ := hb2
                    have HN' : Hid (bnd (x.set q (y + 1)) i) := by
                      have := bnd_set HN.out (q := q) (by rw [HX.out]; exact hql)
                      rwa [HY.out] at this
                    have HV' : Hid (give i (x.set q (y + 1)) (r.set q (-1)) = share t l) := by
                      have := HV.out
                      rwa [give_succ (HQ.out), HY.out] at this
                    have HC' := cnt_set (i := q) (r := r) (by rw [HR.out]; exact hql) hqr
                    go_wp2
                    go_roundw
                    case rel =>
                      refine ⟨i, x.set q (y + 1), r.set q (-1), by go_num, by rw [List.length_set, HX.out], by rw [List.length_set, HR.out], by omega, HN', HV', ?_, ?_, ?_⟩
                      · exact (hO.putInt q (y + 1)).far (p := ⟨w.heap.size + 1, q, none⟩) (by simp) _
                      · exact (hR.far (p := ⟨w.heap.size, q, none⟩) (by simp) _).putInt q (-1)
                      · exact (hB.setCell (by simp) _).setCell (by simp) _
                    case measure => simp [intOf]
              · obtain rfl : j = 0 := by omega
                go_wp2
                go_ret
                exact ⟨rfl, hB, by rw [← HV.out]; exact hO⟩
end Go.Proofs.YtkkiefcapbddkaaGreatDoor
namespace Go.Proofs.YtkkiefcapbddkaaGreatDoor
open Go.RowKit
namespace Mem
def Recs {α : Type} (w : World) (B : Nat) (A : Option Addr) (sz : Nat) (fl : α → List Value) (l : List α) : Prop :=
  l ≠ [] → ∃ b off, A = some ⟨b, off, none⟩ ∧ b < B ∧ ∀ i x, l[i]? = some x → ∀ j v, (fl x)[j]? = some v → w.cell? ⟨b, off + i * sz + j, none⟩ = some v
section
variable {α : Type} {w w' : World} {B : Nat} {A : Option Addr} {sz : Nat} {fl : α → List Value} {l : List α}
theorem Recs.nil (w : World) (B : Nat) (A : Option Addr) (sz : Nat) (fl : α → List Value) : Recs w B A sz fl [] := fun h => absurd rfl h
theorem Recs.keep (h : Recs w B A sz fl l) (hk : ∀ p : Addr, p.block < B → w'.cell? p = w.cell? p) : Recs w' B A sz fl l := fun hn => by
  obtain ⟨b, off, e, hb, hc⟩ := h hn
  exact ⟨b, off, e, hb, fun i x hx j v hv => (hk ⟨b, off + i * sz + j, none⟩ hb).trans (hc i x hx j v hv)⟩
theorem Recs.below (h : Recs w B A sz fl l) (hb : Below B w w') : Recs w' B A sz fl l := h.keep fun _ hp => hb.cell hp
theorem Recs.drawn (h : Recs w B A sz fl l) (hd : Drawn w w') : Recs w' B A sz fl l := h.below (hd.below B)
theorem Recs.more (h : Recs w B A sz fl l) {B' : Nat} (hB : B ≤ B') : Recs w B' A sz fl l := fun hn => by
  obtain ⟨b, off, e, hb, hc⟩ := h hn
  exact ⟨b, off, e, by omega, hc⟩
theorem Recs.alloc (h : Recs w B A sz fl l) (hB : B ≤ w.heap.size) (o : Obj) : Recs (w.alloc o) B A sz fl l := h.keep fun p hp => World.cell?_alloc_lt w o p (by omega)
theorem Recs.setCell (h : Recs w B A sz fl l) {p : Addr} (hB : B ≤ p.block) (u : Value) : Recs (w.setCell p u) B A sz fl l :=
  h.keep fun q hq => World.cell?_setCell_other w p q u (fun e => by subst e; omega)
theorem Recs.take (h : Recs w B A sz fl l) (n : Nat) : Recs w B A sz fl (l.take n) := fun hn => by
  obtain ⟨b, off, e, hb, hc⟩ := h (by rintro rfl; simp at hn)
  refine ⟨b, off, e, hb, fun i x hx => hc i x ?_⟩
  rw [List.getElem?_take] at hx
  split at hx
  · exact hx
  · cases hx
theorem Recs.at_ (h : Recs w B A sz fl l) {k : Nat} (hk : k < l.length) :
    ∃ b off x, A = some ⟨b, off, none⟩ ∧ b < B ∧ Hid (l[k]? = some x) ∧ ∀ j v, (fl x)[j]? = some v → w.cell? ⟨b, off + k * sz + j, none⟩ = some v := by
  obtain ⟨b, off, e, hb, hc⟩ := h (by rintro rfl; simp at hk)
  exact ⟨b, off, l[k], e, hb, List.getElem?_eq_getElem hk, hc k _ (List.getElem?_eq_getElem hk)⟩
theorem flat_length (hfl : ∀ x, (fl x).length = sz) (l : List α) : (l.flatMap fl).length = l.length * sz := by
  induction l with
  | nil => simp
  | cons x l ih => simp [List.flatMap_cons, hfl, ih, Nat.add_mul]; omega
theorem flat_get (hfl : ∀ x, (fl x).length = sz) {i : Nat} {x : α} (hi : l[i]? = some x) {j : Nat} {v : Value} (hv : (fl x)[j]? = some v) : (l.flatMap fl)[i * sz + j]? = some v := by
  induction l generalizing i with
  | nil => simp at hi
  | cons y l ih =>
    have hj : j < sz := by rw [← hfl x]; exact (List.getElem?_eq_some_iff.1 hv).1
    cases i with
    | zero =>
      have : y = x := by simpa using hi
      subst this
      rw [List.flatMap_cons, Nat.zero_mul, Nat.zero_add, List.getElem?_append_left (by rw [hfl]; exact hj)]
      exact hv
    | succ i =>
      rw [List.flatMap_cons, List.getElem?_append_right (by rw [hfl, Nat.add_mul]; omega), hfl]
      rw [show (i + 1) * sz + j - sz = i * sz + j by rw [Nat.add_mul]; omega]
      exact ih (by simpa using hi)
theorem Recs.of_own {base : Nat} {e : TypeId} {n c : Nat} (hfl : ∀ x, (fl x).length = sz) (hsz : 0 < sz) (h : w.ownsRow base e sz (.slice A n c) n (l.flatMap fl)) : Recs w w.heap.size A sz fl l := fun hn => by
  have hlen := h.1
  rw [flat_length hfl] at hlen
  have hln : l.length = n := Nat.eq_of_mul_eq_mul_right hsz hlen
  have hpos : 0 < l.length := by
    rcases Nat.eq_zero_or_pos l.length with h0 | h0
    · exact absurd (List.eq_nil_of_length_eq_zero h0) hn
    · exact h0
  rcases h.2 with ⟨_, h1⟩ | ⟨g, cap, cur, hv, hg, hh, hnc, hcap, hcs, htake⟩
  · omega
  · injection hv with a1 a2 a3
    subst a1
    refine ⟨g, 0, rfl, ?_, fun i x hx j v hv => ?_⟩
    · rcases Nat.lt_or_ge g w.heap.size with hlt | hge
      · exact hlt
      · rw [Array.getElem?_eq_none hge] at hh; cases hh
    · have hq := flat_get hfl hx hv
      rw [← htake] at hq
      rw [Nat.zero_add, cell_of_row w g _ cur e (0, 0) hh]
      have hlt := (List.getElem?_eq_some_iff.1 hq).1
      rw [List.length_take] at hlt
      rw [List.getElem?_take_of_lt (by omega)] at hq
      simpa using hq
theorem own_some {base : Nat} {e : TypeId} {v : Value} {n : Nat} {xs : List Value} (h : w.ownsRow base e sz v n xs) : ∃ A c, v = .slice A n c ∧ n ≤ c := by
  rcases h.2 with ⟨rfl, rfl⟩ | ⟨g, cap, cur, rfl, hg, hh, hnc, _⟩
  · exact ⟨none, 0, rfl, Nat.le_refl _⟩
  · exact ⟨_, cap, rfl, hnc⟩
theorem own_nil (w : World) (base : Nat) (e : TypeId) (sz : Nat) : w.ownsRow base e sz (.slice none 0 0) 0 [] := ⟨by simp, .inl ⟨rfl, rfl⟩⟩
theorem own_keep {base : Nat} {e : TypeId} {v : Value} {n : Nat} {xs : List Value} (h : w.ownsRow base e sz v n xs) (hk : ∀ g, v.ownBlock = some g → g < w.heap.size → w'.heap[g]? = w.heap[g]?) : w'.ownsRow base e sz v n xs := by
  refine ⟨h.1, ?_⟩
  rcases h.2 with ⟨rfl, rfl⟩ | ⟨g, cap, cur, rfl, hg, hh, h3⟩
  · exact .inl ⟨rfl, rfl⟩
  · refine .inr ⟨g, cap, cur, rfl, hg, ?_, h3⟩
    rw [hk g rfl ?_, hh]
    rcases Nat.lt_or_ge g w.heap.size with hlt | hge
    · exact hlt
    · rw [Array.getElem?_eq_none hge] at hh; cases hh
theorem own_apart {base base' : Nat} {e e' : TypeId} {v v' : Value} {n n' sz' : Nat} {xs xs' : List Value} (h : w.ownsRow base e sz v n xs) (h' : w.ownsRow base' e' sz' v' n' xs') (hne : e ≠ e') {g : Nat} (hg : v.ownBlock = some g) : some g ≠ v'.ownBlock := by
  intro hq
  rcases h.2 with ⟨rfl, rfl⟩ | ⟨g1, cap, cur, rfl, _, hh, _⟩
  · simp [Value.ownBlock] at hg
  · rcases h'.2 with ⟨rfl, rfl⟩ | ⟨g2, cap', cur', rfl, _, hh', _⟩
    · simp [Value.ownBlock] at hq
    · simp only [Value.ownBlock, Option.some.injEq] at hg hq
      rw [hg] at hh
      rw [← hq, hh] at hh'
      injection hh' with hh'
      injection hh' with _ ht
      exact hne ht
theorem own_grown {base base' : Nat} {e e' : TypeId} {v v' : Value} {n n' sz' : Nat} {xs xs' : List Value} (h : w.ownsRow base e sz v n xs) (h' : w.ownsRow base' e' sz' v' n' xs') (hne : e ≠ e') (hg : w.grownBy w' v'.ownBlock) : w'.ownsRow base e sz v n xs :=
  own_keep h (fun g hv hlt => hg.block g hlt (own_apart h h' hne hv))
theorem own_lt {base : Nat} {e : TypeId} {v : Value} {n : Nat} {xs : List Value} (h : w.ownsRow base e sz v n xs) {g : Nat} (hg : v.ownBlock = some g) : g < w.heap.size := by
  rcases h.2 with ⟨rfl, rfl⟩ | ⟨g1, cap, cur, rfl, _, hh, _⟩
  · simp [Value.ownBlock] at hg
  · simp only [Value.ownBlock, Option.some.injEq] at hg
    subst hg
    rcases Nat.lt_or_ge g1 w.heap.size with hlt | hge
    · exact hlt
    · rw [Array.getElem?_eq_none hge] at hh; cases hh
theorem blk_grown {base : Nat} {e t : TypeId} {v : Value} {n g : Nat} {xs : List Value} {cs : Array Value} {w0 : World} (h : w0.ownsRow base e sz v n xs) (hb : Blk w g t cs) (hg : w.grownBy w' v.ownBlock) (hge : w0.heap.size ≤ g) : Blk w' g t cs :=
  (hg.block g hb.lt (fun hq => by have := own_lt h hq.symm; omega)).trans hb
theorem own_below {base : Nat} {e : TypeId} {v : Value} {n : Nat} {xs : List Value} (h : w.ownsRow base e sz v n xs) (hb : Below w.heap.size w w') : w'.ownsRow base e sz v n xs :=
  own_keep h (fun g _ hlt => hb.block g hlt)
theorem below_grown {B base : Nat} {e : TypeId} {a : World} {v : Value} {n : Nat} {xs : List Value} (hB : Below B a w) (h : w.ownsRow base e sz v n xs) (hg : w.grownBy w' v.ownBlock) (hb : B ≤ base) (hs : B ≤ w.heap.size) : Below B a w' :=
  hB.grown hg hs (fun k hk => by
    rcases h.2 with ⟨rfl, rfl⟩ | ⟨g, cap, cur, rfl, hg', _⟩
    · simp [Value.ownBlock] at hk
    · simp only [Value.ownBlock, Option.some.injEq] at hk
      omega)
end
end Mem
end Go.Proofs.YtkkiefcapbddkaaGreatDoor
namespace Go.Proofs.YtkkiefcapbddkaaGreatDoor
open Go.ChangeShapes Go.WideShapes Go.RowKit Go.Joins Go.Deep Mem
namespace Opn
def I64 (a : Int) : Prop := -9223372036854775808 ≤ a ∧ a ≤ 9223372036854775807
theorem i64_of_wf {a : Int} (h : (Lit.int .i64 a).wf = true) : I64 a := by
  simp [Lit.wf, IntKind.min, IntKind.max, IntKind.signed, IntKind.bits] at h
  exact ⟨by omega, by omega⟩
def Row64 (W : World) (A : Option Addr) (l : List Int) (c : Nat) : Prop := Ints W W.heap.size A l ∧ l.length ≤ c ∧ c ≤ 17592186043904 ∧ ∀ x ∈ l, I64 x

section
variable {H : Type} {enc : TypeId × Value → H} {P : Program} {W : World}
theorem open_row {t e : TypeId} {v : Value} {d : DataW H} {p : List MemPlace} (ht : P.underlying t = some (.slice e)) (he : P.underlying e = some (.int .i64)) (hc : P.cellsOf e = 1) (hb : P.bytesOf e = 8)
    (hv : ∃ a len cap, v = .slice a len cap) (h : DataW.Trod enc P W 0 (fun _ => true) true t v d p) (hlt : ∀ x ∈ p, x.block < W.heap.size)
    (hs : ∀ es sp, d = .slice es sp → (es.length + sp.length) * P.bytesOf e ≤ reachBytes) :
    ∃ A l c, v = .slice A l.length c ∧ Row64 W A l c := by
  obtain ⟨a, len, cap, rfl⟩ := hv
  obtain ⟨fuel, hf⟩ := h
  rcases open_ints ht he hc hf with ⟨hcs, _⟩ | ⟨x, n, c, zs, hcs, _, hl, hm, hz, hx, hcell, hwz⟩
  · simp [Value.cells] at hcs
    obtain ⟨rfl, rfl, rfl⟩ := hcs
    exact ⟨none, [], 0, rfl, Seg.nil _ _ _, Nat.le_refl _, by omega, by simp⟩
  · simp [Value.cells] at hcs
    obtain ⟨rfl, rfl, rfl⟩ := hcs
    simp only [if_true] at hz
    simp only [Prod.mk.injEq] at hx
    obtain ⟨rfl, rfl⟩ := hx
    have hr := hs _ _ rfl
    rw [hb] at hr
    simp only [lits, List.length_map, List.length_take, List.length_drop, reachBytes] at hr
    have hlen : (zs.take len).length = len := by simp; omega
    refine ⟨some x, zs.take len, cap, by rw [hlen], ?_, by omega, by omega, fun y hy => i64_of_wf (hwz y (List.mem_of_mem_take hy))⟩
    intro hne
    have hpos : 0 < zs.length := by
      rcases Nat.eq_zero_or_pos zs.length with h0 | h0
      · have : zs = [] := List.eq_nil_of_length_eq_zero h0
        subst this
        simp at hne
      · exact h0
    obtain ⟨b, off, spot⟩ := x
    have h0 := hcell 0 hpos
    have hspot : spot = none := by simpa [Addr.add] using World.cell?_spot h0
    subst hspot
    refine ⟨b, off, rfl, hlt (.cell b off) (MemPlace.mem_row.2 ⟨0, by omega, by simp⟩), fun j hj => ?_⟩
    rw [List.length_map, hlen] at hj
    have hj' : j < zs.length := by omega
    have := hcell j hj'
    rw [show (Addr.add ⟨b, off, none⟩ j) = ⟨b, off + j, none⟩ by unfold Addr.add; split <;> simp_all] at this
    rw [this]
    simp [List.getElem?_take_of_lt hj, List.getD_eq_getElem?_getD, hj']
theorem open_four {t e0 e1 e2 e3 : TypeId} {f0 f1 f2 f3 : Field} {v : Value} {d : DataW H} {p : List MemPlace} {b0 : Nat} (hs : P.underlying t = some (.struct #[f0, f1, f2, f3])) (hone : oneCellFields P #[f0, f1, f2, f3] = true) (hC : P.cellsOf t = 4)
    (g0 : f0.type = e0) (g1 : f1.type = e1) (g2 : f2.type = e2) (g3 : f3.type = e3)
    (i0 : P.underlying e0 = some (.int .i64)) (i1 : P.underlying e1 = some (.int .i64)) (i2 : P.underlying e2 = some (.int .i64)) (i3 : P.underlying e3 = some (.int .i64))
    (hv : Value.okWide P W .any b0 t v) (h : DataW.Trod enc P W 0 (fun _ => true) true t v d p) :
    ∃ x0 x1 x2 x3, v = .agg #[.int .i64 x0, .int .i64 x1, .int .i64 x2, .int .i64 x3] ∧ I64 x0 ∧ I64 x1 ∧ I64 x2 ∧ I64 x3 := by
  subst g0 g1 g2 g3
  obtain ⟨v0, v1, v2, v3, y0, y1, y2, y3, n, rfl, _, _, h0, h1, h2, h3⟩ := open_agg4 hs hone hC hv h
  obtain ⟨x0, e0, _, w0⟩ := DataW.trod_int i0 h0
  obtain ⟨x1, e1, _, w1⟩ := DataW.trod_int i1 h1
  obtain ⟨x2, e2, _, w2⟩ := DataW.trod_int i2 h2
  obtain ⟨x3, e3, _, w3⟩ := DataW.trod_int i3 h3
  simp only [List.cons.injEq, and_true] at e0 e1 e2 e3
  subst e0 e1 e2 e3
  exact ⟨x0, x1, x2, x3, rfl, i64_of_wf w0, i64_of_wf w1, i64_of_wf w2, i64_of_wf w3⟩
end
end Opn
end Go.Proofs.YtkkiefcapbddkaaGreatDoor
namespace Go.Proofs.YtkkiefcapbddkaaGreatDoor
open Go.RowKit Num Mem
theorem region_tail {P : Program} {id : Nat} {Q : Exit → Act → World → Prop} {a : Act} {w : World} {l : List Oper} (n : Nat) (hm : P.follows .mixedOrders = true) (hB : Region.lexTailB .any l.toArray n = true)
    (h : wpStill P l.toArray w.drew (fun a' => wpList P l.toArray Q (l.drop n) a' w.drew) (l.take n) a) : (Code.region id l.toArray true).wp P Q a w :=
  wp_region_still_tail n hm hB h
theorem sat_still (n : Int) (w : World) : Calls Tryz.prog 197 #[.int .i64 n] w fun e w' => e = .returned (.int .i64 (sat n)) ∧ w' = w := (fixed_Sat n w).mono fun _ _ ⟨h, h'⟩ => ⟨h, h'.symm⟩
theorem add_still (a b : Int) (w : World) : Calls Tryz.prog 141 #[.int .i64 a, .int .i64 b] w fun e w' => e = .returned (.int .i64 (add a b)) ∧ w' = w := (fixed_Add a b w).mono fun _ _ ⟨h, h'⟩ => ⟨h, h'.symm⟩
theorem sub_still (a b : Int) (w : World) : Calls Tryz.prog 129 #[.int .i64 a, .int .i64 b] w fun e w' => e = .returned (.int .i64 (sub a b)) ∧ w' = w := (fixed_Sub a b w).mono fun _ _ ⟨h, h'⟩ => ⟨h, h'.symm⟩
end Go.Proofs.YtkkiefcapbddkaaGreatDoor
namespace Go.Proofs.YtkkiefcapbddkaaGreatDoor
open Go.RowKit Mem
namespace Mem
structure Chg (b : Nat) (w w' : World) : Prop where
  os : w'.os = w.os
  tape : w'.tape = w.tape
  output : w'.output = w.output
  size : w'.heap.size = w.heap.size
  other : ∀ g, g ≠ b → w'.heap[g]? = w.heap[g]?
theorem Blk.chg {w w' : World} {g b : Nat} {t : TypeId} {cs : Array Value} (h : Blk w g t cs) (hc : Chg b w w') (hn : g ≠ b) : Blk w' g t cs := (hc.other g hn).trans h
theorem Chg.below {w w' : World} {b B : Nat} (hc : Chg b w w') (hB : B ≤ b) : Below B w w' :=
  ⟨hc.os, hc.tape, hc.output, by rw [hc.size]; exact Nat.le_refl _, fun g hg => hc.other g (by omega)⟩
theorem Chg.setCell (w : World) (p : Addr) (v : Value) : Chg p.block w (w.setCell p v) :=
  ⟨rfl, rfl, rfl, by simp [World.setCell], fun g hg => heap_setCell_other w p g v hg⟩
theorem setIfInBounds_append_left (l r : List Value) (x v : Value) : ((l ++ x :: r).toArray).setIfInBounds l.length v = (l ++ v :: r).toArray := by
  apply Array.ext'
  simp
theorem setCells_blk (b : Nat) (t : TypeId) : ∀ (cs old pre : List Value) (w : World), Blk w b t (pre ++ old).toArray → old.length = cs.length → Blk (w.setCells b pre.length cs) b t (pre ++ cs).toArray ∧ Chg b w (w.setCells b pre.length cs)
  | [], old, pre, w, h, hl => by
    cases old with
    | nil => exact ⟨h, rfl, rfl, rfl, rfl, fun _ _ => rfl⟩
    | cons => simp at hl
  | c :: cs, old, pre, w, h, hl => by
    cases old with
    | nil => simp at hl
    | cons o old =>
      have h1 := h.put pre.length c
      rw [setIfInBounds_append_left] at h1
      have h2 := setCells_blk b t cs old (pre ++ [c]) (w.setCell ⟨b, pre.length, none⟩ c) (by simpa using h1) (by simpa using hl)
      have hc := Chg.setCell w ⟨b, pre.length, none⟩ c
      simp only [List.length_append, List.length_cons, List.length_nil, List.append_assoc, List.cons_append, List.nil_append] at h2
      refine ⟨h2.1, h2.2.os.trans hc.os, h2.2.tape.trans hc.tape, h2.2.output.trans hc.output, h2.2.size.trans hc.size, fun g hg => (h2.2.other g hg).trans (hc.other g hg)⟩
theorem Blk.range {w : World} {b : Nat} {t : TypeId} {cs : Array Value} (h : Blk w b t cs) : w.rangeAt b 0 cs.toList := by
  intro j v hj
  rw [Nat.zero_add, h.cell]
  simpa using hj
variable {P : Program}
theorem wl_load {ops : Array Oper} {rest : List Oper} {op : Oper} {a : Act} {w : World} {Q : Exit → Act → World → Prop} (hw : Region.wanted op (yielded ops a.tmps) = true) (ty : TypeId) (x : Operand) (ho : op.op = .load ty x)
    (b : Nat) (hx : a.eval x = .pointer (some ⟨b, 0, none⟩)) (t : TypeId) (cs : Array Value) (d : TypeDesc) (hc : Blk w b t cs)
    (hu : P.underlying ty = some d) (hd : d.isRow = true) (hi : (P.info? ty).map (·.size) = some cs.size)
    (h : wpList P ops Q rest (a.put op.dst (.agg cs)) w) : wpList P ops Q (op :: rest) a w :=
  BigFrame.wpList_want hw fun _ hK => wp_load_mid ty x ho b 0 hx cs.toList d hc.range hu hd (by simpa using hi) (hK _ _ (by simpa using h))
theorem wl_store {ops : Array Oper} {rest : List Oper} {op : Oper} {a : Act} {w : World} {Q : Exit → Act → World → Prop} (hw : Region.wanted op (yielded ops a.tmps) = true) (ty : TypeId) (x y : Operand) (ho : op.op = .store ty x y)
    (b : Nat) (cells : Array Value) (hx : a.eval x = .pointer (some ⟨b, 0, none⟩)) (hy : a.eval y = .agg cells)
    (t : TypeId) (old : Array Value) (hb : Blk w b t old) (hs : old.size = cells.size) (hi : (P.info? ty).map (·.size) = some cells.size) (h1 : cells.all (·.oneCell') = true)
    (h : ∀ w', Blk w' b t cells → Chg b w w' → wpList P ops Q rest (a.put op.dst undef) w') : wpList P ops Q (op :: rest) a w := by
  have hk := setCells_blk b t cells.toList old.toList [] w (by simpa using hb) (by simpa using hs)
  refine BigFrame.wpList_want hw fun _ hK => wp_store_mid ty x y ho b 0 cells hx hy ?_ hi h1 (hK _ _ (h _ (by simpa using hk.1) (by simpa using hk.2)))
  intro j hj
  rw [Nat.zero_add, hb.cell]
  exact ⟨by rw [Array.getElem?_eq_getElem (by omega)]; rfl, hb.free j⟩
theorem wl_forget {ops : Array Oper} {rest : List Oper} {a : Act} {w : World} {Q : Exit → Act → World → Prop} (S : World → Prop) (hS : S w) (h : ∀ w', S w' → wpList P ops Q rest a w') : wpList P ops Q rest a w := h w hS
theorem wp_forget {c : Code} {a : Act} {w : World} {Q : Exit → Act → World → Prop} (S : World → Prop) (hS : S w) (h : ∀ w', S w' → Code.wp P c Q a w') : Code.wp P c Q a w := h w hS
theorem results_row {fn : Func} {tmps : Array Value} {w : World} (s ty b : Nat) (hf : fn.results = #[.cell s ty]) (hx : tmps.getD s undef = .pointer (some ⟨b, 0, none⟩)) {t : TypeId} {cs : Array Value} (hb : Blk w b t cs)
    (d : TypeDesc) (hu : P.underlying ty = some d) (hd : d.isRow = true) (hi : (P.info? ty).map (·.size) = some cs.size) : (results fn tmps).run P w = .ok (.agg cs) w := by
  have hl := run_loadVar_mid (P := P) w b 0 ty cs.toList d hb.range hu hd (by simpa using hi)
  have hx' : tmps[s]?.getD undef = .pointer (some ⟨b, 0, none⟩) := by simpa using hx
  have ha : (asAddr (.pointer (some ⟨b, 0, none⟩))).run P w = .ok ⟨b, 0, none⟩ w := rfl
  simp [results, hf, hx', Sem.run_bind, hl, ha]
@[go_sem high] theorem run_max_ints3 (w : World) (ts : Array TypeId) (t : TypeId) (k k' k'' : IntKind) (x y z : Int) :
    (Builtin.max_ ts t #[.int k x, .int k' y, .int k'' z]).run P w = .ok (.int k (max (max x y) z)) w := by
  have e : (if z > (if y > x then y else x) then z else (if y > x then y else x)) = max (max x y) z := by
    simp only [Int.max_def]
    split <;> split <;> split <;> split <;> omega
  simp [Builtin.max_, Builtin.max2, e]
structure Stop (p : Prop) : Prop where
  out : p
theorem stop_load {ops : Array Oper} {rest : List Oper} {op : Oper} {a : Act} {w : World} {Q : Exit → Act → World → Prop} (ty : TypeId) (x : Operand) (ho : op.op = .load ty x) (hw : Region.wanted op (yielded ops a.tmps) = true)
    (h : Stop (wpList P ops Q (op :: rest) a w)) : wpList P ops Q (op :: rest) a w := h.out
theorem stop_store {ops : Array Oper} {rest : List Oper} {op : Oper} {a : Act} {w : World} {Q : Exit → Act → World → Prop} (ty : TypeId) (x y : Operand) (ho : op.op = .store ty x y) (hw : Region.wanted op (yielded ops a.tmps) = true)
    (h : Stop (wpList P ops Q (op :: rest) a w)) : wpList P ops Q (op :: rest) a w := h.out
theorem stop_append {ops : Array Oper} {rest : List Oper} {op : Oper} {a : Act} {w : World} {Q : Exit → Act → World → Prop} (s x : Operand) (t t' : TypeId)
    (ho : op.op = .call { callee := .builtin .append, args := #[s, x], argTypes := #[t, t'] })
    (h : Stop (wpList P ops Q (op :: rest) a w)) : wpList P ops Q (op :: rest) a w := h.out
end Mem
end Go.Proofs.YtkkiefcapbddkaaGreatDoor
namespace Go.Proofs.YtkkiefcapbddkaaGreatDoor

namespace Ord
variable {P : Program} {ops : Array Oper} {Q : Exit → Act → World → Prop} {md : Region.Mode} {S : World → Prop}
def okOrd (md : Region.Mode) (ops : Array Oper) : List (Nat × Bool) → Array Bool → Bool
  | [], listed => Region.ready md ops listed == []
  | (i, true) :: r, listed => Region.free md ops listed i && (Region.ready md ops listed).contains i && okOrd md ops r (listed.setIfInBounds i true)
  | (i, false) :: r, listed => (Region.ready md ops listed == [i]) && okOrd md ops r (listed.setIfInBounds i true)
def wpOrd (P : Program) (ops : Array Oper) (Q : Exit → Act → World → Prop) (S : World → Prop) : List (Nat × Bool) → Act → World → Prop
  | [], a, w => Q .normal a w
  | (i, true) :: r, a, w => ∃ oi v, ops[i]? = some oi ∧ YieldsIf P ops S oi v a ∧ wpOrd P ops Q S r (a.put oi.dst v) w
  | (i, false) :: r, a, w => wpOp P ops Q i (fun a' w' => S w' ∧ wpOrd P ops Q S r a' w') a w
theorem held_of_ord (hs : Region.noSelect ops = true) (hp : ∀ (c : _) (a : Act) (d : Option Tmp) (v : Value) (w : World), Q (.panic c) (a.put d v) w → Q (.panic c) a w) : ∀ (order : List (Nat × Bool)) (fuel : Nat) (listed : Array Bool) (a : Act) (w : World),
    order.length ≤ fuel → okOrd md ops order listed = true → S w → wpOrd P ops Q S order a w → wpAnyH P md ops Q S fuel listed a w := by
  intro order
  induction order with
  | nil =>
    intro fuel listed a w _ ho _ h
    exact wpAnyH_done (by simpa [okOrd] using ho) h fuel
  | cons x r ih =>
    intro fuel listed a w hf ho hS h
    obtain ⟨i, b⟩ := x
    cases fuel with
    | zero => simp at hf
    | succ fuel =>
      cases b with
      | true =>
        obtain ⟨oi, v, hi, hy, h⟩ := h
        simp only [okOrd, Bool.and_eq_true] at ho
        exact wpAnyH_take hi hs ho.1.1 ho.1.2 (fun c a w hq => hp c a _ _ w hq) hy hS (ih fuel _ _ _ (by simp at hf; omega) ho.2 hS h)
      | false =>
        simp only [okOrd, Bool.and_eq_true, beq_iff_eq] at ho
        refine wpAnyH_all ho.1 (by simp) (fun j hj => ?_)
        have : j = i := by simpa using hj
        subst this
        exact wpOp_mono (fun a' w' hh => ⟨hh.1, ih fuel _ _ _ (by simp at hf; omega) ho.2 hh.1 hh.2⟩) h
def lay (l : List Oper) : List (Nat × Bool) → List (Nat × Option Oper × Bool)
  | [] => []
  | (i, b) :: r => (i, l[i]?, b) :: lay l r
def wpSt (P : Program) (ops : Array Oper) (Q : Exit → Act → World → Prop) (S : World → Prop) : List (Nat × Option Oper × Bool) → Act → World → Prop
  | [], a, w => Q .normal a w
  | (_, some oi, true) :: r, a, w => ∃ v, YieldsIf P ops S oi v a ∧ wpSt P ops Q S r (a.put oi.dst v) w
  | (i, some _, false) :: r, a, w => wpOp P ops Q i (fun a' w' => S w' ∧ wpSt P ops Q S r a' w') a w
  | (_, none, _) :: _, _, _ => False
theorem ord_of_st {l : List Oper} : ∀ (order : List (Nat × Bool)) (a : Act) (w : World), wpSt P l.toArray Q S (lay l order) a w → wpOrd P l.toArray Q S order a w := by
  intro order
  induction order with
  | nil => intro a w h; exact h
  | cons x r ih =>
    intro a w h
    obtain ⟨i, b⟩ := x
    cases ho : l[i]? with
    | none => simp [lay, wpSt, ho] at h
    | some oi =>
      cases b with
      | true =>
        simp only [lay, wpSt, ho] at h
        obtain ⟨v, hy, h⟩ := h
        exact ⟨oi, v, by simpa using ho, hy, ih _ _ h⟩
      | false =>
        simp only [lay, wpSt, ho] at h
        exact wpOp_mono (fun a' w' hh => ⟨hh.1, ih _ _ hh.2⟩) h
theorem region_ord {id : Nat} {l : List Oper} {a : Act} {w : World} (order : List (Nat × Bool)) (hm : P.follows .mixedOrders = true) (hs : Region.noSelect l.toArray = true)
    (hB : okOrd .any l.toArray order (Array.replicate l.toArray.size false) = true) (hn : order.length ≤ l.toArray.size) (hp : ∀ (c : _) (a : Act) (d : Option Tmp) (v : Value) (w : World), Q (.panic c) (a.put d v) w → Q (.panic c) a w) (hS : S w.drew)
    (h : S w.drew → wpSt P l.toArray Q S (lay l order) a w.drew) : (Code.region id l.toArray true).wp P Q a w :=
  wp_region_held_drew (S := S) hm hS (fun hS' => held_of_ord hs hp order _ _ _ _ hn hB hS' (ord_of_st _ _ _ (h hS')))
theorem take {i : Nat} {r : List (Nat × Option Oper × Bool)} {a : Act} {w : World} {oi : Oper} {v : Value} (hy : YieldsIf P ops S oi v a) (h : wpSt P ops Q S r (a.put oi.dst v) w) : wpSt P ops Q S ((i, some oi, true) :: r) a w :=
  ⟨v, hy, h⟩
theorem alone {i : Nat} {r : List (Nat × Option Oper × Bool)} {a : Act} {w : World} {o : Oper} (ho : ops[i]? = some o)
    (h : ∀ K' : Act → World → Prop, Shut (∀ a w, S w → (S w → wpSt P ops Q S r a w) → K' a w) → if Region.wanted o (yielded ops a.tmps) = true then Oper.wp P o a w K' Q else K' (a.put o.dst undef) w) :
    wpSt P ops Q S ((i, some o, false) :: r) a w :=
  wpOp_step ho (fun K' hK => h K' (fun a w hS hW => hK a w ⟨hS, hW hS⟩))
theorem alone' {i : Nat} {r : List (Nat × Option Oper × Bool)} {a : Act} {w : World} {o : Oper} (ho : ops[i]? = some o) (hw : Region.wanted o (yielded ops a.tmps) = true)
    (h : ∀ K' : Act → World → Prop, Shut (∀ a w, S w → (S w → wpSt P ops Q S r a w) → K' a w) → Oper.wp P o a w K' Q) :
    wpSt P ops Q S ((i, some o, false) :: r) a w :=
  alone ho (fun K' hK => by rw [if_pos hw]; exact h K' hK)
theorem done {a : Act} {w : World} (h : Q .normal a w) : wpSt P ops Q S [] a w := h
end Ord
end Go.Proofs.YtkkiefcapbddkaaGreatDoor
namespace Go.Proofs.YtkkiefcapbddkaaGreatDoor
namespace Ord
inductive Tree
  | nil
  | one (i : Nat) (b : Bool) (r : Tree)
  | two (i : Nat) (r : Tree) (j : Nat) (s : Tree)
variable {P : Program} {ops : Array Oper} {Q : Exit → Act → World → Prop} {md : Region.Mode} {S : World → Prop}
def okT (md : Region.Mode) (ops : Array Oper) : Tree → Array Bool → Bool
  | .nil, listed => Region.ready md ops listed == []
  | .one i true r, listed => Region.free md ops listed i && (Region.ready md ops listed).contains i && okT md ops r (listed.setIfInBounds i true)
  | .one i false r, listed => (Region.ready md ops listed == [i]) && okT md ops r (listed.setIfInBounds i true)
  | .two i r j s, listed => (Region.ready md ops listed == [i, j]) && okT md ops r (listed.setIfInBounds i true) && okT md ops s (listed.setIfInBounds j true)
def Tree.depth : Tree → Nat
  | .nil => 0
  | .one _ _ r => r.depth + 1
  | .two _ r _ s => max r.depth s.depth + 1
inductive Lay
  | nil
  | one (i : Nat) (o : Option Oper) (b : Bool) (r : Lay)
  | two (i : Nat) (o : Option Oper) (r : Lay) (j : Nat) (p : Option Oper) (s : Lay)
def layT (l : List Oper) : Tree → Lay
  | .nil => .nil
  | .one i b r => .one i l[i]? b (layT l r)
  | .two i r j s => .two i l[i]? (layT l r) j l[j]? (layT l s)
def wpT (P : Program) (ops : Array Oper) (Q : Exit → Act → World → Prop) (S : World → Prop) : Lay → Act → World → Prop
  | .nil, a, w => Q .normal a w
  | .one _ (some oi) true r, a, w => ∃ v, YieldsIf P ops S oi v a ∧ wpT P ops Q S r (a.put oi.dst v) w
  | .one i (some _) false r, a, w => wpOp P ops Q i (fun a' w' => S w' ∧ wpT P ops Q S r a' w') a w
  | .two i (some _) r j (some _) s, a, w => wpOp P ops Q i (fun a' w' => S w' ∧ wpT P ops Q S r a' w') a w ∧ wpOp P ops Q j (fun a' w' => S w' ∧ wpT P ops Q S s a' w') a w
  | _, _, _ => False
theorem held_of_tree {l : List Oper} (hs : Region.noSelect l.toArray = true) (hp : ∀ (c : _) (a : Act) (d : Option Tmp) (v : Value) (w : World), Q (.panic c) (a.put d v) w → Q (.panic c) a w) : ∀ (t : Tree) (fuel : Nat) (listed : Array Bool) (a : Act) (w : World),
    t.depth ≤ fuel → okT md l.toArray t listed = true → S w → wpT P l.toArray Q S (layT l t) a w → wpAnyH P md l.toArray Q S fuel listed a w := by
  intro t
  induction t with
  | nil =>
    intro fuel listed a w _ ho _ h
    exact wpAnyH_done (by simpa [okT] using ho) h fuel
  | one i b r ih =>
    intro fuel listed a w hf ho hS h
    cases fuel with
    | zero => simp [Tree.depth] at hf
    | succ fuel =>
      have hf' : r.depth ≤ fuel := by simp [Tree.depth] at hf; omega
      cases hi : l[i]? with
      | none => cases b <;> simp [layT, hi, wpT] at h
      | some oi =>
        cases b with
        | true =>
          simp only [layT, hi, wpT] at h
          obtain ⟨v, hy, h⟩ := h
          simp only [okT, Bool.and_eq_true] at ho
          exact wpAnyH_take (by simpa using hi) hs ho.1.1 ho.1.2 (fun c a w hq => hp c a _ _ w hq) hy hS (ih fuel _ _ _ hf' ho.2 hS h)
        | false =>
          simp only [layT, hi, wpT] at h
          simp only [okT, Bool.and_eq_true, beq_iff_eq] at ho
          refine wpAnyH_all ho.1 (by simp) (fun j hj => ?_)
          have : j = i := by simpa using hj
          subst this
          exact wpOp_mono (fun a' w' hh => ⟨hh.1, ih fuel _ _ _ hf' ho.2 hh.1 hh.2⟩) h
  | two i r j s ih1 ih2 =>
    intro fuel listed a w hf ho hS h
    cases fuel with
    | zero => simp [Tree.depth] at hf
    | succ fuel =>
      have hf1 : r.depth ≤ fuel := by simp [Tree.depth] at hf; omega
      have hf2 : s.depth ≤ fuel := by simp [Tree.depth] at hf; omega
      cases hi : l[i]? with
      | none => cases hj : l[j]? <;> simp [layT, hi, hj, wpT] at h
      | some oi =>
        cases hj : l[j]? with
        | none => simp [layT, hi, hj, wpT] at h
        | some oj =>
          simp only [layT, hi, hj, wpT] at h
          simp only [okT, Bool.and_eq_true, beq_iff_eq] at ho
          refine wpAnyH_all ho.1.1 (by simp) (fun k hk => ?_)
          have hk' : k = i ∨ k = j := by simpa using hk
          rcases hk' with rfl | rfl
          · exact wpOp_mono (fun a' w' hh => ⟨hh.1, ih1 fuel _ _ _ hf1 ho.1.2 hh.1 hh.2⟩) h.1
          · exact wpOp_mono (fun a' w' hh => ⟨hh.1, ih2 fuel _ _ _ hf2 ho.2 hh.1 hh.2⟩) h.2
theorem region_tree {id : Nat} {l : List Oper} {a : Act} {w : World} (t : Tree) (hm : P.follows .mixedOrders = true) (hs : Region.noSelect l.toArray = true)
    (hB : okT .any l.toArray t (Array.replicate l.toArray.size false) = true) (hn : t.depth ≤ l.toArray.size) (hp : ∀ (c : _) (a : Act) (d : Option Tmp) (v : Value) (w : World), Q (.panic c) (a.put d v) w → Q (.panic c) a w) (hS : S w.drew)
    (h : S w.drew → wpT P l.toArray Q S (layT l t) a w.drew) : (Code.region id l.toArray true).wp P Q a w :=
  wp_region_held_drew (S := S) hm hS (fun hS' => held_of_tree hs hp t _ _ _ _ hn hB hS' (h hS'))
theorem takeT {i : Nat} {r : Lay} {a : Act} {w : World} {oi : Oper} {v : Value} (hy : YieldsIf P ops S oi v a) (h : wpT P ops Q S r (a.put oi.dst v) w) : wpT P ops Q S (.one i (some oi) true r) a w := ⟨v, hy, h⟩
theorem aloneT {i : Nat} {r : Lay} {a : Act} {w : World} {o : Oper} (ho : ops[i]? = some o) (hw : Region.wanted o (yielded ops a.tmps) = true)
    (h : ∀ K' : Act → World → Prop, Shut (∀ a w, S w → (S w → wpT P ops Q S r a w) → K' a w) → Oper.wp P o a w K' Q) :
    wpT P ops Q S (.one i (some o) false r) a w :=
  wpOp_step ho (fun K' hK => by rw [if_pos hw]; exact h K' (fun a w hS hW => hK a w ⟨hS, hW hS⟩))
theorem twoT {i j : Nat} {r s : Lay} {a : Act} {w : World} {o p : Oper} (ho : ops[i]? = some o) (hw : Region.wanted o (yielded ops a.tmps) = true) (ho' : ops[j]? = some p) (hw' : Region.wanted p (yielded ops a.tmps) = true)
    (h : ∀ K' : Act → World → Prop, Shut (∀ a w, S w → (S w → wpT P ops Q S r a w) → K' a w) → Oper.wp P o a w K' Q)
    (h' : ∀ K' : Act → World → Prop, Shut (∀ a w, S w → (S w → wpT P ops Q S s a w) → K' a w) → Oper.wp P p a w K' Q) :
    wpT P ops Q S (.two i (some o) r j (some p) s) a w :=
  ⟨wpOp_step ho (fun K' hK => by rw [if_pos hw]; exact h K' (fun a w hS hW => hK a w ⟨hS, hW hS⟩)), wpOp_step ho' (fun K' hK => by rw [if_pos hw']; exact h' K' (fun a w hS hW => hK a w ⟨hS, hW hS⟩))⟩
theorem doneT {a : Act} {w : World} (h : Q .normal a w) : wpT P ops Q S .nil a w := h
end Ord
end Go.Proofs.YtkkiefcapbddkaaGreatDoor
namespace Go.Proofs.YtkkiefcapbddkaaGreatDoor
namespace Ord
variable {P : Program} {ops : Array Oper} {Q : Exit → Act → World → Prop} {md : Region.Mode} {S : World → Prop}
def waitsAll (md : Region.Mode) (ops : Array Oper) (n : Nat) : Bool := (List.range ops.size).all fun k => k == n || Region.waitsFor md ops n k
def wpAnyM (P : Program) (md : Region.Mode) (ops : Array Oper) (Q : Exit → Act → World → Prop) (S : World → Prop) (n : Nat) : Nat → Array Bool → Act → World → Prop
  | 0, listed, a, w => Region.ready md ops listed = [] ∧ Q .normal a w
  | fuel + 1, listed, a, w => (Region.ready md ops listed = [] → Q .normal a w) ∧
    ∀ i ∈ Region.ready md ops listed, wpOp P ops Q i (fun a' w' => (i ≠ n → S w') ∧ wpAnyM P md ops Q S n fuel (listed.setIfInBounds i true) a' w') a w
theorem any_of_M {n : Nat} : ∀ (fuel : Nat) (listed : Array Bool) (a : Act) (w : World), wpAnyM P md ops Q S n fuel listed a w → wpAny P md ops Q fuel listed a w
  | 0, _, _, _, h => h
  | fuel + 1, _, _, _, h => ⟨h.1, fun i hi => wpOp_mono (fun a' w' h' => any_of_M fuel _ a' w' h'.2) (h.2 i hi)⟩
theorem first_M {n i : Nat} {oi : Oper} {v : Value} (hn : waitsAll md ops n = true) (hin : i ≠ n) (hi : ops[i]? = some oi) (hsel : ∀ (j : Nat) (o : Oper) cs b, ops[j]? = some o → o.op ≠ .select cs b)
    (hQ : ∀ c a w, Q (.panic c) (a.put oi.dst v) w → Q (.panic c) a w) :
    ∀ (fuel : Nat) (listed : Array Bool) (a : Act) (w : World),
      (∀ j oj, ops[j]? = some oj → j ≠ i → listed.getD j true = false → (∀ e ∈ oj.after, Region.binds md e = true → e.on ≠ i) → oi.apart ops oj = true) →
      i ∈ Region.ready md ops listed → YieldsIf P ops S oi v a → S w →
      wpAnyM P md ops Q S n fuel (listed.setIfInBounds i true) (a.put oi.dst v) w → wpAnyM P md ops Q S n (fuel + 1) listed a w := by
  intro fuel
  induction fuel with
  | zero =>
    intro listed a w _ hr hy hS H
    refine ⟨fun h => (by rw [h] at hr; cases hr), fun j hj => ?_⟩
    by_cases hji : j = i
    · subst hji; exact hy.wpOp hi hS ⟨fun _ => hS, H⟩
    · have := ready_mono hj hji
      rw [H.1] at this
      cases this
  | succ fuel ih =>
    intro listed a w hfree hr hy hS H
    refine ⟨fun h => (by rw [h] at hr; cases hr), fun j hj => ?_⟩
    by_cases hji : j = i
    · subst hji; exact hy.wpOp hi hS ⟨fun _ => hS, H⟩
    · have h1 := H.2 j (ready_mono hj hji)
      obtain ⟨hjun, oj, hoj, hall⟩ := mem_ready.1 hj
      have hnot : ∀ e ∈ oj.after, Region.binds md e = true → e.on ≠ i := fun e he hb heq => by
        have h1 := hall e he hb
        have h0 := (mem_ready.1 hr).1
        rw [heq] at h1
        rcases Nat.lt_or_ge i listed.size with h' | h'
        · simp [h'] at h0 h1; rw [h0] at h1; cases h1
        · simp [Array.getElem?_eq_none h'] at h1
      have hjn : j ≠ n := by
        rintro rfl
        unfold waitsAll at hn
        rw [List.all_eq_true] at hn
        have hlt : i < ops.size := (Array.getElem?_eq_some_iff.1 hi).1
        have hw := hn i (List.mem_range.2 hlt)
        simp only [Bool.or_eq_true, beq_iff_eq] at hw
        rcases hw with hw | hw
        · exact hin hw
        · obtain ⟨oj', hoj', e, he, hb, hon⟩ := Region.waitsFor_spec hw
          rw [hoj] at hoj'
          obtain rfl := Option.some.inj hoj'
          exact hnot e he hb hon
      have h2 := wpOp_putIf hoj (hfree j oj hoj hji hjun hnot) (fun cs b => hsel i oi cs b hi) (fun cs b => hsel j oj cs b hoj) hQ hy h1
      have hfree' : ∀ k ok, ops[k]? = some ok → k ≠ i → (listed.setIfInBounds j true).getD k true = false →
          (∀ e ∈ ok.after, Region.binds md e = true → e.on ≠ i) → oi.apart ops ok = true := fun k ok hk hki hun hno => by
        refine hfree k ok hk hki ?_ hno
        by_cases hjk : j = k
        · subst hjk; exact hjun
        · rw [getD_set_ne true hjk] at hun; exact hun
      refine wpOp_mono (fun a' w' h3 => ⟨fun _ => h3.2.1 hjn, ih (listed.setIfInBounds j true) a' w' hfree' (ready_mono hr (Ne.symm hji)) h3.1 (h3.2.1 hjn) ?_⟩) h2
      rw [Array.setIfInBounds_comm _ _ hji]
      exact h3.2.2
def wpM (P : Program) (ops : Array Oper) (Q : Exit → Act → World → Prop) (S : World → Prop) (n : Nat) : Lay → Act → World → Prop
  | .nil, a, w => Q .normal a w
  | .one _ (some oi) true r, a, w => ∃ v, YieldsIf P ops S oi v a ∧ wpM P ops Q S n r (a.put oi.dst v) w
  | .one i (some _) false r, a, w => wpOp P ops Q i (fun a' w' => (i ≠ n → S w') ∧ wpM P ops Q S n r a' w') a w
  | .two i (some _) r j (some _) s, a, w => wpOp P ops Q i (fun a' w' => (i ≠ n → S w') ∧ wpM P ops Q S n r a' w') a w ∧ wpOp P ops Q j (fun a' w' => (j ≠ n → S w') ∧ wpM P ops Q S n s a' w') a w
  | _, _, _ => False
def okM (md : Region.Mode) (ops : Array Oper) (n : Nat) : Tree → Array Bool → Bool
  | .nil, listed => Region.ready md ops listed == []
  | .one i true r, listed => i != n && Region.free md ops listed i && (Region.ready md ops listed).contains i && okM md ops n r (listed.setIfInBounds i true)
  | .one i false r, listed => (Region.ready md ops listed == [i]) && (i != n || (match r with | .nil => true | _ => false)) && okM md ops n r (listed.setIfInBounds i true)
  | .two i r j s, listed => i != n && j != n && (Region.ready md ops listed == [i, j]) && okM md ops n r (listed.setIfInBounds i true) && okM md ops n s (listed.setIfInBounds j true)
theorem M_of_tree {n : Nat} {l : List Oper} (hn : waitsAll md l.toArray n = true) (hs : Region.noSelect l.toArray = true) (hp : ∀ (c : _) (a : Act) (d : Option Tmp) (v : Value) (w : World), Q (.panic c) (a.put d v) w → Q (.panic c) a w) : ∀ (t : Tree) (fuel : Nat) (listed : Array Bool) (a : Act) (w : World),
    t.depth ≤ fuel → okM md l.toArray n t listed = true → (S w ∨ t = .nil) → wpM P l.toArray Q S n (layT l t) a w → wpAnyM P md l.toArray Q S n fuel listed a w := by
  intro t
  induction t with
  | nil =>
    intro fuel listed a w _ ho _ h
    have hr : Region.ready md l.toArray listed = [] := by simpa [okM] using ho
    cases fuel with
    | zero => exact ⟨hr, h⟩
    | succ fuel => exact ⟨fun _ => h, by rw [hr]; simp⟩
  | one i b r ih =>
    intro fuel listed a w hf ho hS h
    replace hS : S w := by rcases hS with hS | hS; exact hS; cases hS
    cases fuel with
    | zero => simp [Tree.depth] at hf
    | succ fuel =>
      have hf' : r.depth ≤ fuel := by simp [Tree.depth] at hf; omega
      cases hi : l[i]? with
      | none => cases b <;> simp [layT, hi, wpM] at h
      | some oi =>
        cases b with
        | true =>
          simp only [layT, hi, wpM] at h
          obtain ⟨v, hy, h⟩ := h
          simp only [okM, Bool.and_eq_true, bne_iff_ne] at ho
          have hi' : l.toArray[i]? = some oi := by simpa using hi
          exact first_M hn ho.1.1.1 hi' (Region.noSelect_spec hs) (fun c a w hq => hp c a _ _ w hq) fuel listed a w (Region.free_spec hi' ho.1.1.2) (by simpa using ho.1.2) hy hS (ih fuel _ _ _ hf' ho.2 (.inl hS) h)
        | false =>
          simp only [layT, hi, wpM] at h
          simp only [okM, Bool.and_eq_true, beq_iff_eq] at ho
          refine ⟨fun h0 => (by rw [ho.1.1] at h0; cases h0), fun j hj => ?_⟩
          rw [ho.1.1] at hj
          have : j = i := by simpa using hj
          subst this
          refine wpOp_mono (fun a' w' hh => ⟨hh.1, ih fuel _ _ _ hf' ho.2 ?_ hh.2⟩) h
          by_cases hjn : j = n
          · right
            have h2 := ho.1.2
            simp only [hjn, bne_self_eq_false, Bool.false_or] at h2
            cases r <;> first | rfl | cases h2
          · exact .inl (hh.1 hjn)
  | two i r j s ih1 ih2 =>
    intro fuel listed a w hf ho hS h
    cases fuel with
    | zero => simp [Tree.depth] at hf
    | succ fuel =>
      have hf1 : r.depth ≤ fuel := by simp [Tree.depth] at hf; omega
      have hf2 : s.depth ≤ fuel := by simp [Tree.depth] at hf; omega
      cases hi : l[i]? with
      | none => cases hj : l[j]? <;> simp [layT, hi, hj, wpM] at h
      | some oi =>
        cases hj : l[j]? with
        | none => simp [layT, hi, hj, wpM] at h
        | some oj =>
          simp only [layT, hi, hj, wpM] at h
          simp only [okM, Bool.and_eq_true, beq_iff_eq, bne_iff_ne] at ho
          obtain ⟨⟨⟨⟨n1, n2⟩, hr⟩, o1⟩, o2⟩ := ho
          refine ⟨fun h0 => (by rw [hr] at h0; cases h0), fun k hk => ?_⟩
          rw [hr] at hk
          have hk' : k = i ∨ k = j := by simpa using hk
          rcases hk' with rfl | rfl
          · exact wpOp_mono (fun a' w' hh => ⟨hh.1, ih1 fuel _ _ _ hf1 o1 (.inl (hh.1 n1)) hh.2⟩) h.1
          · exact wpOp_mono (fun a' w' hh => ⟨hh.1, ih2 fuel _ _ _ hf2 o2 (.inl (hh.1 n2)) hh.2⟩) h.2
theorem region_M {id : Nat} {l : List Oper} {a : Act} {w : World} (n : Nat) (t : Tree) (hm : P.follows .mixedOrders = true) (hs : Region.noSelect l.toArray = true) (hn : waitsAll .any l.toArray n = true)
    (hB : okM .any l.toArray n t (Array.replicate l.toArray.size false) = true) (hd : t.depth ≤ l.toArray.size) (hp : ∀ (c : _) (a : Act) (d : Option Tmp) (v : Value) (w : World), Q (.panic c) (a.put d v) w → Q (.panic c) a w) (hS : S w.drew)
    (h : S w.drew → wpM P l.toArray Q S n (layT l t) a w.drew) : (Code.region id l.toArray true).wp P Q a w :=
  wp_region_any hm (any_of_M _ _ _ _ (M_of_tree hn hs hp t _ _ _ _ hd hB (.inl hS) (h hS)))
theorem takeM {n i : Nat} {r : Lay} {a : Act} {w : World} {oi : Oper} {v : Value} (hy : YieldsIf P ops S oi v a) (h : wpM P ops Q S n r (a.put oi.dst v) w) : wpM P ops Q S n (.one i (some oi) true r) a w := ⟨v, hy, h⟩
theorem aloneM {n i : Nat} {r : Lay} {a : Act} {w : World} {o : Oper} (ho : ops[i]? = some o) (hw : Region.wanted o (yielded ops a.tmps) = true)
    (h : ∀ K' : Act → World → Prop, Shut (∀ a w, S w → (S w → wpM P ops Q S n r a w) → K' a w) → Oper.wp P o a w K' Q) :
    wpM P ops Q S n (.one i (some o) false r) a w :=
  wpOp_step ho (fun K' hK => by rw [if_pos hw]; exact h K' (fun a w hS hW => hK a w ⟨fun _ => hS, hW hS⟩))
theorem lastM {n : Nat} {r : Lay} {a : Act} {w : World} {o : Oper} (ho : ops[n]? = some o) (hw : Region.wanted o (yielded ops a.tmps) = true)
    (h : ∀ K' : Act → World → Prop, Shut (∀ a w, wpM P ops Q S n r a w → K' a w) → Oper.wp P o a w K' Q) :
    wpM P ops Q S n (.one n (some o) false r) a w :=
  wpOp_step ho (fun K' hK => by rw [if_pos hw]; exact h K' (fun a w hW => hK a w ⟨fun hne => absurd rfl hne, hW⟩))
theorem doneM {n : Nat} {a : Act} {w : World} (h : Q .normal a w) : wpM P ops Q S n .nil a w := h
end Ord
end Go.Proofs.YtkkiefcapbddkaaGreatDoor
namespace Go.Proofs.YtkkiefcapbddkaaGreatDoor
namespace Ord
variable {P : Program} {ops : Array Oper} {Q : Exit → Act → World → Prop} {md : Region.Mode} {S : World → Prop}
def lastBehind (md : Region.Mode) (ops : Array Oper) (n : Nat) (listed : Array Bool) (i : Nat) : Bool :=
  Region.waitsFor md ops n i || (List.range ops.size).any fun m => Region.waitsFor md ops n m && Region.waitsFor md ops m i && !listed.getD m true
theorem unready {j i : Nat} {listed : Array Bool} (hw : Region.waitsFor md ops j i = true) (hi : listed.getD i false = false) : j ∉ Region.ready md ops listed := fun hj => by
  obtain ⟨_, oj, hoj, hall⟩ := mem_ready.1 hj
  obtain ⟨oj', hoj', e, he, hb, hon⟩ := Region.waitsFor_spec hw
  rw [hoj] at hoj'
  obtain rfl := Option.some.inj hoj'
  have := hall e he hb
  rw [hon, hi] at this
  cases this
theorem not_ready {n i : Nat} {listed : Array Bool} (hl : Region.waitsFor md ops n i = true ∨ ∃ m, Region.waitsFor md ops n m = true ∧ Region.waitsFor md ops m i = true ∧ listed.getD m true = false) (hi : listed.getD i true = false) : n ∉ Region.ready md ops listed := by
  have hi' : ∀ k : Nat, listed.getD k true = false → listed.getD k false = false := fun k h => by
    rcases Nat.lt_or_ge k listed.size with h' | h'
    · simp [h'] at h ⊢; exact h
    · simp [Array.getElem?_eq_none h'] at h
  rcases hl with h | ⟨m, h1, h2, h3⟩
  · exact unready h (hi' _ hi)
  · exact unready h1 (hi' _ h3)
theorem first_N {n i : Nat} {oi : Oper} {v : Value} (hin : i ≠ n) (hi : ops[i]? = some oi) (hsel : ∀ (j : Nat) (o : Oper) cs b, ops[j]? = some o → o.op ≠ .select cs b)
    (hQ : ∀ c a w, Q (.panic c) (a.put oi.dst v) w → Q (.panic c) a w) :
    ∀ (fuel : Nat) (listed : Array Bool) (a : Act) (w : World),
      (Region.waitsFor md ops n i = true ∨ ∃ m, Region.waitsFor md ops n m = true ∧ Region.waitsFor md ops m i = true ∧ listed.getD m true = false) →
      (∀ j oj, ops[j]? = some oj → j ≠ i → listed.getD j true = false → (∀ e ∈ oj.after, Region.binds md e = true → e.on ≠ i) → oi.apart ops oj = true) →
      i ∈ Region.ready md ops listed → YieldsIf P ops S oi v a → S w →
      wpAnyM P md ops Q S n fuel (listed.setIfInBounds i true) (a.put oi.dst v) w → wpAnyM P md ops Q S n (fuel + 1) listed a w := by
  intro fuel
  induction fuel with
  | zero =>
    intro listed a w _ _ hr hy hS H
    refine ⟨fun h => (by rw [h] at hr; cases hr), fun j hj => ?_⟩
    by_cases hji : j = i
    · subst hji; exact hy.wpOp hi hS ⟨fun _ => hS, H⟩
    · have := ready_mono hj hji
      rw [H.1] at this
      cases this
  | succ fuel ih =>
    intro listed a w hl hfree hr hy hS H
    refine ⟨fun h => (by rw [h] at hr; cases hr), fun j hj => ?_⟩
    by_cases hji : j = i
    · subst hji; exact hy.wpOp hi hS ⟨fun _ => hS, H⟩
    · have h1 := H.2 j (ready_mono hj hji)
      obtain ⟨hjun, oj, hoj, hall⟩ := mem_ready.1 hj
      have hnot : ∀ e ∈ oj.after, Region.binds md e = true → e.on ≠ i := fun e he hb heq => by
        have h1 := hall e he hb
        have h0 := (mem_ready.1 hr).1
        rw [heq] at h1
        rcases Nat.lt_or_ge i listed.size with h' | h'
        · simp [h'] at h0 h1; rw [h0] at h1; cases h1
        · simp [Array.getElem?_eq_none h'] at h1
      have hjn : j ≠ n := by
        rintro rfl
        exact not_ready hl (mem_ready.1 hr).1 hj
      have h2 := wpOp_putIf hoj (hfree j oj hoj hji hjun hnot) (fun cs b => hsel i oi cs b hi) (fun cs b => hsel j oj cs b hoj) hQ hy h1
      have hfree' : ∀ k ok, ops[k]? = some ok → k ≠ i → (listed.setIfInBounds j true).getD k true = false →
          (∀ e ∈ ok.after, Region.binds md e = true → e.on ≠ i) → oi.apart ops ok = true := fun k ok hk hki hun hno => by
        refine hfree k ok hk hki ?_ hno
        by_cases hjk : j = k
        · subst hjk; exact hjun
        · rw [getD_set_ne true hjk] at hun; exact hun
      have hl' : Region.waitsFor md ops n i = true ∨ ∃ m, Region.waitsFor md ops n m = true ∧ Region.waitsFor md ops m i = true ∧ (listed.setIfInBounds j true).getD m true = false := by
        rcases hl with h | ⟨m, m1, m2, m3⟩
        · exact .inl h
        · refine .inr ⟨m, m1, m2, ?_⟩
          have hjm : j ≠ m := by
            rintro rfl
            exact not_ready (.inl m2) (mem_ready.1 hr).1 hj
          rw [getD_set_ne true hjm]
          exact m3
      refine wpOp_mono (fun a' w' h3 => ⟨fun _ => h3.2.1 hjn, ih (listed.setIfInBounds j true) a' w' hl' hfree' (ready_mono hr (Ne.symm hji)) h3.1 (h3.2.1 hjn) ?_⟩) h2
      rw [Array.setIfInBounds_comm _ _ hji]
      exact h3.2.2
def okN (md : Region.Mode) (ops : Array Oper) (n : Nat) : Tree → Array Bool → Bool
  | .nil, listed => Region.ready md ops listed == []
  | .one i true r, listed => i != n && lastBehind md ops n listed i && Region.free md ops listed i && (Region.ready md ops listed).contains i && okN md ops n r (listed.setIfInBounds i true)
  | .one i false r, listed => (Region.ready md ops listed == [i]) && (i != n || (match r with | .nil => true | _ => false)) && okN md ops n r (listed.setIfInBounds i true)
  | .two _ _ _ _, _ => false
theorem N_of_tree {n : Nat} {l : List Oper} (hs : Region.noSelect l.toArray = true) (hp : ∀ (c : _) (a : Act) (d : Option Tmp) (v : Value) (w : World), Q (.panic c) (a.put d v) w → Q (.panic c) a w) : ∀ (t : Tree) (fuel : Nat) (listed : Array Bool) (a : Act) (w : World),
    t.depth ≤ fuel → okN md l.toArray n t listed = true → (S w ∨ t = .nil) → wpM P l.toArray Q S n (layT l t) a w → wpAnyM P md l.toArray Q S n fuel listed a w := by
  intro t
  induction t with
  | nil =>
    intro fuel listed a w _ ho _ h
    have hr : Region.ready md l.toArray listed = [] := by simpa [okN] using ho
    cases fuel with
    | zero => exact ⟨hr, h⟩
    | succ fuel => exact ⟨fun _ => h, by rw [hr]; simp⟩
  | one i b r ih =>
    intro fuel listed a w hf ho hS h
    replace hS : S w := by rcases hS with hS | hS; exact hS; cases hS
    cases fuel with
    | zero => simp [Tree.depth] at hf
    | succ fuel =>
      have hf' : r.depth ≤ fuel := by simp [Tree.depth] at hf; omega
      cases hi : l[i]? with
      | none => cases b <;> simp [layT, hi, wpM] at h
      | some oi =>
        cases b with
        | true =>
          simp only [layT, hi, wpM] at h
          obtain ⟨v, hy, h⟩ := h
          simp only [okN, Bool.and_eq_true, bne_iff_ne] at ho
          have hi' : l.toArray[i]? = some oi := by simpa using hi
          have hlb : Region.waitsFor md l.toArray n i = true ∨ ∃ m, Region.waitsFor md l.toArray n m = true ∧ Region.waitsFor md l.toArray m i = true ∧ listed.getD m true = false := by
            have := ho.1.1.1.2
            unfold lastBehind at this
            rw [Bool.or_eq_true] at this
            rcases this with h1 | h1
            · exact .inl h1
            · rw [List.any_eq_true] at h1
              obtain ⟨m, _, hm⟩ := h1
              rw [Bool.and_eq_true, Bool.and_eq_true] at hm
              refine .inr ⟨m, hm.1.1, hm.1.2, ?_⟩
              have h3 := hm.2
              cases hx : listed.getD m true
              · rfl
              · rw [hx] at h3; cases h3
          exact first_N ho.1.1.1.1 hi' (Region.noSelect_spec hs) (fun c a w hq => hp c a _ _ w hq) fuel listed a w hlb (Region.free_spec hi' ho.1.1.2) (by simpa using ho.1.2) hy hS (ih fuel _ _ _ hf' ho.2 (.inl hS) h)
        | false =>
          simp only [layT, hi, wpM] at h
          simp only [okN, Bool.and_eq_true, beq_iff_eq] at ho
          refine ⟨fun h0 => (by rw [ho.1.1] at h0; cases h0), fun j hj => ?_⟩
          rw [ho.1.1] at hj
          have : j = i := by simpa using hj
          subst this
          refine wpOp_mono (fun a' w' hh => ⟨hh.1, ih fuel _ _ _ hf' ho.2 ?_ hh.2⟩) h
          by_cases hjn : j = n
          · right
            have h2 := ho.1.2
            simp only [hjn, bne_self_eq_false, Bool.false_or] at h2
            cases r <;> first | rfl | cases h2
          · exact .inl (hh.1 hjn)
  | two i r j s ih1 ih2 => intro fuel listed a w hf ho; cases ho
theorem region_N {id : Nat} {l : List Oper} {a : Act} {w : World} (n : Nat) (t : Tree) (hm : P.follows .mixedOrders = true) (hs : Region.noSelect l.toArray = true)
    (hB : okN .any l.toArray n t (Array.replicate l.toArray.size false) = true) (hd : t.depth ≤ l.toArray.size) (hp : ∀ (c : _) (a : Act) (d : Option Tmp) (v : Value) (w : World), Q (.panic c) (a.put d v) w → Q (.panic c) a w) (hS : S w.drew)
    (h : S w.drew → wpM P l.toArray Q S n (layT l t) a w.drew) : (Code.region id l.toArray true).wp P Q a w :=
  wp_region_any hm (any_of_M _ _ _ _ (N_of_tree hs hp t _ _ _ _ hd hB (.inl hS) (h hS)))
end Ord
end Go.Proofs.YtkkiefcapbddkaaGreatDoor
namespace Go.Proofs.YtkkiefcapbddkaaGreatDoor
open Go.RowKit Mem
namespace Mem
theorem setCells_mid (b : Nat) (t : TypeId) (post : List Value) : ∀ (cs old pre : List Value) (w : World), Blk w b t (pre ++ old ++ post).toArray → old.length = cs.length → Blk (w.setCells b pre.length cs) b t (pre ++ cs ++ post).toArray ∧ Chg b w (w.setCells b pre.length cs)
  | [], old, pre, w, h, hl => by
    cases old with
    | nil => exact ⟨h, rfl, rfl, rfl, rfl, fun _ _ => rfl⟩
    | cons => simp at hl
  | c :: cs, old, pre, w, h, hl => by
    cases old with
    | nil => simp at hl
    | cons o old =>
      have h0 : Blk w b t (pre ++ o :: (old ++ post)).toArray := by simpa using h
      have h1 := h0.put pre.length c
      rw [setIfInBounds_append_left] at h1
      have h2 := setCells_mid b t post cs old (pre ++ [c]) (w.setCell ⟨b, pre.length, none⟩ c) (by simpa using h1) (by simpa using hl)
      have hc := Chg.setCell w ⟨b, pre.length, none⟩ c
      simp only [List.length_append, List.length_cons, List.length_nil, List.append_assoc, List.cons_append, List.nil_append] at h2
      refine ⟨by have h3 := h2.1; simp only [List.append_assoc, List.cons_append] at h3 ⊢; exact h3, h2.2.os.trans hc.os, h2.2.tape.trans hc.tape, h2.2.output.trans hc.output, h2.2.size.trans hc.size, fun g hg => (h2.2.other g hg).trans (hc.other g hg)⟩
variable {P : Program}
theorem wl_load_at {ops : Array Oper} {rest : List Oper} {op : Oper} {a : Act} {w : World} {Q : Exit → Act → World → Prop} (hw : Region.wanted op (yielded ops a.tmps) = true) (ty : TypeId) (x : Operand) (ho : op.op = .load ty x)
    (b o : Nat) (hx : a.eval x = .pointer (some ⟨b, o, none⟩)) (cs : Array Value) (d : TypeDesc) (hc : w.rangeAt b o cs.toList)
    (hu : P.underlying ty = some d) (hd : d.isRow = true) (hi : (P.info? ty).map (·.size) = some cs.size)
    (h : wpList P ops Q rest (a.put op.dst (.agg cs)) w) : wpList P ops Q (op :: rest) a w :=
  BigFrame.wpList_want hw fun _ hK => wp_load_mid ty x ho b o hx cs.toList d hc hu hd (by simpa using hi) (hK _ _ (by simpa using h))
theorem wl_store_at {ops : Array Oper} {rest : List Oper} {op : Oper} {a : Act} {w : World} {Q : Exit → Act → World → Prop} (hw : Region.wanted op (yielded ops a.tmps) = true) (ty : TypeId) (x y : Operand) (ho : op.op = .store ty x y)
    (b o : Nat) (cells : Array Value) (hx : a.eval x = .pointer (some ⟨b, o, none⟩)) (hy : a.eval y = .agg cells)
    (t : TypeId) (pre old post : List Value) (hb : Blk w b t (pre ++ old ++ post).toArray) (hpre : pre.length = o) (hs : old.length = cells.size) (hi : (P.info? ty).map (·.size) = some cells.size) (h1 : cells.all (·.oneCell') = true)
    (h : ∀ w', Blk w' b t (pre ++ cells.toList ++ post).toArray → Chg b w w' → wpList P ops Q rest (a.put op.dst undef) w') : wpList P ops Q (op :: rest) a w := by
  subst hpre
  have hk := setCells_mid b t post cells.toList old pre w hb (by simpa using hs)
  refine BigFrame.wpList_want hw fun _ hK => wp_store_mid ty x y ho b pre.length cells hx hy ?_ hi h1 (hK _ _ (h _ hk.1 hk.2))
  intro j hj
  refine ⟨?_, hb.free _⟩
  rw [hb.cell]
  have hlt : pre.length + j < (pre ++ old ++ post).toArray.size := by simp; omega
  rw [Array.getElem?_eq_getElem hlt]
  rfl
section
variable {α : Type} {sz : Nat} {fl : α → List Value}
theorem flat_split (hfl : ∀ x, (fl x).length = sz) (l : List α) {i : Nat} {x : α} (hi : l[i]? = some x) :
    l.flatMap fl = (l.take i).flatMap fl ++ fl x ++ (l.drop (i + 1)).flatMap fl ∧ ((l.take i).flatMap fl).length = i * sz := by
  have hlt := (List.getElem?_eq_some_iff.1 hi).1
  refine ⟨?_, ?_⟩
  · have h1 : l = l.take i ++ x :: l.drop (i + 1) := by
      have h2 : l[i] = x := (List.getElem?_eq_some_iff.1 hi).2
      rw [← h2]
      simp
    conv => lhs; rw [h1]
    simp [List.flatMap_append, List.flatMap_cons]
  · rw [flat_length hfl, List.length_take]; congr 1; omega
theorem flat_set (l : List α) {i : Nat} (y : α) (hi : i < l.length) : (l.set i y).flatMap fl = (l.take i).flatMap fl ++ fl y ++ (l.drop (i + 1)).flatMap fl := by
  rw [List.set_eq_take_append_cons_drop, if_pos hi]
  simp [List.flatMap_append, List.flatMap_cons]
end
end Mem
end Go.Proofs.YtkkiefcapbddkaaGreatDoor
namespace Go.Proofs.YtkkiefcapbddkaaGreatDoor
open Go.RowKit
namespace Mem
theorem own_new {B : Nat} (w : World) (e : TypeId) (cur : Array Value) (hb : B ≤ w.heap.size) (hm : cur.size ≤ maxLen) : (w.alloc (.cells cur e)).ownsRow B e 1 (.slice (some ⟨w.heap.size, 0, none⟩) cur.size cur.size) cur.size cur.toList :=
  ⟨by simp, .inr ⟨w.heap.size, cur.size, cur, rfl, hb, heap_alloc_new w _, Nat.le_refl _, hm, by simp, by rw [Nat.mul_one, ← Array.length_toList, List.take_length]⟩⟩
theorem own_not {w : World} {B g size n : Nat} {t e : TypeId} {v : Value} {cs : Array Value} {xs : List Value} (h : Blk w g t cs) (ho : w.ownsRow B e size v n xs) (ht : t ≠ e) : some g ≠ v.ownBlock := by
  rcases ho.2 with ⟨rfl, _⟩ | ⟨g', cap, cur, rfl, _, hg, _⟩
  · simp [Value.ownBlock]
  · intro hh
    simp only [Value.ownBlock, Option.some.injEq] at hh
    subst hh
    rw [h] at hg
    simp only [Option.some.injEq, Obj.cells.injEq] at hg
    exact ht hg.2.1
theorem Blk.grown {w w' : World} {B g size n : Nat} {t e : TypeId} {v : Value} {cs : Array Value} {xs : List Value} (h : Blk w g t cs) (ho : w.ownsRow B e size v n xs) (hg : w.grownBy w' v.ownBlock) (ht : t ≠ e) : Blk w' g t cs :=
  (hg.block g h.lt (own_not h ho ht)).trans h
theorem own_belowB {w w' : World} {B size n : Nat} {e : TypeId} {v : Value} {xs : List Value} (ho : w.ownsRow B e size v n xs) (hg : w.grownBy w' v.ownBlock) (hB : B ≤ w.heap.size) : Below B w w' :=
  ⟨hg.os, hg.tape, hg.output, hg.size, fun k hk => hg.block k (by omega) (fun e => by have := (ho.lt k e.symm).1; omega)⟩
theorem own_drew {w : World} {B size n : Nat} {e : TypeId} {v : Value} {xs : List Value} (ho : w.ownsRow B e size v n xs) : w.drew.ownsRow B e size v n xs := ho
theorem own_seg {w : World} {B n : Nat} {e : TypeId} {v : Value} {xs : List Value} (ho : w.ownsRow B e 1 v n xs) : ∃ A c, v = .slice A n c ∧ Seg w w.heap.size A xs := by
  rcases ho.2 with ⟨rfl, rfl⟩ | ⟨g, cap, cur, rfl, _, hg, _⟩
  · have := ho.1
    simp at this
    subst this
    exact ⟨none, 0, rfl, Seg.nil _ _ _⟩
  · refine ⟨_, _, rfl, fun _ => ⟨g, 0, rfl, (Array.getElem?_eq_some_iff.1 hg).1, fun j hj => ?_⟩⟩
    have hx : xs[j]? = some xs[j] := List.getElem?_eq_getElem hj
    rw [hx]
    have := ho.cells (g := g) rfl j _ hx
    rwa [Addr.add_mid] at this
end Mem
end Go.Proofs.YtkkiefcapbddkaaGreatDoor
namespace Go.Proofs.YtkkiefcapbddkaaGreatDoor
open Go.ChangeShapes Go.WideShapes Go.RowKit Go.Joins Go.Deep Mem
namespace Opn
section
variable {H : Type} {enc : TypeId × Value → H} {P : Program} {W : World}
theorem open_recs {t e : TypeId} {fs : Array Field} {v : Value} {d : DataW H} {p : List MemPlace} (ht : P.underlying t = some (.slice e)) (he : P.underlying e = some (.struct fs)) (hone : oneCellFields P fs = true) (hC : P.cellsOf e = fs.size) (hpos : 0 < fs.size)
    (hv : ∃ a len cap, v = .slice a len cap) (h : DataW.Trod enc P W 0 (fun _ => true) true t v d p) (hlt : ∀ x ∈ p, x.block < W.heap.size)
    (hs : ∀ es sp, d = .slice es sp → (es.length + sp.length) * P.bytesOf e ≤ reachBytes) :
    ∃ A rows c, v = .slice A rows.length c ∧ rows.length ≤ c ∧ c * P.bytesOf e ≤ reachBytes ∧ Recs W W.heap.size A fs.size (fun r => r) rows ∧
      ∀ r ∈ rows, r.length = fs.size ∧ ∀ (j : Nat) (f : Field), fs[j]? = some f → ∃ u n y, r[j]? = some u ∧ DataW.trod enc P W 0 (fun _ => true) true n f.type [u] = some y := by
  obtain ⟨a, len, cap, rfl⟩ := hv
  obtain ⟨fuel, hf⟩ := h
  rcases open_slice ht hf with ⟨hcs, _⟩ | ⟨x, n, c, m, q, D, Pl, hcs, _, hl, hm, hmm, hx, hi⟩
  · simp [Value.cells] at hcs
    obtain ⟨rfl, rfl, rfl⟩ := hcs
    exact ⟨none, [], 0, rfl, Nat.le_refl _, by simp, Recs.nil _ _ _ _ _, by simp⟩
  · simp [Value.cells] at hcs
    obtain ⟨rfl, rfl, rfl⟩ := hcs
    simp only [if_true] at hmm
    subst hmm
    simp only [Prod.mk.injEq] at hx
    obtain ⟨rfl, rfl⟩ := hx
    have hr := hs _ _ rfl
    simp only [List.length_map, List.length_range] at hr
    rw [show len + (m - len) = m by omega] at hr
    rw [hC] at hi
    obtain ⟨R, hR⟩ := choose_lt (α := List Value) (p := fun i cs' => W.cells? 0 (x.add (i * fs.size)) fs.size = some cs' ∧ DataW.trod enc P W 0 (fun _ => true) true q e cs' = some (D i, Pl i)) (fun i him => hi i him)
    refine ⟨some x, (List.range len).map R, m, by simp, by simpa using hl, hr, ?_, ?_⟩
    · intro hne
      have hpos2 : 0 < len := by
        rcases Nat.eq_zero_or_pos len with h0 | h0
        · subst h0; simp at hne
        · exact h0
      obtain ⟨b, off, spot⟩ := x
      obtain ⟨_, hc0, hcell0⟩ := World.cells?_some (hR 0 (by omega)).1
      have h0 := hcell0 0 hpos
      rw [List.getElem?_eq_getElem (by omega)] at h0
      have hspot : spot = none := by simpa [Addr.add] using World.cell?_spot h0
      subst hspot
      refine ⟨b, off, rfl, hlt (.cell b off) (List.mem_append_left _ (MemPlace.mem_row.2 ⟨0, by rw [hC]; exact Nat.mul_pos (by omega) hpos, by simp⟩)), ?_⟩
      intro i r hir j u hju
      rw [List.getElem?_map] at hir
      have hil : i < len := by
        rcases Nat.lt_or_ge i len with h1 | h1
        · exact h1
        · rw [List.getElem?_eq_none (by simpa using h1)] at hir; simp at hir
      rw [List.getElem?_range hil] at hir
      obtain rfl : R i = r := by simpa using hir
      obtain ⟨_, hcl, hcell⟩ := World.cells?_some (hR i (by omega)).1
      replace hju : (R i)[j]? = some u := hju
      have hj : j < fs.size := by
        have := (List.getElem?_eq_some_iff.1 hju).1
        omega
      have h2 := hcell j hj
      rw [Addr.add_mid, Addr.add_mid] at h2
      rw [h2, hju]
    · intro r hr2
      rw [List.mem_map] at hr2
      obtain ⟨i, hi1, rfl⟩ := hr2
      rw [List.mem_range] at hi1
      obtain ⟨h1, h2⟩ := hR i (by omega)
      obtain ⟨_, hcl, _⟩ := World.cells?_some h1
      obtain ⟨ys, n', _, hy, _, hyl, hg⟩ := DataW.trod_struct he h2
      refine ⟨hcl, fun j f hj => ?_⟩
      obtain ⟨ho, hk⟩ := hone_of hone j f hj
      have hjl : j < fs.size := (Array.getElem?_eq_some_iff.1 hj).1
      have h3 := hg j f hj
      rw [ho, hk] at h3
      have h4 : ((R i).drop j).take 1 = [(R i)[j]'(by omega)] := by
        rw [List.drop_eq_getElem_cons (by omega)]
        rfl
      rw [h4] at h3
      exact ⟨_, n', _, List.getElem?_eq_getElem (by omega), h3.trans (List.getElem?_eq_getElem (by omega))⟩
theorem recs_of_rows {α : Type} {w : World} {B : Nat} {A : Option Addr} {sz : Nat} {fl : α → List Value} {l : List α} (h : Recs w B A sz (fun r => r) (l.map fl)) : Recs w B A sz fl l := fun hn => by
  obtain ⟨b, off, e, hb, hc⟩ := h (by simpa using hn)
  exact ⟨b, off, e, hb, fun i x hx j v hv => hc i (fl x) (by simp [hx]) j v hv⟩
theorem list_of_rows {α : Type} {fl : α → List Value} {Q : α → Prop} {rows : List (List Value)} (h : ∀ r ∈ rows, ∃ x, r = fl x ∧ Q x) : ∃ l : List α, rows = l.map fl ∧ ∀ x ∈ l, Q x := by
  induction rows with
  | nil => exact ⟨[], rfl, by simp⟩
  | cons r t ih =>
    obtain ⟨x, hx, hq⟩ := h r (by simp)
    obtain ⟨l, hl, hl2⟩ := ih (fun r hr => h r (by simp [hr]))
    exact ⟨x :: l, by simp [hx, hl], by simpa using ⟨hq, hl2⟩⟩
theorem field_i64 {u : TypeId} {v : Value} {n : Nat} {y : DataW H × List MemPlace} (hu : P.underlying u = some (.int .i64)) (h : DataW.trod enc P W 0 (fun _ => true) true n u [v] = some y) : ∃ x, v = .int .i64 x ∧ I64 x := by
  obtain ⟨x, e, _, w0⟩ := DataW.trod_int hu h
  simp only [List.cons.injEq, and_true] at e
  exact ⟨x, e, i64_of_wf w0⟩
theorem field_bool {u : TypeId} {v : Value} {n : Nat} {y : DataW H × List MemPlace} (hu : P.underlying u = some .bool) (h : DataW.trod enc P W 0 (fun _ => true) true n u [v] = some y) : ∃ x, v = .bool x := by
  obtain ⟨x, e, _⟩ := DataW.trod_bool hu h
  simp only [List.cons.injEq, and_true] at e
  exact ⟨x, e⟩
end
end Opn
end Go.Proofs.YtkkiefcapbddkaaGreatDoor
namespace Go.Proofs.YtkkiefcapbddkaaGreatDoor
namespace Ord
variable {P : Program} {ops : Array Oper} {Q : Exit → Act → World → Prop} {md : Region.Mode} {S : World → Prop}
def YieldsCall (P : Program) (ops : Array Oper) (S : World → Prop) (o : Oper) (v : Value) (a : Act) : Prop :=
  Region.wanted o (yielded ops a.tmps) = true ∧ ∃ f args, ∀ w, S w → (execOp a.eval o).run P w = .ok (.enter f args) w ∧ Calls P f args w (fun e w' => e = .returned v ∧ w = w')
def Y (P : Program) (ops : Array Oper) (S : World → Prop) (o : Oper) (v : Value) (a : Act) : Prop := YieldsIf P ops S o v a ∨ YieldsCall P ops S o v a
theorem Y.wpOp {i : Nat} {o : Oper} {v : Value} {a : Act} (hi : ops[i]? = some o) (hy : Y P ops S o v a)
    {K : Act → World → Prop} {w : World} (hS : S w) (h : K (a.put o.dst v) w) : wpOp P ops Q i K a w := by
  rcases hy with hy | ⟨hw, f, args, hc⟩
  · exact hy.wpOp hi hS h
  · unfold Go.wpOp
    simp only [hi]
    obtain ⟨h1, h2⟩ := hc w hS
    simp only [hw, if_true, Oper.wp, h1, Oper.upon]
    refine .inl (h2.mono ?_)
    rintro e w' ⟨rfl, rfl⟩
    exact h
theorem Y.of_same {o : Oper} {v : Value} {a a' : Act} (hy : Y P ops S o v a) (he : execOp a'.eval o = execOp a.eval o)
    (hw : Region.wanted o (yielded ops a'.tmps) = Region.wanted o (yielded ops a.tmps)) : Y P ops S o v a' := by
  rcases hy with hy | hy
  · exact .inl (hy.of_same he hw)
  · right
    unfold YieldsCall at *
    rw [he, hw]
    exact hy
theorem wpOp_putY {j : Nat} {oi oj : Oper} {v : Value} (hj : ops[j]? = some oj) (hap : oi.apart ops oj = true)
    (hsi : ∀ cs b, oi.op ≠ .select cs b) (hsj : ∀ cs b, oj.op ≠ .select cs b)
    (hQ : ∀ c a w, Q (.panic c) (a.put oi.dst v) w → Q (.panic c) a w) {K : Act → World → Prop} {a : Act} {w : World}
    (hy : Y P ops S oi v a) (h : wpOp P ops Q j K (a.put oi.dst v) w) :
    wpOp P ops Q j (fun a' w' => Y P ops S oi v a' ∧ K (a'.put oi.dst v) w') a w := by
  obtain ⟨h1, h2, h3⟩ := Oper.apart_spec hap
  have keep : ∀ (a : Act), Y P ops S oi v a → ∀ u, Y P ops S oi v (a.put oj.dst u) := fun a hy u =>
    hy.of_same (execOp_put oi hsi a oj.dst u h3) (wanted_put oi a oj.dst u h3)
  have keepD : ∀ d, Y P ops S oi v { a with defers := d :: a.defers } := fun d => hy.of_same rfl rfl
  unfold wpOp at *
  simp only [hj] at *
  rw [wanted_put oj a oi.dst v h1] at h
  split
  · rename_i hw
    simp only [hw, if_true] at h
    rcases h with h | ⟨hasks, hlets⟩
    case inr => exact .inr ⟨by unfold Oper.asks at *; rw [execOp_put oj hsj a oi.dst v h1] at hasks; exact hasks, hlets⟩
    refine .inl ?_
    unfold Oper.wp at *
    rw [execOp_put oj hsj a oi.dst v h1] at h
    generalize (execOp a.eval oj).run P w = r at *
    cases r with
    | ok n w' =>
      cases n <;> simp only [Oper.upon] at h ⊢
      case value u => exact ⟨keep a hy u, by rw [← Act.put_comm a v u h2]; exact h⟩
      case skip => exact ⟨keep a hy _, by rw [← Act.put_comm a v undef h2]; exact h⟩
      case defer d =>
        refine ⟨keep _ (keepD d) _, ?_⟩
        rw [← Act.put_comm _ v undef h2, ← Act.put_defers]
        exact h
      case enter f args =>
        refine Calls.mono h fun e w'' he => ?_
        cases e with
        | returned u => exact ⟨keep a hy u, by rw [← Act.put_comm a v u h2]; exact he⟩
        | panicked c => exact hQ _ _ _ he
        | outgrown => exact he
      case row row args => exact Rows.mono h fun u w'' he => ⟨keep a hy u, by rw [← Act.put_comm a v u h2]; exact he⟩
    | halt x w' =>
      cases x <;> simp only [Oper.upon] at h ⊢
      case panic u => exact hQ _ _ _ h
  · rename_i hw
    simp only [hw] at h
    exact ⟨keep a hy _, by rw [← Act.put_comm a v undef h2]; exact h⟩
def Behind (md : Region.Mode) (ops : Array Oper) (n i : Nat) (listed : Array Bool) : Prop :=
  ops[n]? = none ∨ Region.waitsFor md ops n i = true ∨ ∃ m, Region.waitsFor md ops n m = true ∧ Region.waitsFor md ops m i = true ∧ listed.getD m true = false
theorem behind_not {n i : Nat} {listed : Array Bool} (hl : Behind md ops n i listed) (hi : listed.getD i true = false) : n ∉ Region.ready md ops listed := by
  rcases hl with h | h
  · intro hn
    obtain ⟨_, o, ho, _⟩ := mem_ready.1 hn
    rw [h] at ho
    cases ho
  · exact not_ready h hi
theorem first_Q {n i : Nat} {oi : Oper} {v : Value} (hin : i ≠ n) (hi : ops[i]? = some oi) (hsel : ∀ (j : Nat) (o : Oper) cs b, ops[j]? = some o → o.op ≠ .select cs b)
    (hQ : ∀ c a w, Q (.panic c) (a.put oi.dst v) w → Q (.panic c) a w) :
    ∀ (fuel : Nat) (listed : Array Bool) (a : Act) (w : World),
      Behind md ops n i listed →
      (∀ j oj, ops[j]? = some oj → j ≠ i → listed.getD j true = false → (∀ e ∈ oj.after, Region.binds md e = true → e.on ≠ i) → oi.apart ops oj = true) →
      i ∈ Region.ready md ops listed → Y P ops S oi v a → S w →
      wpAnyM P md ops Q S n fuel (listed.setIfInBounds i true) (a.put oi.dst v) w → wpAnyM P md ops Q S n (fuel + 1) listed a w := by
  intro fuel
  induction fuel with
  | zero =>
    intro listed a w _ _ hr hy hS H
    refine ⟨fun h => (by rw [h] at hr; cases hr), fun j hj => ?_⟩
    by_cases hji : j = i
    · subst hji; exact hy.wpOp hi hS ⟨fun _ => hS, H⟩
    · have := ready_mono hj hji
      rw [H.1] at this
      cases this
  | succ fuel ih =>
    intro listed a w hl hfree hr hy hS H
    refine ⟨fun h => (by rw [h] at hr; cases hr), fun j hj => ?_⟩
    by_cases hji : j = i
    · subst hji; exact hy.wpOp hi hS ⟨fun _ => hS, H⟩
    · have h1 := H.2 j (ready_mono hj hji)
      obtain ⟨hjun, oj, hoj, hall⟩ := mem_ready.1 hj
      have hnot : ∀ e ∈ oj.after, Region.binds md e = true → e.on ≠ i := fun e he hb heq => by
        have h1 := hall e he hb
        have h0 := (mem_ready.1 hr).1
        rw [heq] at h1
        rcases Nat.lt_or_ge i listed.size with h' | h'
        · simp [h'] at h0 h1; rw [h0] at h1; cases h1
        · simp [Array.getElem?_eq_none h'] at h1
      have hjn : j ≠ n := by
        rintro rfl
        exact behind_not hl (mem_ready.1 hr).1 hj
      have h2 := wpOp_putY hoj (hfree j oj hoj hji hjun hnot) (fun cs b => hsel i oi cs b hi) (fun cs b => hsel j oj cs b hoj) hQ hy h1
      have hfree' : ∀ k ok, ops[k]? = some ok → k ≠ i → (listed.setIfInBounds j true).getD k true = false →
          (∀ e ∈ ok.after, Region.binds md e = true → e.on ≠ i) → oi.apart ops ok = true := fun k ok hk hki hun hno => by
        refine hfree k ok hk hki ?_ hno
        by_cases hjk : j = k
        · subst hjk; exact hjun
        · rw [getD_set_ne true hjk] at hun; exact hun
      have hl' : Behind md ops n i (listed.setIfInBounds j true) := by
        rcases hl with h | h | ⟨m, m1, m2, m3⟩
        · exact .inl h
        · exact .inr (.inl h)
        · refine .inr (.inr ⟨m, m1, m2, ?_⟩)
          have hjm : j ≠ m := by
            rintro rfl
            exact not_ready (.inl m2) (mem_ready.1 hr).1 hj
          rw [getD_set_ne true hjm]
          exact m3
      refine wpOp_mono (fun a' w' h3 => ⟨fun _ => h3.2.1 hjn, ih (listed.setIfInBounds j true) a' w' hl' hfree' (ready_mono hr (Ne.symm hji)) h3.1 (h3.2.1 hjn) ?_⟩) h2
      rw [Array.setIfInBounds_comm _ _ hji]
      exact h3.2.2
def wpQ (P : Program) (ops : Array Oper) (Q : Exit → Act → World → Prop) (S : World → Prop) (n : Nat) : Lay → Act → World → Prop
  | .nil, a, w => Q .normal a w
  | .one _ (some oi) true r, a, w => ∃ v, Y P ops S oi v a ∧ wpQ P ops Q S n r (a.put oi.dst v) w
  | .one i (some _) false r, a, w => wpOp P ops Q i (fun a' w' => (i ≠ n → S w') ∧ wpQ P ops Q S n r a' w') a w
  | .two i (some _) r j (some _) s, a, w => wpOp P ops Q i (fun a' w' => (i ≠ n → S w') ∧ wpQ P ops Q S n r a' w') a w ∧ wpOp P ops Q j (fun a' w' => (j ≠ n → S w') ∧ wpQ P ops Q S n s a' w') a w
  | _, _, _ => False
def okQ (md : Region.Mode) (ops : Array Oper) (n : Nat) : Tree → Array Bool → Bool
  | .nil, listed => Region.ready md ops listed == []
  | .one i true r, listed => i != n && (ops.size ≤ n || lastBehind md ops n listed i) && Region.free md ops listed i && (Region.ready md ops listed).contains i && okQ md ops n r (listed.setIfInBounds i true)
  | .one i false r, listed => (Region.ready md ops listed == [i]) && (i != n || (match r with | .nil => true | _ => false)) && okQ md ops n r (listed.setIfInBounds i true)
  | .two i r j s, listed => i != n && j != n && (Region.ready md ops listed == [i, j]) && okQ md ops n r (listed.setIfInBounds i true) && okQ md ops n s (listed.setIfInBounds j true)
theorem Q_of_tree {n : Nat} {l : List Oper} (hs : Region.noSelect l.toArray = true) (hp : ∀ (c : _) (a : Act) (d : Option Tmp) (v : Value) (w : World), Q (.panic c) (a.put d v) w → Q (.panic c) a w) : ∀ (t : Tree) (fuel : Nat) (listed : Array Bool) (a : Act) (w : World),
    t.depth ≤ fuel → okQ md l.toArray n t listed = true → (S w ∨ t = .nil) → wpQ P l.toArray Q S n (layT l t) a w → wpAnyM P md l.toArray Q S n fuel listed a w := by
  intro t
  induction t with
  | nil =>
    intro fuel listed a w _ ho _ h
    have hr : Region.ready md l.toArray listed = [] := by simpa [okQ] using ho
    cases fuel with
    | zero => exact ⟨hr, h⟩
    | succ fuel => exact ⟨fun _ => h, by rw [hr]; simp⟩
  | one i b r ih =>
    intro fuel listed a w hf ho hS h
    replace hS : S w := by rcases hS with hS | hS; exact hS; cases hS
    cases fuel with
    | zero => simp [Tree.depth] at hf
    | succ fuel =>
      have hf' : r.depth ≤ fuel := by simp [Tree.depth] at hf; omega
      cases hi : l[i]? with
      | none => cases b <;> simp [layT, hi, wpQ] at h
      | some oi =>
        cases b with
        | true =>
          simp only [layT, hi, wpQ] at h
          obtain ⟨v, hy, h⟩ := h
          simp only [okQ, Bool.and_eq_true, bne_iff_ne] at ho
          have hi' : l.toArray[i]? = some oi := by simpa using hi
          have hlb : Behind md l.toArray n i listed := by
            have := ho.1.1.1.2
            rw [Bool.or_eq_true] at this
            rcases this with h1 | h1
            · exact .inl (Array.getElem?_eq_none (by simpa using h1))
            · unfold lastBehind at h1
              rw [Bool.or_eq_true] at h1
              rcases h1 with h1 | h1
              · exact .inr (.inl h1)
              · rw [List.any_eq_true] at h1
                obtain ⟨m, _, hm⟩ := h1
                rw [Bool.and_eq_true, Bool.and_eq_true] at hm
                refine .inr (.inr ⟨m, hm.1.1, hm.1.2, ?_⟩)
                have h3 := hm.2
                cases hx : listed.getD m true
                · rfl
                · rw [hx] at h3; cases h3
          exact first_Q ho.1.1.1.1 hi' (Region.noSelect_spec hs) (fun c a w hq => hp c a _ _ w hq) fuel listed a w hlb (Region.free_spec hi' ho.1.1.2) (by simpa using ho.1.2) hy hS (ih fuel _ _ _ hf' ho.2 (.inl hS) h)
        | false =>
          simp only [layT, hi, wpQ] at h
          simp only [okQ, Bool.and_eq_true, beq_iff_eq] at ho
          refine ⟨fun h0 => (by rw [ho.1.1] at h0; cases h0), fun j hj => ?_⟩
          rw [ho.1.1] at hj
          have : j = i := by simpa using hj
          subst this
          refine wpOp_mono (fun a' w' hh => ⟨hh.1, ih fuel _ _ _ hf' ho.2 ?_ hh.2⟩) h
          by_cases hjn : j = n
          · right
            have h2 := ho.1.2
            simp only [hjn, bne_self_eq_false, Bool.false_or] at h2
            cases r <;> first | rfl | cases h2
          · exact .inl (hh.1 hjn)
  | two i r j s ih1 ih2 =>
    intro fuel listed a w hf ho hS h
    cases fuel with
    | zero => simp [Tree.depth] at hf
    | succ fuel =>
      have hf1 : r.depth ≤ fuel := by simp [Tree.depth] at hf; omega
      have hf2 : s.depth ≤ fuel := by simp [Tree.depth] at hf; omega
      cases hi : l[i]? with
      | none => cases hj : l[j]? <;> simp [layT, hi, hj, wpQ] at h
      | some oi =>
        cases hj : l[j]? with
        | none => simp [layT, hi, hj, wpQ] at h
        | some oj =>
          simp only [layT, hi, hj, wpQ] at h
          simp only [okQ, Bool.and_eq_true, beq_iff_eq, bne_iff_ne] at ho
          obtain ⟨⟨⟨⟨n1, n2⟩, hr⟩, o1⟩, o2⟩ := ho
          refine ⟨fun h0 => (by rw [hr] at h0; cases h0), fun k hk => ?_⟩
          rw [hr] at hk
          have hk' : k = i ∨ k = j := by simpa using hk
          rcases hk' with rfl | rfl
          · exact wpOp_mono (fun a' w' hh => ⟨hh.1, ih1 fuel _ _ _ hf1 o1 (.inl (hh.1 n1)) hh.2⟩) h.1
          · exact wpOp_mono (fun a' w' hh => ⟨hh.1, ih2 fuel _ _ _ hf2 o2 (.inl (hh.1 n2)) hh.2⟩) h.2
theorem region_Q {id : Nat} {l : List Oper} {a : Act} {w : World} (n : Nat) (t : Tree) (hm : P.follows .mixedOrders = true) (hs : Region.noSelect l.toArray = true)
    (hB : okQ .any l.toArray n t (Array.replicate l.toArray.size false) = true) (hd : t.depth ≤ l.toArray.size) (hp : ∀ (c : _) (a : Act) (d : Option Tmp) (v : Value) (w : World), Q (.panic c) (a.put d v) w → Q (.panic c) a w) (hS : S w.drew)
    (h : S w.drew → wpQ P l.toArray Q S n (layT l t) a w.drew) : (Code.region id l.toArray true).wp P Q a w :=
  wp_region_any hm (any_of_M _ _ _ _ (Q_of_tree hs hp t _ _ _ _ hd hB (.inl hS) (h hS)))
theorem takeQ {n i : Nat} {r : Lay} {a : Act} {w : World} {oi : Oper} {v : Value} (hy : YieldsIf P ops S oi v a) (h : wpQ P ops Q S n r (a.put oi.dst v) w) : wpQ P ops Q S n (.one i (some oi) true r) a w := ⟨v, .inl hy, h⟩
theorem takeC {n i : Nat} {r : Lay} {a : Act} {w : World} {oi : Oper} {v : Value} (f : FuncId) (args : Array Value) (hw : Region.wanted oi (yielded ops a.tmps) = true) (he : ∀ w, S w → (execOp a.eval oi).run P w = .ok (.enter f args) w)
    (hc : ∀ w, S w → Calls P f args w (fun e w' => e = .returned v ∧ w = w')) (h : wpQ P ops Q S n r (a.put oi.dst v) w) : wpQ P ops Q S n (.one i (some oi) true r) a w :=
  ⟨v, .inr ⟨hw, f, args, fun w hS => ⟨he w hS, hc w hS⟩⟩, h⟩
theorem aloneQ {n i : Nat} {r : Lay} {a : Act} {w : World} {o : Oper} (ho : ops[i]? = some o) (hw : Region.wanted o (yielded ops a.tmps) = true)
    (h : ∀ K' : Act → World → Prop, Shut (∀ a w, S w → (S w → wpQ P ops Q S n r a w) → K' a w) → Oper.wp P o a w K' Q) :
    wpQ P ops Q S n (.one i (some o) false r) a w :=
  wpOp_step ho (fun K' hK => by rw [if_pos hw]; exact h K' (fun a w hS hW => hK a w ⟨fun _ => hS, hW hS⟩))
theorem twoQ {n i j : Nat} {r s : Lay} {a : Act} {w : World} {o p : Oper} (ho : ops[i]? = some o) (hw : Region.wanted o (yielded ops a.tmps) = true) (ho' : ops[j]? = some p) (hw' : Region.wanted p (yielded ops a.tmps) = true)
    (h : ∀ K' : Act → World → Prop, Shut (∀ a w, S w → (S w → wpQ P ops Q S n r a w) → K' a w) → Oper.wp P o a w K' Q)
    (h' : ∀ K' : Act → World → Prop, Shut (∀ a w, S w → (S w → wpQ P ops Q S n s a w) → K' a w) → Oper.wp P p a w K' Q) :
    wpQ P ops Q S n (.two i (some o) r j (some p) s) a w :=
  ⟨wpOp_step ho (fun K' hK => by rw [if_pos hw]; exact h K' (fun a w hS hW => hK a w ⟨fun _ => hS, hW hS⟩)), wpOp_step ho' (fun K' hK => by rw [if_pos hw']; exact h' K' (fun a w hS hW => hK a w ⟨fun _ => hS, hW hS⟩))⟩
theorem lastQ {n : Nat} {r : Lay} {a : Act} {w : World} {o : Oper} (ho : ops[n]? = some o) (hw : Region.wanted o (yielded ops a.tmps) = true)
    (h : ∀ K' : Act → World → Prop, Shut (∀ a w, wpQ P ops Q S n r a w → K' a w) → Oper.wp P o a w K' Q) :
    wpQ P ops Q S n (.one n (some o) false r) a w :=
  wpOp_step ho (fun K' hK => by rw [if_pos hw]; exact h K' (fun a w hW => hK a w ⟨fun hne => absurd rfl hne, hW⟩))
theorem doneQ {n : Nat} {a : Act} {w : World} (h : Q .normal a w) : wpQ P ops Q S n .nil a w := h
end Ord
end Go.Proofs.YtkkiefcapbddkaaGreatDoor
namespace Go.Proofs.YtkkiefcapbddkaaGreatDoor
namespace Num
def zadd (a b : List Int) : List Int := List.zipWith add a b
theorem share_length (t : Int) (l : List Int) : (share t l).length = l.length := by
  have hg : ∀ j x r, (give j x r).length = x.length := by
    intro j
    induction j with
    | zero => intro x r; rfl
    | succ j ih => intro x r; rw [give, ih, List.length_set]
  unfold share
  split
  · simp
  · rw [hg, upto_length]
theorem psum_mono {x : List Int} (h : ∀ i, 0 ≤ x.getD i 0) {j k : Nat} (hk : j ≤ k) : psum x j ≤ psum x k := by
  induction k with
  | zero => obtain rfl : j = 0 := by omega
            exact Int.le_refl _
  | succ k ih =>
    rcases Nat.lt_or_ge j (k + 1) with h1 | h1
    · have := ih (by omega)
      have := h k
      simp only [psum]
      omega
    · obtain rfl : j = k + 1 := by omega
      exact Int.le_refl _
theorem psum_lo {x : List Int} (h : ∀ i, 0 ≤ x.getD i 0) (k : Nat) : 0 ≤ psum x k := by
  have := psum_mono h (Nat.zero_le k)
  simpa [psum] using this
theorem psum_one {x : List Int} (h : ∀ i, 0 ≤ x.getD i 0) {i k : Nat} (hk : i < k) : x.getD i 0 ≤ psum x k := by
  have h1 := psum_mono h (j := i + 1) (k := k) (by omega)
  have h2 := psum_lo h i
  simp only [psum] at h1
  omega
theorem getD_out {x : List Int} {i : Nat} (h : x.length ≤ i) : x.getD i 0 = 0 := by
  rw [List.getD_eq_getElem?_getD, List.getElem?_eq_none h]
  rfl
theorem share_lo (t : Int) (l : List Int) (hl : l.length ≤ 1048576) (i : Nat) : 0 ≤ (share t l).getD i 0 := by
  rcases Nat.lt_or_ge i l.length with h | h
  · exact (share_bnd t l hl h).1
  · rw [getD_out (by rw [share_length]; exact h)]
    exact Int.le_refl _
theorem share_psum (t : Int) (l : List Int) : psum (share t l) l.length = if wsum l l.length = 0 then 0 else tot t := by
  split
  · rename_i h
    unfold share
    rw [if_pos h]
    exact psum_none _ _
  · rename_i h
    exact share_sum t l h
theorem share_tot (t : Int) (l : List Int) (hl : l.length ≤ 1048576) (i : Nat) : (share t l).getD i 0 ≤ tot t := by
  rcases Nat.lt_or_ge i l.length with h | h
  · have h1 := psum_one (share_lo t l hl) h
    rw [share_psum] at h1
    have := tot_lo t
    split at h1 <;> omega
  · rw [getD_out (by rw [share_length]; exact h)]
    exact tot_lo t
theorem sums_psum {x : List Int} {m : Int} (h : ∀ i, 0 ≤ x.getD i 0 ∧ x.getD i 0 ≤ m) {k : Nat} (hk : m * k ≤ 70368744177664) : sums x k = psum x k ∧ psum x k ≤ m * k := by
  have hm : 0 ≤ m := Int.le_trans (h 0).1 (h 0).2
  induction k with
  | zero => simp [sums, psum]
  | succ k ih =>
    have e : m * ((k + 1 : Nat) : Int) = m * k + m := by rw [Int.natCast_add, Int.mul_add]; simp
    rw [e] at hk
    obtain ⟨h1, h2⟩ := ih (by omega)
    have h3 := h k
    have h4 := psum_lo (fun i => (h i).1) k
    simp only [sums, psum]
    rw [h1, e]
    refine ⟨?_, by omega⟩
    unfold add sat
    omega
theorem zadd_length {a b : List Int} (h : a.length = b.length) : (zadd a b).length = a.length := by simp [zadd, h]
theorem zadd_get {a b : List Int} (h : a.length = b.length) {i : Nat} (hi : i < a.length) : (zadd a b).getD i 0 = add (a.getD i 0) (b.getD i 0) := by
  simp [zadd, List.getD_eq_getElem?_getD, List.getElem?_zipWith, hi, show i < b.length by omega]
theorem psum_zadd {a b : List Int} {m : Int} (h : a.length = b.length) (hm : m + m ≤ 70368744177664) (ha : ∀ i, 0 ≤ a.getD i 0 ∧ a.getD i 0 ≤ m) (hb : ∀ i, 0 ≤ b.getD i 0 ∧ b.getD i 0 ≤ m) {k : Nat} (hk : k ≤ a.length) : psum (zadd a b) k = psum a k + psum b k := by
  induction k with
  | zero => simp [psum]
  | succ k ih =>
    have := ih (by omega)
    have := ha k
    have := hb k
    simp only [psum]
    rw [zadd_get h (by omega), ih (by omega)]
    have : add (a.getD k 0) (b.getD k 0) = a.getD k 0 + b.getD k 0 := by unfold add sat; omega
    omega
def mix (a b : List Int) (k : Nat) : List Int := b.take k ++ a.drop k
theorem mix_zero (a b : List Int) : mix a b 0 = a := by simp [mix]
theorem mix_all {a b : List Int} (h : a.length = b.length) : mix a b a.length = b := by simp [mix, h]
theorem mix_length {a b : List Int} (h : a.length = b.length) (k : Nat) : (mix a b k).length = a.length := by simp [mix]; omega
theorem mix_get {a b : List Int} (h : a.length = b.length) {i k : Nat} (hk : k ≤ i) (hi : i < a.length) : (mix a b k).getD i 0 = a.getD i 0 := by
  simp only [mix, List.getD_eq_getElem?_getD]
  rw [List.getElem?_append_right (by simp; omega), List.getElem?_drop, List.length_take, show k + (i - min k b.length) = i by omega]
theorem mix_set {a b : List Int} (h : a.length = b.length) {k : Nat} (hk : k < a.length) : (mix a b k).set k (b.getD k 0) = mix a b (k + 1) := by
  apply List.ext_getElem
  · rw [List.length_set, mix_length h, mix_length h]
  · intro i h1 h2
    rw [mix_length h] at h2
    simp only [mix, List.getElem_set, List.getElem_append, List.length_take]
    by_cases e : k = i
    · subst e
      have : k < min (k + 1) b.length := by omega
      simp [this, List.getD_eq_getElem?_getD, show k < b.length by omega]
    · rw [if_neg e]
      by_cases e2 : i < k
      · rw [dif_pos (by omega), dif_pos (by omega)]
        simp
      · rw [dif_neg (by omega), dif_neg (by omega)]
        simp only [List.getElem_drop]
        congr 1
        omega
theorem share_near (t : Int) (l : List Int) (h : wsum l l.length ≠ 0) {i : Nat} (hi : i < l.length) : quo t l i ≤ (share t l).getD i 0 ∧ (share t l).getD i 0 ≤ quo t l i + 1 := by
  obtain ⟨j, _, hj, hj2, e⟩ := share_give t l h
  obtain ⟨r', hq, _⟩ := give_ind (fun j x r => x.length = l.length ∧ r.length = l.length ∧ quo t l i ≤ x.getD i 0 ∧ x.getD i 0 ≤ quo t l i + 1 ∧ (0 ≤ r.getD i 0 → x.getD i 0 = quo t l i))
    (fun j x r q hl _ ⟨h1, h2, h3, h4, h5⟩ hq hq0 _ => by
      refine ⟨by simpa using h1, by simpa using h2, ?_⟩
      rw [getD_set, getD_set]
      by_cases e : q = i
      · subst e
        rw [if_pos ⟨rfl, by omega⟩, if_pos ⟨rfl, by omega⟩]
        have := h5 hq0
        omega
      · rw [if_neg (fun hc => e hc.1), if_neg (fun hc => e hc.1)]
        exact ⟨h3, h4, h5⟩)
    j (upto (quo t l) l.length l.length) (upto (rem t l) l.length l.length) (by rw [upto_length, upto_length]) (by rw [cnt_r t l h]; exact hj)
    ⟨upto_length _ _ _, upto_length _ _ _, by rw [upto_get _ hi]; omega, by rw [upto_get _ hi]; omega, fun _ => upto_get _ hi⟩
  rw [e]
  exact ⟨hq.2.2.1, hq.2.2.2.1⟩
theorem share_even (t : Int) (l : List Int) {i j : Nat} (hi : i < l.length) (hj : j < l.length) (he : l.getD i 0 = l.getD j 0) : (share t l).getD i 0 ≤ (share t l).getD j 0 + 1 := by
  by_cases h : wsum l l.length = 0
  · unfold share
    rw [if_pos h]
    simp [List.getD_eq_getElem?_getD, hi, hj]
  · have h1 := share_near t l h hi
    have h2 := share_near t l h hj
    have : quo t l i = quo t l j := by unfold quo; rw [he]
    omega
end Num
end Go.Proofs.YtkkiefcapbddkaaGreatDoor
namespace Go.Proofs.YtkkiefcapbddkaaGreatDoor
open Go.RowKit Num Mem Opn
namespace Num
def few (n : Int) : Int := if n < 0 then -((-(n + 1)) % 16777216) else n % 16777216
theorem few_lo (n : Int) : -16777215 ≤ few n := by unfold few; split <;> omega
theorem few_hi (n : Int) : few n ≤ 16777215 := by unfold few; split <;> omega
structure It where
  base : Int
  outer : Int
  grow : Int
  shrink : Int
def It.cells (x : It) : List Value := [.int .i64 x.base, .int .i64 x.outer, .int .i64 x.grow, .int .i64 x.shrink]
def it (x : It) : It := ⟨few x.base, few x.outer, x.grow, x.shrink⟩
end Num
theorem it_length (x : It) : x.cells.length = 4 := rfl
def it4 (a b c d : Int) : Array Value := #[.int .i64 a, .int .i64 b, .int .i64 c, .int .i64 d]
theorem info_item : (Tryz.prog.info? 333).map (fun i => (i.zero, i.size, i.bytes)) = some (some (.agg #[.int .i64 0, .int .i64 0, .int .i64 0, .int .i64 0]), 4, 32) := by kernel_rfl
theorem info_it4 (a b c d : Int) : (Tryz.prog.info? 333).map (·.size) = some (it4 a b c d).size := by kernel_rfl
theorem it_one (a b c d : Int) : (it4 a b c d).all (·.oneCell') = true := by simp [it4, Value.oneCell']
theorem news_at {w : World} {g : Nat} {t : TypeId} {cs : Array Value} {news : List Value} (hb : Blk w g t cs) (hn : cs.toList = news) : ∀ j u, news[j]? = some u → w.cell? ((⟨g, 0, none⟩ : Addr).add j) = some u := by
  intro j u hu
  rw [Addr.add_mid, hb.cell, Nat.zero_add, ← Array.getElem?_toList, hn, hu]
theorem items_at {w : World} {B b off : Nat} {l : List It} (h : Recs w B (some ⟨b, off, none⟩) 4 It.cells l) {k : Nat} {x : It} (hx : l[k]? = some x) :
    w.cell? ⟨b, off + k * 4, none⟩ = some (.int .i64 x.base) ∧ w.cell? ⟨b, off + k * 4 + 1, none⟩ = some (.int .i64 x.outer) ∧ w.cell? ⟨b, off + k * 4 + 2, none⟩ = some (.int .i64 x.grow) ∧ w.cell? ⟨b, off + k * 4 + 3, none⟩ = some (.int .i64 x.shrink) := by
  obtain ⟨b', off', e, _, hc⟩ := h (by rintro rfl; simp at hx)
  injection e with e
  injection e with e1 e2 e3
  subst e1 e2
  exact ⟨hc k x hx 0 _ rfl, hc k x hx 1 _ rfl, hc k x hx 2 _ rfl, hc k x hx 3 _ rfl⟩
theorem wp_store_row {P : Program} {op : Oper} {a : Act} {w : World} {K : Act → World → Prop} {Q : Exit → Act → World → Prop} (ty : TypeId) (x y : Operand) (ho : op.op = .store ty x y)
    (b : Nat) (cells : Array Value) (hx : a.eval x = .pointer (some ⟨b, 0, none⟩)) (hy : a.eval y = .agg cells)
    (t : TypeId) (old : Array Value) (hb : Blk w b t old) (hs : old.size = cells.size) (hi : (P.info? ty).map (·.size) = some cells.size) (h1 : cells.all (·.oneCell') = true)
    (h : ∀ w', Blk w' b t cells → Chg b w w' → K (a.put op.dst undef) w') : op.wp P a w K Q := by
  have hk := setCells_blk b t cells.toList old.toList [] w (by simpa using hb) (by simpa using hs)
  refine wp_store_mid ty x y ho b 0 cells hx hy ?_ hi h1 (h _ (by simpa using hk.1) (by simpa using hk.2))
  intro j hj
  rw [Nat.zero_add, hb.cell]
  exact ⟨by rw [Array.getElem?_eq_getElem (by omega)]; rfl, hb.free j⟩
theorem take_snoc' {α : Type} {l : List α} {k : Nat} {x : α} (h : l[k]? = some x) : l.take (k + 1) = l.take k ++ [x] := by
  have hlt := (List.getElem?_eq_some_iff.1 h).1
  have h2 : l[k] = x := (List.getElem?_eq_some_iff.1 h).2
  rw [List.take_succ_eq_append_getElem hlt, h2]
end Go.Proofs.YtkkiefcapbddkaaGreatDoor
namespace Go.Proofs.YtkkiefcapbddkaaGreatDoor
namespace Num
def it0 : It := ⟨0, 0, 0, 0⟩
def base0 (x : It) : Int := max (sat x.base) 0
def ob (l : List It) (i : Nat) : Int := base0 (l.getD i it0)
def og (l : List It) (i : Nat) : Int := (l.getD i it0).grow
def outs (l : List It) : List Int := upto (ob l) l.length l.length
def grws (l : List It) : List Int := upto (og l) l.length l.length
def frees (room : Int) (l : List It) : Nat → Int
  | 0 => room
  | k + 1 => sub (sub (frees room l k) (ob l k)) (l.getD k it0).outer
def wf (fz : List Bool) (l : List It) (i : Nat) : Int := if fz.getD i false then 0 else (l.getD i it0).shrink
def wts (fz : List Bool) (l : List It) : List Int := upto (wf fz l) l.length l.length
def anyS (fz : List Bool) (l : List It) : Nat → Bool
  | 0 => false
  | k + 1 => anyS fz l k || decide (0 < wf fz l k)
structure St where
  out : List Int
  fz : List Bool
  owed : Int
  over : Bool
def pas (parts : List Int) (s : St) : Nat → St
  | 0 => ⟨s.out, s.fz, s.owed, false⟩
  | k + 1 => if (pas parts s k).fz.getD k false = false ∧ (pas parts s k).out.getD k 0 < parts.getD k 0 then
      ⟨(pas parts s k).out.set k 0, (pas parts s k).fz.set k true, (pas parts s k).owed - (pas parts s k).out.getD k 0, true⟩
    else pas parts s k
def subs (parts : List Int) (fz : List Bool) (out : List Int) : Nat → List Int
  | 0 => out
  | k + 1 => if fz.getD k false then subs parts fz out k else (subs parts fz out k).set k ((subs parts fz out k).getD k 0 - parts.getD k 0)
def shr : Nat → List It → List Int → List Bool → Int → List Int
  | 0, _, out, _, _ => out
  | n + 1, l, out, fz, owed =>
    if owed ≤ 0 then out
    else if anyS fz l l.length = false then out
    else if (pas (share owed (wts fz l)) ⟨out, fz, owed, false⟩ l.length).over then
      shr n l (pas (share owed (wts fz l)) ⟨out, fz, owed, false⟩ l.length).out (pas (share owed (wts fz l)) ⟨out, fz, owed, false⟩ l.length).fz (pas (share owed (wts fz l)) ⟨out, fz, owed, false⟩ l.length).owed
    else subs (share owed (wts fz l)) fz (pas (share owed (wts fz l)) ⟨out, fz, owed, false⟩ l.length).out l.length
def loose : List Bool → Nat
  | [] => 0
  | f :: r => (if f then 0 else 1) + loose r
def sizes (room : Int) (l : List It) : List Int :=
  if 0 < frees room l l.length then zadd (outs l) (share (frees room l l.length) (grws l))
  else if frees room l l.length < 0 then shr (l.length + 1) l (outs l) (List.replicate l.length false) (-frees room l l.length)
  else outs l
theorem outs_length (l : List It) : (outs l).length = l.length := upto_length _ _ _
theorem grws_length (l : List It) : (grws l).length = l.length := upto_length _ _ _
theorem wts_length (fz : List Bool) (l : List It) : (wts fz l).length = l.length := upto_length _ _ _
theorem outs_get {l : List It} {i : Nat} (hi : i < l.length) : (outs l).getD i 0 = base0 (l.getD i it0) := upto_get _ hi
theorem wts_get {fz : List Bool} {l : List It} {i : Nat} (hi : i < l.length) : (wts fz l).getD i 0 = wf fz l i := upto_get _ hi
theorem base0_lo (x : It) : 0 ≤ base0 x := by unfold base0; omega
theorem base0_hi (x : It) : base0 x ≤ 70368744177664 := by have := sat_hi x.base; unfold base0; omega
theorem frees_bd (room : Int) (l : List It) {k : Nat} (hk : 0 < k) : -70368744177664 ≤ frees room l k ∧ frees room l k ≤ 70368744177664 := by
  obtain ⟨j, rfl⟩ : ∃ j, k = j + 1 := ⟨k - 1, by omega⟩
  exact ⟨sub_lo _ _, sub_hi _ _⟩
theorem loose_length (r : List Bool) : loose r ≤ r.length := by
  induction r with
  | nil => simp [loose]
  | cons f r ih => simp only [loose, List.length_cons]; split <;> omega
theorem loose_none (n : Nat) : loose (List.replicate n false) = n := by
  induction n with
  | zero => rfl
  | succ n ih => rw [List.replicate_succ, loose, ih]; simp; omega
theorem loose_set {r : List Bool} {i : Nat} (hi : i < r.length) (h : r.getD i false = false) : loose (r.set i true) + 1 = loose r := by
  induction r generalizing i with
  | nil => simp at hi
  | cons f r ih =>
    cases i with
    | zero =>
      have : f = false := by simpa using h
      subst this
      simp [loose]; omega
    | succ i =>
      have := ih (i := i) (by simpa using hi) (by simpa using h)
      simp only [List.set_cons_succ, loose]; omega
theorem getB_set {x : List Bool} {p i : Nat} {v : Bool} : (x.set p v).getD i false = if p = i ∧ i < x.length then v else x.getD i false := by
  simp only [List.getD_eq_getElem?_getD, List.getElem?_set]
  by_cases h : p = i
  · subst h
    by_cases h2 : p < x.length
    · simp [h2]
    · simp [h2]
  · simp [h]
theorem pas_length (parts : List Int) (s : St) (k : Nat) : (pas parts s k).out.length = s.out.length ∧ (pas parts s k).fz.length = s.fz.length := by
  induction k with
  | zero => exact ⟨rfl, rfl⟩
  | succ k ih =>
    simp only [pas]
    split
    · simpa using ih
    · exact ih
theorem pas_rest (parts : List Int) (s : St) {k i : Nat} (h : k ≤ i) : (pas parts s k).out.getD i 0 = s.out.getD i 0 ∧ (pas parts s k).fz.getD i false = s.fz.getD i false := by
  induction k with
  | zero => exact ⟨rfl, rfl⟩
  | succ k ih =>
    have := ih (by omega)
    simp only [pas]
    split
    · rw [getD_set, getB_set, if_neg (by omega), if_neg (by omega)]
      exact this
    · exact this
theorem pas_loose (parts : List Int) (s : St) (k : Nat) (hk : k ≤ s.fz.length) : loose (pas parts s k).fz ≤ loose s.fz ∧ ((pas parts s k).over = true → loose (pas parts s k).fz < loose s.fz) := by
  induction k with
  | zero => exact ⟨Nat.le_refl _, fun h => by cases h⟩
  | succ k ih =>
    have ih := ih (by omega)
    simp only [pas]
    split
    · rename_i hc
      have hl := (pas_length parts s k).2
      have := loose_set (r := (pas parts s k).fz) (i := k) (by omega) hc.1
      exact ⟨by simp only; omega, fun _ => by simp only; omega⟩
    · exact ih
theorem pas_none (parts : List Int) (s : St) (k : Nat) (h : (pas parts s k).over = false) : (pas parts s k).out = s.out ∧ (pas parts s k).fz = s.fz ∧ (pas parts s k).owed = s.owed := by
  induction k with
  | zero => exact ⟨rfl, rfl, rfl⟩
  | succ k ih =>
    simp only [pas] at h ⊢
    split
    · rename_i hc; rw [if_pos hc] at h; cases h
    · rename_i hc; rw [if_neg hc] at h; exact ih h
def Sz (m : Int) (x : List Int) : Prop := ∀ i, 0 ≤ x.getD i 0 ∧ x.getD i 0 ≤ m
theorem sz_set {m : Int} {x : List Int} (h : Sz m x) (hm : 0 ≤ m) (k : Nat) : Sz m (x.set k 0) := by
  intro i
  have := h i
  rw [getD_set]
  split <;> omega
theorem pas_sz {m : Int} (hm : 0 ≤ m) (parts : List Int) (s : St) (h : Sz m s.out) (k : Nat) : Sz m (pas parts s k).out := by
  induction k with
  | zero => exact h
  | succ k ih =>
    simp only [pas]
    split
    · exact sz_set ih hm k
    · exact ih
theorem sz_outs (l : List It) : Sz 70368744177664 (outs l) := by
  intro i
  rcases Nat.lt_or_ge i l.length with h | h
  · rw [outs_get h]; exact ⟨base0_lo _, base0_hi _⟩
  · rw [getD_out (by rw [outs_length]; exact h)]; omega
theorem pas_owed (parts : List Int) (s : St) (hp : ∀ i, 0 ≤ parts.getD i 0) (k : Nat) : s.owed - psum parts k ≤ (pas parts s k).owed := by
  induction k with
  | zero => simp [pas, psum]
  | succ k ih =>
    have := hp k
    simp only [pas, psum]
    split
    · rename_i hc; simp only; omega
    · omega
theorem pas_owed_hi {m : Int} (hm : 0 ≤ m) (parts : List Int) (s : St) (h : Sz m s.out) (k : Nat) : (pas parts s k).owed ≤ s.owed := by
  induction k with
  | zero => exact Int.le_refl _
  | succ k ih =>
    have := (pas_sz hm parts s h k) k
    simp only [pas]
    split
    · simp only; omega
    · exact ih
theorem any_wsum (fz : List Bool) (l : List It) : anyS fz l l.length = true ↔ wsum (wts fz l) (wts fz l).length ≠ 0 := by
  have key : ∀ k, k ≤ l.length → (anyS fz l k = true ↔ wsum (wts fz l) k ≠ 0) := by
    intro k
    induction k with
    | zero => simp [anyS, wsum]
    | succ k ih =>
      intro hk
      have h1 := wsum_lo (wts fz l) k
      have h2 := wt_lo (wf fz l k)
      simp only [anyS, wsum, Bool.or_eq_true, decide_eq_true_eq]
      rw [ih (by omega), wts_get (by omega)]
      have : 0 < wf fz l k ↔ wt (wf fz l k) ≠ 0 := by unfold wt clip; omega
      rw [this]
      omega
  rw [wts_length]
  exact key _ (Nat.le_refl _)
end Num
end Go.Proofs.YtkkiefcapbddkaaGreatDoor
