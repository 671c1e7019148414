/-
  Sharing out, with no program in sight: what fixed.Share and the reference's Share compute.
-/
import Derived.Test.YtkkiefcapbddkaaGreatDoorPlainA
namespace Go.Proofs.YtkkiefcapbddkaaGreatDoor
namespace Num
/-- a weight, brought between 0 and 2^16. -/
def wt (x : Int) : Int := clip x 0 65536
/-- the sum of the first k weights. -/
def wsum (l : List Int) : Nat → Int
  | 0 => 0
  | k + 1 => wsum l k + wt (l.getD k 0)
def tot (t : Int) : Int := clip t 0 70368744177664
/-- what number i gets at first, and what is left over of it. -/
def quo (t : Int) (l : List Int) (i : Nat) : Int := tot t * wt (l.getD i 0) / wsum l l.length
def rem (t : Int) (l : List Int) (i : Nat) : Int := tot t * wt (l.getD i 0) % wsum l l.length
/-- f i in the first k of n places, 0 behind them. -/
def upto (f : Nat → Int) (n k : Nat) : List Int := (List.range n).map fun i => if i < k then f i else 0
/-- what is left of the total when the first k have theirs. -/
def left (t : Int) (l : List Int) : Nat → Int
  | 0 => tot t
  | k + 1 => left t l k - quo t l k
/-- the program's search among the first k: -1 if none is 0 or above. -/
def bst (r : List Int) : Nat → Int
  | 0 => -1
  | k + 1 => if 0 ≤ r.getD k 0 ∧ (bst r k < 0 ∨ r.getD (bst r k).toNat 0 < r.getD k 0) then k else bst r k
/-- the rounds that hand out what is left, one a round. -/
def give : Nat → List Int → List Int → List Int
  | 0, x, _ => x
  | j + 1, x, r => give j (x.set (bst r r.length).toNat (x.getD (bst r r.length).toNat 0 + 1)) (r.set (bst r r.length).toNat (-1))
def share (t : Int) (l : List Int) : List Int :=
  if wsum l l.length = 0 then List.replicate l.length 0
  else give (left t l l.length).toNat (upto (quo t l) l.length l.length) (upto (rem t l) l.length l.length)

theorem wt_lo (x : Int) : 0 ≤ wt x := by unfold wt clip; omega
theorem wt_hi (x : Int) : wt x ≤ 65536 := by unfold wt clip; omega
theorem wsum_lo (l : List Int) (k : Nat) : 0 ≤ wsum l k := by
  induction k with
  | zero => simp [wsum]
  | succ k ih => have := wt_lo (l.getD k 0); simp only [wsum]; omega
theorem wsum_hi (l : List Int) (k : Nat) : wsum l k ≤ 65536 * k := by
  induction k with
  | zero => simp [wsum]
  | succ k ih => have := wt_hi (l.getD k 0); simp only [wsum]; omega
theorem wsum_mono (l : List Int) {j k : Nat} (h : j ≤ k) : wsum l j ≤ wsum l k := by
  induction k with
  | zero => have : j = 0 := by omega
            subst this; exact Int.le_refl _
  | succ k ih =>
    rcases Nat.lt_or_ge j (k + 1) with h1 | h1
    · have := ih (by omega); have := wt_lo (l.getD k 0); simp only [wsum]; omega
    · have : j = k + 1 := by omega
      subst this; exact Int.le_refl _
theorem tot_lo (t : Int) : 0 ≤ tot t := by unfold tot clip; omega
theorem tot_hi (t : Int) : tot t ≤ 70368744177664 := by unfold tot clip; omega
theorem quo_lo (t : Int) (l : List Int) (i : Nat) : 0 ≤ quo t l i := Int.ediv_nonneg (Int.mul_nonneg (tot_lo t) (wt_lo _)) (wsum_lo l _)
theorem rem_lo (t : Int) (l : List Int) (i : Nat) (h : wsum l l.length ≠ 0) : 0 ≤ rem t l i := Int.emod_nonneg _ h
theorem rem_hi (t : Int) (l : List Int) (i : Nat) (h : wsum l l.length ≠ 0) : rem t l i < wsum l l.length := Int.emod_lt_of_pos _ (by have := wsum_lo l l.length; omega)
theorem quo_rem (t : Int) (l : List Int) (i : Nat) : quo t l i * wsum l l.length + rem t l i = tot t * wt (l.getD i 0) := by
  unfold quo rem
  rw [Int.mul_comm]
  exact Int.mul_ediv_add_emod _ _
/-- the remainders' sum. -/
def rsum (t : Int) (l : List Int) : Nat → Int
  | 0 => 0
  | k + 1 => rsum t l k + rem t l k
/-- the heart: what is left, times the weights' sum, is the total of what was cut off and of the weights still to come. -/
theorem left_eq (t : Int) (l : List Int) (k : Nat) : left t l k * wsum l l.length = tot t * (wsum l l.length - wsum l k) + rsum t l k := by
  induction k with
  | zero => simp [left, wsum, rsum]
  | succ k ih =>
    have h := quo_rem t l k
    simp only [left, wsum, rsum]
    rw [Int.sub_mul, ih]
    have e : tot t * (wsum l l.length - (wsum l k + wt (l.getD k 0))) = tot t * (wsum l l.length - wsum l k) - tot t * wt (l.getD k 0) := by
      rw [← Int.mul_sub]; congr 1; omega
    rw [e]; omega
theorem rsum_lo (t : Int) (l : List Int) (h : wsum l l.length ≠ 0) (k : Nat) : 0 ≤ rsum t l k := by
  induction k with
  | zero => simp [rsum]
  | succ k ih => have := rem_lo t l k h; simp only [rsum]; omega
theorem rsum_hi (t : Int) (l : List Int) (h : wsum l l.length ≠ 0) (k : Nat) (hk : 0 < k) : rsum t l k < k * wsum l l.length := by
  induction k with
  | zero => omega
  | succ k ih =>
    have h1 := rem_hi t l k h
    simp only [rsum]
    rw [show ((k + 1 : Nat) : Int) * wsum l l.length = (k : Int) * wsum l l.length + wsum l l.length by rw [Int.natCast_add, Int.add_mul]; simp]
    rcases Nat.eq_zero_or_pos k with h0 | h0
    · subst h0; simp [rsum]; omega
    · have := ih h0; omega
theorem left_lo (t : Int) (l : List Int) (h : wsum l l.length ≠ 0) {k : Nat} (hk : k ≤ l.length) : 0 ≤ left t l k := by
  have h1 := left_eq t l k
  have h2 := rsum_lo t l h k
  have h3 := wsum_mono l hk
  have h4 := wsum_lo l l.length
  have h5 : 0 ≤ tot t * (wsum l l.length - wsum l k) := Int.mul_nonneg (tot_lo t) (by omega)
  rcases Int.lt_or_le (left t l k) 0 with h6 | h6
  · have h7 : left t l k * wsum l l.length < 0 := Int.mul_neg_of_neg_of_pos h6 (by omega)
    omega
  · exact h6
theorem left_hi (t : Int) (l : List Int) (k : Nat) : left t l k ≤ tot t := by
  induction k with
  | zero => exact Int.le_refl _
  | succ k ih => have := quo_lo t l k; simp only [left]; omega
/-- fewer units are left than there are places. -/
theorem left_lt (t : Int) (l : List Int) (h : wsum l l.length ≠ 0) : left t l l.length < l.length := by
  have h1 := left_eq t l l.length
  have hl : 0 < l.length := by
    rcases Nat.eq_zero_or_pos l.length with h0 | h0
    · rw [h0] at h; simp [wsum] at h
    · exact h0
  have h2 := rsum_hi t l h l.length hl
  have h4 := wsum_lo l l.length
  rw [Int.sub_self, Int.mul_zero, Int.zero_add] at h1
  rw [← h1] at h2
  exact Int.lt_of_mul_lt_mul_right h2 h4
theorem quo_hi (t : Int) (l : List Int) (i : Nat) (h : wsum l l.length ≠ 0) (hi : i < l.length) : quo t l i ≤ tot t := by
  have h1 := left_lo t l h (k := i + 1) (by omega)
  have h2 := left_hi t l i
  simp only [left] at h1
  omega
theorem upto_length (f : Nat → Int) (n k : Nat) : (upto f n k).length = n := by simp [upto]
theorem upto_getD (f : Nat → Int) {n k i : Nat} (hi : i < n) : (upto f n k).getD i 0 = if i < k then f i else 0 := by
  simp [upto, List.getD_eq_getElem?_getD, hi]
theorem upto_set (f : Nat → Int) {n k : Nat} : (upto f n k).set k (f k) = upto f n (k + 1) := by
  apply List.ext_getElem
  · simp [upto]
  · intro i h1 h2
    simp only [upto, List.getElem_set, List.getElem_map, List.getElem_range]
    by_cases h : k = i
    · subst h; simp
    · rw [if_neg h]
      by_cases h3 : i < k
      · rw [if_pos h3, if_pos (by omega)]
      · rw [if_neg h3, if_neg (by omega)]
theorem upto_zero (f : Nat → Int) (n : Nat) : upto f n 0 = List.replicate n 0 := by
  apply List.ext_getElem
  · simp [upto]
  · intro i h1 h2; simp [upto]
theorem bst_lo (r : List Int) (k : Nat) : -1 ≤ bst r k := by
  induction k with
  | zero => simp [bst]
  | succ k ih => simp only [bst]; split <;> omega
theorem bst_hi (r : List Int) (k : Nat) : bst r k < k := by
  induction k with
  | zero => simp [bst]
  | succ k ih => simp only [bst]; split <;> omega
/-- how many are 0 or above. -/
def cnt : List Int → Nat
  | [] => 0
  | y :: r => (if 0 ≤ y then 1 else 0) + cnt r
theorem cnt_get {r : List Int} (h : 0 < cnt r) : ∃ i, i < r.length ∧ 0 ≤ r.getD i 0 := by
  induction r with
  | nil => simp [cnt] at h
  | cons y r ih =>
    by_cases hy : 0 ≤ y
    · exact ⟨0, by simp, by simpa using hy⟩
    · simp only [cnt, if_neg hy, Nat.zero_add] at h
      obtain ⟨i, h1, h2⟩ := ih h
      exact ⟨i + 1, by simpa using h1, by simpa using h2⟩
theorem cnt_set {r : List Int} {i : Nat} (hi : i < r.length) (h : 0 ≤ r.getD i 0) : cnt (r.set i (-1)) + 1 = cnt r := by
  induction r generalizing i with
  | nil => simp at hi
  | cons y r ih =>
    cases i with
    | zero =>
      have hy : 0 ≤ y := by simpa using h
      simp [cnt, hy]; omega
    | succ i =>
      have := ih (i := i) (by simpa using hi) (by simpa using h)
      simp only [List.set_cons_succ, cnt]; omega
theorem cnt_all {r : List Int} (h : ∀ i, i < r.length → 0 ≤ r.getD i 0) : cnt r = r.length := by
  induction r with
  | nil => rfl
  | cons y r ih =>
    have hy : 0 ≤ y := by simpa using h 0 (by simp)
    have := ih (fun i hi => by simpa using h (i + 1) (by simpa using hi))
    simp only [cnt, if_pos hy, List.length_cons]; omega
theorem bst_get {r : List Int} {k : Nat} (h : 0 ≤ bst r k) : 0 ≤ r.getD (bst r k).toNat 0 := by
  induction k with
  | zero => simp [bst] at h
  | succ k ih =>
    simp only [bst] at h ⊢
    split
    · rename_i hc; simpa using hc.1
    · rename_i hc; rw [if_neg hc] at h; exact ih h
theorem bst_some {r : List Int} {i k : Nat} (hi : i < k) (h : 0 ≤ r.getD i 0) : 0 ≤ bst r k := by
  induction k with
  | zero => omega
  | succ k ih =>
    simp only [bst]
    split
    · omega
    · rename_i hc
      rcases Nat.lt_or_ge i k with h1 | h1
      · exact ih h1
      · obtain rfl : i = k := by omega
        by_cases h2 : bst r i < 0
        · exact absurd ⟨h, .inl h2⟩ hc
        · omega
/-- where fewer are to be handed out than there are places, the search finds one. -/
theorem bst_found {j : Nat} {r : List Int} (h : j < cnt r) : ∃ q : Nat, bst r r.length = q ∧ q < r.length ∧ 0 ≤ r.getD q 0 := by
  obtain ⟨i, h1, h2⟩ := cnt_get (by omega : 0 < cnt r)
  have h3 := bst_some h1 h2
  have h4 := bst_get h3
  have h5 := bst_hi r r.length
  exact ⟨(bst r r.length).toNat, by omega, by omega, h4⟩
/-- all numbers, with what is still to be handed out, stay small. -/
def bnd (x : List Int) (j : Nat) : Prop := ∀ i, i < x.length → 0 ≤ x.getD i 0 ∧ x.getD i 0 + j ≤ 140737488355328
theorem bnd_set {x : List Int} {j q : Nat} (h : bnd x (j + 1)) (hq : q < x.length) : bnd (x.set q (x.getD q 0 + 1)) j := by
  intro i hi
  rw [List.length_set] at hi
  have h1 := h i hi
  have h2 := h q hq
  simp only [List.getD_eq_getElem?_getD] at h1 h2 ⊢
  rw [List.getElem?_set]
  by_cases e : q = i
  · subst e; simp only [if_pos hq, if_true, Option.getD_some]; omega
  · rw [if_neg e]; omega
theorem give_succ {j q : Nat} {x r : List Int} (hq : bst r r.length = q) : give (j + 1) x r = give j (x.set q (x.getD q 0 + 1)) (r.set q (-1)) := by
  simp [give, hq]
theorem bnd_start (t : Int) (l : List Int) (h : wsum l l.length ≠ 0) (hl : l.length ≤ 1048576) {j : Nat} (hj : j < l.length) : bnd (upto (quo t l) l.length l.length) j := by
  intro i hi
  rw [upto_length] at hi
  rw [upto_getD _ hi, if_pos hi]
  have := quo_lo t l i
  have := quo_hi t l i h hi
  have := tot_hi t
  omega
theorem cnt_start (t : Int) (l : List Int) (h : wsum l l.length ≠ 0) : cnt (upto (rem t l) l.length l.length) = l.length := by
  rw [cnt_all, upto_length]
  intro i hi
  rw [upto_length] at hi
  rw [upto_getD _ hi, if_pos hi]
  exact rem_lo t l i h
end Num
end Go.Proofs.YtkkiefcapbddkaaGreatDoor
