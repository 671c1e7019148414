/-
  Sums and shares of numbers, with no program in sight; a row that is written place by place.
-/
import Derived.Test.YteghacdpfhohoaaPlainW
namespace Go.Proofs.Yteghacdpfhohoaa
namespace Num
/-- numbers added to numbers, place by place. -/
def zadd (a b : List Int) : List Int := List.zipWith add a b
theorem share_length (t : Int) (l : List Int) : (share t l).length = l.length := by
  have hg : ∀ j x r, (give j x r).length = x.length := by
    intro j
    induction j with
    | zero => intro x r; rfl
    | succ j ih => intro x r; rw [give, ih, List.length_set]
  unfold share
  split
  · simp
  · rw [hg, upto_length]
theorem psum_mono {x : List Int} (h : ∀ i, 0 ≤ x.getD i 0) {j k : Nat} (hk : j ≤ k) : psum x j ≤ psum x k := by
  induction k with
  | zero => obtain rfl : j = 0 := by omega
            exact Int.le_refl _
  | succ k ih =>
    rcases Nat.lt_or_ge j (k + 1) with h1 | h1
    · have := ih (by omega)
      have := h k
      simp only [psum]
      omega
    · obtain rfl : j = k + 1 := by omega
      exact Int.le_refl _
theorem psum_lo {x : List Int} (h : ∀ i, 0 ≤ x.getD i 0) (k : Nat) : 0 ≤ psum x k := by
  have := psum_mono h (Nat.zero_le k)
  simpa [psum] using this
theorem psum_one {x : List Int} (h : ∀ i, 0 ≤ x.getD i 0) {i k : Nat} (hk : i < k) : x.getD i 0 ≤ psum x k := by
  have h1 := psum_mono h (j := i + 1) (k := k) (by omega)
  have h2 := psum_lo h i
  simp only [psum] at h1
  omega
theorem getD_out {x : List Int} {i : Nat} (h : x.length ≤ i) : x.getD i 0 = 0 := by
  rw [List.getD_eq_getElem?_getD, List.getElem?_eq_none h]
  rfl
theorem share_lo (t : Int) (l : List Int) (hl : l.length ≤ 1048576) (i : Nat) : 0 ≤ (share t l).getD i 0 := by
  rcases Nat.lt_or_ge i l.length with h | h
  · exact (share_bnd t l hl h).1
  · rw [getD_out (by rw [share_length]; exact h)]
    exact Int.le_refl _
theorem share_psum (t : Int) (l : List Int) : psum (share t l) l.length = if wsum l l.length = 0 then 0 else tot t := by
  split
  · rename_i h
    unfold share
    rw [if_pos h]
    exact psum_none _ _
  · rename_i h
    exact share_sum t l h
theorem share_tot (t : Int) (l : List Int) (hl : l.length ≤ 1048576) (i : Nat) : (share t l).getD i 0 ≤ tot t := by
  rcases Nat.lt_or_ge i l.length with h | h
  · have h1 := psum_one (share_lo t l hl) h
    rw [share_psum] at h1
    have := tot_lo t
    split at h1 <;> omega
  · rw [getD_out (by rw [share_length]; exact h)]
    exact tot_lo t
/-- small numbers' sums never reach a rail. -/
theorem sums_psum {x : List Int} {m : Int} (h : ∀ i, 0 ≤ x.getD i 0 ∧ x.getD i 0 ≤ m) {k : Nat} (hk : m * k ≤ 70368744177664) : sums x k = psum x k ∧ psum x k ≤ m * k := by
  have hm : 0 ≤ m := Int.le_trans (h 0).1 (h 0).2
  induction k with
  | zero => simp [sums, psum]
  | succ k ih =>
    have e : m * ((k + 1 : Nat) : Int) = m * k + m := by rw [Int.natCast_add, Int.mul_add]; simp
    rw [e] at hk
    obtain ⟨h1, h2⟩ := ih (by omega)
    have h3 := h k
    have h4 := psum_lo (fun i => (h i).1) k
    simp only [sums, psum]
    rw [h1, e]
    refine ⟨?_, by omega⟩
    unfold add sat
    omega
theorem zadd_length {a b : List Int} (h : a.length = b.length) : (zadd a b).length = a.length := by simp [zadd, h]
theorem zadd_get {a b : List Int} (h : a.length = b.length) {i : Nat} (hi : i < a.length) : (zadd a b).getD i 0 = add (a.getD i 0) (b.getD i 0) := by
  simp [zadd, List.getD_eq_getElem?_getD, List.getElem?_zipWith, hi, show i < b.length by omega]
theorem psum_zadd {a b : List Int} {m : Int} (h : a.length = b.length) (hm : m + m ≤ 70368744177664) (ha : ∀ i, 0 ≤ a.getD i 0 ∧ a.getD i 0 ≤ m) (hb : ∀ i, 0 ≤ b.getD i 0 ∧ b.getD i 0 ≤ m) {k : Nat} (hk : k ≤ a.length) : psum (zadd a b) k = psum a k + psum b k := by
  induction k with
  | zero => simp [psum]
  | succ k ih =>
    have := ih (by omega)
    have := ha k
    have := hb k
    simp only [psum]
    rw [zadd_get h (by omega), ih (by omega)]
    have : add (a.getD k 0) (b.getD k 0) = a.getD k 0 + b.getD k 0 := by unfold add sat; omega
    omega
/-- the first k of b, then a's. -/
def mix (a b : List Int) (k : Nat) : List Int := b.take k ++ a.drop k
theorem mix_zero (a b : List Int) : mix a b 0 = a := by simp [mix]
theorem mix_all {a b : List Int} (h : a.length = b.length) : mix a b a.length = b := by simp [mix, h]
theorem mix_length {a b : List Int} (h : a.length = b.length) (k : Nat) : (mix a b k).length = a.length := by simp [mix]; omega
theorem mix_get {a b : List Int} (h : a.length = b.length) {i k : Nat} (hk : k ≤ i) (hi : i < a.length) : (mix a b k).getD i 0 = a.getD i 0 := by
  simp only [mix, List.getD_eq_getElem?_getD]
  rw [List.getElem?_append_right (by simp; omega), List.getElem?_drop, List.length_take, show k + (i - min k b.length) = i by omega]
theorem mix_set {a b : List Int} (h : a.length = b.length) {k : Nat} (hk : k < a.length) : (mix a b k).set k (b.getD k 0) = mix a b (k + 1) := by
  apply List.ext_getElem
  · rw [List.length_set, mix_length h, mix_length h]
  · intro i h1 h2
    rw [mix_length h] at h2
    simp only [mix, List.getElem_set, List.getElem_append, List.length_take]
    by_cases e : k = i
    · subst e
      have : k < min (k + 1) b.length := by omega
      simp [this, List.getD_eq_getElem?_getD, show k < b.length by omega]
    · rw [if_neg e]
      by_cases e2 : i < k
      · rw [dif_pos (by omega), dif_pos (by omega)]
        simp
      · rw [dif_neg (by omega), dif_neg (by omega)]
        simp only [List.getElem_drop]
        congr 1
        omega
/-- every share is what is due, or one more. -/
theorem share_near (t : Int) (l : List Int) (h : wsum l l.length ≠ 0) {i : Nat} (hi : i < l.length) : quo t l i ≤ (share t l).getD i 0 ∧ (share t l).getD i 0 ≤ quo t l i + 1 := by
  obtain ⟨j, _, hj, hj2, e⟩ := share_give t l h
  obtain ⟨r', hq, _⟩ := give_ind (fun j x r => x.length = l.length ∧ r.length = l.length ∧ quo t l i ≤ x.getD i 0 ∧ x.getD i 0 ≤ quo t l i + 1 ∧ (0 ≤ r.getD i 0 → x.getD i 0 = quo t l i))
    (fun j x r q hl _ ⟨h1, h2, h3, h4, h5⟩ hq hq0 _ => by
      refine ⟨by simpa using h1, by simpa using h2, ?_⟩
      rw [getD_set, getD_set]
      by_cases e : q = i
      · subst e
        rw [if_pos ⟨rfl, by omega⟩, if_pos ⟨rfl, by omega⟩]
        have := h5 hq0
        omega
      · rw [if_neg (fun hc => e hc.1), if_neg (fun hc => e hc.1)]
        exact ⟨h3, h4, h5⟩)
    j (upto (quo t l) l.length l.length) (upto (rem t l) l.length l.length) (by rw [upto_length, upto_length]) (by rw [cnt_r t l h]; exact hj)
    ⟨upto_length _ _ _, upto_length _ _ _, by rw [upto_get _ hi]; omega, by rw [upto_get _ hi]; omega, fun _ => upto_get _ hi⟩
  rw [e]
  exact ⟨hq.2.2.1, hq.2.2.2.1⟩
/-- weights that are alike get shares that are within one. -/
theorem share_even (t : Int) (l : List Int) {i j : Nat} (hi : i < l.length) (hj : j < l.length) (he : l.getD i 0 = l.getD j 0) : (share t l).getD i 0 ≤ (share t l).getD j 0 + 1 := by
  by_cases h : wsum l l.length = 0
  · unfold share
    rw [if_pos h]
    simp [List.getD_eq_getElem?_getD, hi, hj]
  · have h1 := share_near t l h hi
    have h2 := share_near t l h hj
    have : quo t l i = quo t l j := by unfold quo; rw [he]
    omega
end Num
end Go.Proofs.Yteghacdpfhohoaa
