/-
  Sharing out, with no program in sight: the shares add up, none is below 0, a weight of 0 gets nothing, a greater weight gets no less.
-/
import Derived.Test.YtkkiefcapbddkaaGreatDoorPlainB
namespace Go.Proofs.YtkkiefcapbddkaaGreatDoor
namespace Num
theorem getD_set {x : List Int} {p i : Nat} {v : Int} : (x.set p v).getD i 0 = if p = i ∧ i < x.length then v else x.getD i 0 := by
  simp only [List.getD_eq_getElem?_getD, List.getElem?_set]
  by_cases h : p = i
  · subst h
    by_cases h2 : p < x.length
    · simp [h2]
    · simp [h2]
  · simp [h]
theorem bst_max {r : List Int} {i k : Nat} (hi : i < k) (h : 0 ≤ bst r k) : r.getD i 0 ≤ r.getD (bst r k).toNat 0 := by
  induction k with
  | zero => omega
  | succ k ih =>
    simp only [bst] at h ⊢
    split
    · rename_i hc
      simp only [Int.toNat_natCast]
      rcases Nat.lt_or_ge i k with h1 | h1
      · rcases Int.lt_or_le (bst r k) 0 with h2 | h2
        · rcases Int.lt_or_le (r.getD i 0) 0 with h3 | h3
          · omega
          · have := bst_some h1 h3; omega
        · have := ih h1 h2
          rcases hc.2 with h4 | h4 <;> omega
      · have : i = k := by omega
        subst this; exact Int.le_refl _
    · rename_i hc
      rw [if_neg hc] at h
      rcases Nat.lt_or_ge i k with h1 | h1
      · exact ih h1 h
      · have : i = k := by omega
        subst this
        have := bst_get h
        rcases Int.lt_or_le (r.getD i 0) 0 with h3 | h3
        · omega
        · rcases Int.lt_or_le (r.getD (bst r i).toNat 0) (r.getD i 0) with h4 | h4
          · exact absurd ⟨h3, .inr h4⟩ hc
          · exact h4
/-- the place of a round. -/
theorem pick {j : Nat} {r : List Int} (h : j < cnt r) : ∃ q : Nat, bst r r.length = q ∧ q < r.length ∧ 0 ≤ r.getD q 0 ∧ ∀ i, i < r.length → r.getD i 0 ≤ r.getD q 0 := by
  obtain ⟨q, h1, h2, h3⟩ := bst_found h
  refine ⟨q, h1, h2, h3, fun i hi => ?_⟩
  have := bst_max hi (by omega : 0 ≤ bst r r.length)
  rwa [h1, Int.toNat_natCast] at this
/-- A property of the two rows that a round keeps holds at the end. -/
theorem give_ind (Q : Nat → List Int → List Int → Prop)
    (hstep : ∀ j x r q, x.length = r.length → j + 1 < cnt r → Q (j + 1) x r → q < r.length → 0 ≤ r.getD q 0 → (∀ i, i < r.length → r.getD i 0 ≤ r.getD q 0) → Q j (x.set q (x.getD q 0 + 1)) (r.set q (-1))) :
    ∀ j x r, x.length = r.length → j < cnt r → Q j x r → ∃ r', Q 0 (give j x r) r' ∧ r'.length = r.length := by
  intro j
  induction j with
  | zero => intro x r _ _ h; exact ⟨r, h, rfl⟩
  | succ j ih =>
    intro x r hl hj h
    obtain ⟨q, h1, h2, h3, h4⟩ := pick hj
    rw [give_succ h1]
    have hc := cnt_set h2 h3
    obtain ⟨r', h5, h6⟩ := ih (x.set q (x.getD q 0 + 1)) (r.set q (-1)) (by simp [hl]) (by omega) (hstep j x r q hl hj h h2 h3 h4)
    exact ⟨r', h5, by simpa using h6⟩
/-- the sum of the first k. -/
def psum (x : List Int) : Nat → Int
  | 0 => 0
  | k + 1 => psum x k + x.getD k 0
theorem psum_set {x : List Int} {q : Nat} (hq : q < x.length) (v : Int) (k : Nat) : psum (x.set q v) k = psum x k + if q < k then v - x.getD q 0 else 0 := by
  induction k with
  | zero => simp [psum]
  | succ k ih =>
    simp only [psum]
    rw [ih, getD_set]
    by_cases h : q = k
    · subst h; simp [hq]; omega
    · by_cases h2 : q < k
      · simp [h, h2, show q < k + 1 by omega]; omega
      · simp [h, h2, show ¬ q < k + 1 by omega]
theorem share_give (t : Int) (l : List Int) (h : wsum l l.length ≠ 0) : ∃ j, (left t l l.length).toNat = j ∧ j < l.length ∧ (j : Int) = left t l l.length ∧ share t l = give j (upto (quo t l) l.length l.length) (upto (rem t l) l.length l.length) := by
  have h1 := left_lo t l h (k := l.length) (by omega)
  have h2 := left_lt t l h
  exact ⟨_, rfl, by omega, by omega, by unfold share; rw [if_neg h]⟩
theorem cnt_r (t : Int) (l : List Int) (h : wsum l l.length ≠ 0) : cnt (upto (rem t l) l.length l.length) = l.length := cnt_start t l h
theorem upto_get (f : Nat → Int) {n i : Nat} (hi : i < n) : (upto f n n).getD i 0 = f i := by rw [upto_getD f hi, if_pos hi]

theorem psum_quo (t : Int) (l : List Int) (k : Nat) (hk : k ≤ l.length) : psum (upto (quo t l) l.length l.length) k = tot t - left t l k := by
  induction k with
  | zero => simp [psum, left]
  | succ k ih => simp only [psum, left]; rw [ih (by omega), upto_get _ (by omega)]; omega
theorem psum_rem (t : Int) (l : List Int) (k : Nat) (hk : k ≤ l.length) : psum (upto (rem t l) l.length l.length) k = rsum t l k := by
  induction k with
  | zero => simp [psum, rsum]
  | succ k ih => simp only [psum, rsum]; rw [ih (by omega), upto_get _ (by omega)]

/-- (1) the sum. -/
theorem share_sum (t : Int) (l : List Int) (h : wsum l l.length ≠ 0) : psum (share t l) l.length = tot t := by
  obtain ⟨j, _, hj, hj2, e⟩ := share_give t l h
  obtain ⟨r', hq, _⟩ := give_ind (fun j x r => r.length = l.length ∧ x.length = l.length ∧ psum x l.length + j = tot t)
    (fun j x r q hl _ ⟨h1, h2, h3⟩ hq _ _ => ⟨by simpa using h1, by simpa using h2, by
      rw [psum_set (by omega), if_pos (by omega)]; omega⟩)
    j (upto (quo t l) l.length l.length) (upto (rem t l) l.length l.length) (by rw [upto_length, upto_length]) (by rw [cnt_r t l h]; exact hj)
    ⟨upto_length _ _ _, upto_length _ _ _, by rw [psum_quo t l _ (Nat.le_refl _)]; omega⟩
  rw [e]
  simpa using hq.2.2
/-- (2) none is below 0, or too great. -/
theorem share_bnd (t : Int) (l : List Int) (hl : l.length ≤ 1048576) {i : Nat} (hi : i < l.length) : 0 ≤ (share t l).getD i 0 ∧ (share t l).getD i 0 ≤ 140737488355328 := by
  by_cases h : wsum l l.length = 0
  · unfold share
    rw [if_pos h]
    simp [List.getD_eq_getElem?_getD, hi]
  · obtain ⟨j, _, hj, hj2, e⟩ := share_give t l h
    obtain ⟨r', hq, _⟩ := give_ind (fun j x r => x.length = l.length ∧ bnd x j)
      (fun j x r q hl _ ⟨h1, h2⟩ hq _ _ => ⟨by simpa using h1, bnd_set h2 (by omega)⟩)
      j (upto (quo t l) l.length l.length) (upto (rem t l) l.length l.length) (by rw [upto_length, upto_length]) (by rw [cnt_r t l h]; exact hj)
      ⟨upto_length _ _ _, bnd_start t l h hl hj⟩
    rw [e]
    have := hq.2 i (by rw [hq.1]; exact hi)
    simpa using this
/-- how many of the first k are above 0. -/
def cntp (r : List Int) : Nat → Nat
  | 0 => 0
  | k + 1 => cntp r k + if 0 < r.getD k 0 then 1 else 0
theorem cntp_get {r : List Int} {k : Nat} (h : 0 < cntp r k) : ∃ i, i < k ∧ 0 < r.getD i 0 := by
  induction k with
  | zero => simp [cntp] at h
  | succ k ih =>
    by_cases hk : 0 < r.getD k 0
    · exact ⟨k, by omega, hk⟩
    · simp only [cntp, if_neg hk] at h
      obtain ⟨i, h1, h2⟩ := ih (by omega)
      exact ⟨i, by omega, h2⟩
theorem cntp_set {r : List Int} {q : Nat} (hq : q < r.length) (h : 0 < r.getD q 0) (k : Nat) : cntp (r.set q (-1)) k + (if q < k then 1 else 0) = cntp r k := by
  induction k with
  | zero => simp [cntp]
  | succ k ih =>
    simp only [cntp]
    rw [getD_set]
    by_cases e : q = k
    · subst e
      rw [if_neg (by omega)] at ih
      have e1 : ¬ (0 < (if q = q ∧ q < r.length then (-1 : Int) else r.getD q 0)) := by rw [if_pos ⟨rfl, hq⟩]; omega
      rw [if_neg e1, if_pos (by omega : q < q + 1), if_pos h]
      omega
    · by_cases h2 : q < k
      · simp [e, h2, show q < k + 1 by omega] at ih ⊢; omega
      · simp [e, h2, show ¬ q < k + 1 by omega] at ih ⊢; omega
theorem rsum_cntp (t : Int) (l : List Int) (h : wsum l l.length ≠ 0) (k : Nat) (hk : k ≤ l.length) : rsum t l k ≤ (wsum l l.length - 1) * cntp (upto (rem t l) l.length l.length) k := by
  induction k with
  | zero => simp [rsum, cntp]
  | succ k ih =>
    have ih := ih (by omega)
    have h1 := rem_hi t l k h
    have h2 := rem_lo t l k h
    simp only [rsum, cntp]
    rw [upto_get _ (by omega)]
    by_cases h3 : 0 < rem t l k
    · rw [if_pos h3]
      have : (wsum l l.length - 1) * ((cntp (upto (rem t l) l.length l.length) k + 1 : Nat) : Int) = (wsum l l.length - 1) * cntp (upto (rem t l) l.length l.length) k + (wsum l l.length - 1) := by
        rw [Int.natCast_add, Int.mul_add]; simp
      rw [this]; omega
    · rw [if_neg h3]
      simp only [Nat.add_zero]
      omega
theorem left_cntp (t : Int) (l : List Int) (h : wsum l l.length ≠ 0) : (left t l l.length).toNat ≤ cntp (upto (rem t l) l.length l.length) l.length := by
  have h1 := left_eq t l l.length
  have h2 := rsum_cntp t l h l.length (Nat.le_refl _)
  have h3 := wsum_lo l l.length
  have h4 := left_lo t l h (k := l.length) (by omega)
  rw [Int.sub_self, Int.mul_zero, Int.zero_add] at h1
  rw [← h1] at h2
  generalize cntp (upto (rem t l) l.length l.length) l.length = c at *
  generalize left t l l.length = x at *
  generalize wsum l l.length = s at *
  rcases Int.lt_or_le c x with h5 | h5
  · have h6 : (s - 1) * (c : Int) < x * s := by
      have a1 : (s - 1) * (c : Int) ≤ (s - 1) * x := Int.mul_le_mul_of_nonneg_left (by omega) (by omega)
      have a2 : (s - 1) * x = x * s - x := by rw [Int.sub_mul, Int.mul_comm]; omega
      omega
    omega
  · omega
/-- (3) a weight of 0 or below gets nothing. -/
theorem share_none (t : Int) (l : List Int) {i : Nat} (hi : i < l.length) (hw : l.getD i 0 ≤ 0) : (share t l).getD i 0 = 0 := by
  by_cases h : wsum l l.length = 0
  · unfold share
    rw [if_pos h]
    simp [List.getD_eq_getElem?_getD, hi]
  · obtain ⟨j, hj0, hj, hj2, e⟩ := share_give t l h
    have hw0 : wt (l.getD i 0) = 0 := by unfold wt clip; omega
    have hq0 : quo t l i = 0 := by unfold quo; rw [hw0]; simp
    have hr0 : rem t l i = 0 := by unfold rem; rw [hw0]; simp
    obtain ⟨r', hq, _⟩ := give_ind (fun j x r => r.length = l.length ∧ x.getD i 0 = 0 ∧ r.getD i 0 = 0 ∧ j ≤ cntp r l.length)
      (fun j x r q hl _ ⟨h1, h2, h3, h4⟩ hq _ hmax => by
        obtain ⟨p, hp, hp2⟩ := cntp_get (r := r) (k := l.length) (by omega)
        have hqp : 0 < r.getD q 0 := Int.lt_of_lt_of_le hp2 (hmax p (by omega))
        have hne : ¬ (q = i ∧ i < x.length) := by rintro ⟨rfl, _⟩; omega
        have hne' : ¬ (q = i ∧ i < r.length) := by rintro ⟨rfl, _⟩; omega
        have := cntp_set hq hqp l.length
        rw [if_pos (by omega)] at this
        exact ⟨by simpa using h1, by rw [getD_set, if_neg hne]; exact h2, by rw [getD_set, if_neg hne']; exact h3, by omega⟩)
      j (upto (quo t l) l.length l.length) (upto (rem t l) l.length l.length) (by rw [upto_length, upto_length]) (by rw [cnt_r t l h]; exact hj)
      ⟨upto_length _ _ _, by rw [upto_get _ hi]; exact hq0, by rw [upto_get _ hi]; exact hr0, by rw [← hj0]; exact left_cntp t l h⟩
    rw [e]
    exact hq.2.1
/-- (4) a greater weight gets no less, as long as both may be. -/
theorem share_mono (t : Int) (l : List Int) {a b : Nat} (ha : a < l.length) (hb : b < l.length) (h1 : l.getD a 0 < l.getD b 0) (h2 : l.getD b 0 ≤ 65536) : (share t l).getD a 0 ≤ (share t l).getD b 0 := by
  rcases Int.lt_or_le 0 (l.getD b 0) with h3 | h3
  · have hwb : 0 < wt (l.getD b 0) := by unfold wt clip; omega
    have hw : wt (l.getD a 0) < wt (l.getD b 0) := by unfold wt clip; omega
    have h : wsum l l.length ≠ 0 := by
      have k1 := wsum_mono l (j := b + 1) (k := l.length) (by omega)
      have k2 := wsum_lo l b
      simp only [wsum] at k1
      omega
    obtain ⟨j, hj0, hj, hj2, e⟩ := share_give t l h
    have hs := wsum_lo l l.length
    have hqa := quo_rem t l a
    have hqb := quo_rem t l b
    have htw : tot t * wt (l.getD a 0) ≤ tot t * wt (l.getD b 0) := Int.mul_le_mul_of_nonneg_left (by omega) (tot_lo t)
    have hqq : quo t l a ≤ quo t l b := by unfold quo; exact Int.ediv_le_ediv (by omega) htw
    have hra := rem_hi t l a h
    have hrb := rem_hi t l b h
    have hstart : quo t l a + 1 ≤ quo t l b ∨ rem t l a < rem t l b ∨ tot t = 0 := by
      rcases Int.lt_or_le (quo t l a) (quo t l b) with k | k
      · exact .inl (by omega)
      · have e2 : quo t l a = quo t l b := by omega
        rw [e2] at hqa
        by_cases ht : tot t = 0
        · exact .inr (.inr ht)
        · have htp : 0 < tot t := by have := tot_lo t; omega
          have := Int.mul_lt_mul_of_pos_left hw htp
          exact .inr (.inl (by omega))
    rcases Classical.em (tot t = 0) with ht | ht
    · have hl0 : left t l l.length = 0 := by
        have := left_hi t l l.length
        omega
      have : j = 0 := by omega
      subst this
      rw [e]
      show (upto _ _ _).getD a 0 ≤ (upto _ _ _).getD b 0
      rw [upto_get _ ha, upto_get _ hb]
      exact hqq
    · obtain ⟨r', hq, _⟩ := give_ind (fun j x r => r.length = l.length ∧ x.length = l.length ∧ x.getD a 0 ≤ x.getD b 0 ∧ (r.getD a 0 < 0 ∨ x.getD a 0 + 1 ≤ x.getD b 0 ∨ r.getD a 0 < r.getD b 0))
        (fun j x r q hl _ ⟨g1, g2, g3, g4⟩ hq hq0 hmax => by
          have hma := hmax a (by omega)
          have hmb := hmax b (by omega)
          refine ⟨by simpa using g1, by simpa using g2, ?_, ?_⟩
          · rw [getD_set, getD_set]
            by_cases ea : q = a
            · subst ea
              have hne : ¬ (q = b ∧ b < x.length) := by rintro ⟨rfl, _⟩; omega
              rw [if_pos ⟨rfl, by omega⟩, if_neg hne]
              rcases g4 with g | g | g <;> omega
            · rw [if_neg (fun hc => ea hc.1)]
              split
              · rename_i hc; obtain ⟨rfl, _⟩ := hc; omega
              · exact g3
          · rw [getD_set, getD_set, getD_set, getD_set]
            by_cases ea : q = a
            · subst ea
              left
              rw [if_pos ⟨rfl, by omega⟩]
              omega
            · rw [if_neg (fun hc => ea hc.1), if_neg (fun hc => ea hc.1)]
              by_cases eb : q = b
              · subst eb
                right; left
                rw [if_pos ⟨rfl, by omega⟩]
                omega
              · rw [if_neg (fun hc => eb hc.1), if_neg (fun hc => eb hc.1)]
                exact g4)
        j (upto (quo t l) l.length l.length) (upto (rem t l) l.length l.length) (by rw [upto_length, upto_length]) (by rw [cnt_r t l h]; exact hj)
        ⟨upto_length _ _ _, upto_length _ _ _, by rw [upto_get _ ha, upto_get _ hb]; exact hqq, by
          rw [upto_get _ ha, upto_get _ hb, upto_get _ ha, upto_get _ hb]
          rcases hstart with k | k | k
          · exact .inr (.inl k)
          · exact .inr (.inr k)
          · exact absurd k ht⟩
      rw [e]
      exact hq.2.2.1
  · rw [share_none t l ha (by omega), share_none t l hb h3]
    exact Int.le_refl _
/-- is one of the first k above 0? -/
def anyp (l : List Int) : Nat → Bool
  | 0 => false
  | k + 1 => anyp l k || decide (0 < l.getD k 0)
theorem anyp_wsum (l : List Int) (k : Nat) : anyp l k = true ↔ wsum l k ≠ 0 := by
  induction k with
  | zero => simp [anyp, wsum]
  | succ k ih =>
    have h1 := wsum_lo l k
    have h2 := wt_lo (l.getD k 0)
    simp only [anyp, wsum, Bool.or_eq_true, decide_eq_true_eq]
    rw [ih]
    have : 0 < l.getD k 0 ↔ wt (l.getD k 0) ≠ 0 := by unfold wt clip; omega
    rw [this]
    omega
theorem psum_none (n k : Nat) : psum (List.replicate n 0) k = 0 := by
  induction k with
  | zero => rfl
  | succ k ih =>
    simp only [psum, ih, List.getD_eq_getElem?_getD, List.getElem?_replicate]
    split <;> rfl
/-- the sum's law, as the statement has it. -/
theorem share_total (t : Int) (l : List Int) : (anyp l l.length = true ∧ psum (share t l) l.length = tot t) ∨ (anyp l l.length = false ∧ psum (share t l) l.length = 0) := by
  by_cases h : wsum l l.length = 0
  · right
    refine ⟨?_, ?_⟩
    · have := anyp_wsum l l.length
      cases hb : anyp l l.length
      · rfl
      · exact absurd h (this.1 hb)
    · unfold share
      rw [if_pos h]
      exact psum_none _ _
  · left
    exact ⟨(anyp_wsum l l.length).2 h, share_sum t l h⟩
theorem psum_bnd (t : Int) (l : List Int) (hl : l.length ≤ 1048576) (k : Nat) (hk : k ≤ l.length) : 0 ≤ psum (share t l) k ∧ psum (share t l) k ≤ 140737488355328 * k := by
  induction k with
  | zero => simp [psum]
  | succ k ih =>
    have := ih (by omega)
    have := share_bnd t l hl (i := k) (by omega)
    simp only [psum]
    omega
end Num
end Go.Proofs.YtkkiefcapbddkaaGreatDoor
