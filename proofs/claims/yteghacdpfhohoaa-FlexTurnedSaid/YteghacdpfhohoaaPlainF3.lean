/-
  A row that gives way, with no program in sight: alike items get alike sizes.
-/
import Derived.Test.YteghacdpfhohoaaPlainF2
namespace Go.Proofs.Yteghacdpfhohoaa
namespace Num
theorem psum_le {a b : List Int} {k : Nat} (h : ∀ i, i < k → a.getD i 0 ≤ b.getD i 0) : psum a k ≤ psum b k := by
  induction k with
  | zero => exact Int.le_refl _
  | succ k ih =>
    have := ih (fun i hi => h i (by omega))
    have := h k (by omega)
    simp only [psum]
    omega
theorem psum_lt {a b : List Int} {k : Nat} (h : ∀ i, i < k → a.getD i 0 ≤ b.getD i 0) {j : Nat} (hj : j < k) (hlt : a.getD j 0 < b.getD j 0) : psum a k < psum b k := by
  induction k with
  | zero => omega
  | succ k ih =>
    have h1 := h k (by omega)
    simp only [psum]
    rcases Nat.lt_or_ge j k with h2 | h2
    · have := ih (fun i hi => h i (by omega)) h2
      omega
    · obtain rfl : j = k := by omega
      have := psum_le (fun i (hi : i < j) => h i (by omega))
      omega
theorem pas_some {parts : List Int} {s : St} : ∀ {k : Nat}, (pas parts s k).over = true → ∃ i, i < k ∧ s.fz.getD i false = false ∧ s.out.getD i 0 < parts.getD i 0 := by
  intro k
  induction k with
  | zero => intro h; cases h
  | succ k ih =>
    intro h
    simp only [pas] at h
    by_cases hc : (pas parts s k).fz.getD k false = false ∧ (pas parts s k).out.getD k 0 < parts.getD k 0
    · have h2 := pas_rest parts s (Nat.le_refl k)
      rw [h2.1, h2.2] at hc
      exact ⟨k, by omega, hc⟩
    · rw [if_neg hc] at h
      obtain ⟨i, h1, h2⟩ := ih h
      exact ⟨i, by omega, h2⟩
/-- where more is owed than there is, and all give way, nothing is left. -/
theorem shr_dead (l : List It) (hN : l.length ≤ 1048576) (hall : ∀ i, i < l.length → 0 < (l.getD i it0).shrink) : ∀ (n : Nat) (x : List Int) (fz : List Bool) (ow : Int), x.length = l.length → fz.length = l.length → Sz 70368744177664 x →
    (∀ i, fz.getD i false = true → x.getD i 0 = 0) → loose fz < n → 0 < ow → ow ≤ 70368744177664 → psum x l.length < ow → ∀ i, (shr n l x fz ow).getD i 0 = 0 := by
  intro n
  induction n with
  | zero => intro x fz ow _ _ _ _ h; omega
  | succ n ih =>
    intro x fz ow hx hf hs hz hlo h1 h2 hc
    rw [shr, if_neg (by omega)]
    by_cases ha : anyS fz l l.length = false
    · rw [if_pos ha]
      intro i
      rcases Nat.lt_or_ge i l.length with hi | hi
      · refine hz i ?_
        have h3 := any_none ha i hi
        have h4 := hall i hi
        unfold wf at h3
        by_cases h5 : fz.getD i false = true
        · exact h5
        · rw [if_neg h5] at h3; omega
      · exact getD_out (by omega)
    · have ha' : anyS fz l l.length = true := by simpa using ha
      rw [if_neg ha]
      have hps := psum_parts h1 h2 ha'
      have hp0 := share_lo ow (wts fz l) (by rw [wts_length]; exact hN)
      have hl := pas_length (share ow (wts fz l)) ⟨x, fz, ow, false⟩ l.length
      split
      · rename_i hov
        have k1 := pas_owed_over _ _ hp0 l.length hov
        have k2 := pas_owed_hi (by decide) (share ow (wts fz l)) ⟨x, fz, ow, false⟩ hs l.length
        have k3 := (pas_loose (share ow (wts fz l)) ⟨x, fz, ow, false⟩ l.length (by simp only; omega)).2 hov
        have k4 := pas_bal (share ow (wts fz l)) ⟨x, fz, ow, false⟩ l.length l.length (Nat.le_refl _) hx
        simp only at k1 k2 k3 k4
        exact ih _ _ _ (hl.1.trans hx) (hl.2.trans hf) (pas_sz (by decide) _ _ hs _) (pas_zero _ _ hz _) (by omega) (by omega) (by omega) (by omega)
      · rename_i hov
        exfalso
        have hov' : (pas (share ow (wts fz l)) ⟨x, fz, ow, false⟩ l.length).over = false := by simpa using hov
        have := psum_le (a := share ow (wts fz l)) (b := x) (k := l.length) (fun i hi => by
          by_cases h5 : fz.getD i false = true
          · rw [parts_frozen i h5, hz i h5]; exact Int.le_refl _
          · have := pas_fits hov' i hi (by simpa using h5)
            exact this)
        omega
theorem alike_get (x : It) {n i : Nat} (hi : i < n) : (List.replicate n x).getD i it0 = x := by
  simp [List.getD_eq_getElem?_getD, hi]
theorem psum_alike {b : Int} {x : List Int} {k : Nat} (h : ∀ i, i < k → x.getD i 0 = b) : psum x k = b * k := by
  induction k with
  | zero => simp [psum]
  | succ k ih =>
    simp only [psum]
    rw [ih (fun i hi => h i (by omega)), h k (by omega), Int.natCast_add, Int.mul_add]
    simp
/-- alike items: sizes within one. -/
theorem sizes_alike {room : Int} (x : It) {n : Nat} (hn : n ≤ 30) (h1 : -16777215 ≤ x.base) (h2 : x.base ≤ 16777215) (h3 : -16777215 ≤ x.outer) (h4 : x.outer ≤ 16777215) (hr1 : -16777215 ≤ room) (hr2 : room ≤ 16777215) {i j : Nat} (hi : i < n) (hj : j < n) :
    (sizes room (List.replicate n x)).getD i 0 ≤ (sizes room (List.replicate n x)).getD j 0 + 1 := by
  obtain ⟨l, hl⟩ : ∃ l, List.replicate n x = l := ⟨_, rfl⟩
  have hlen : l.length = n := by rw [← hl]; simp
  have hget : ∀ i, i < n → l.getD i it0 = x := fun i hi => by rw [← hl]; exact alike_get x hi
  have hsm : Small l := by
    intro i
    rcases Nat.lt_or_ge i n with h | h
    · rw [hget i h]; exact ⟨h1, h2, h3, h4⟩
    · rw [List.getD_eq_getElem?_getD, List.getElem?_eq_none (by omega)]; simp [it0]
  rw [hl]
  have hou : ∀ i, i < n → (outs l).getD i 0 = base0 x := fun i hi => by rw [outs_get (by omega), hget i hi]
  have hgr : ∀ i, i < n → (grws l).getD i 0 = x.grow := fun i hi => by
    rw [show (grws l).getD i 0 = og l i from upto_get _ (by omega)]
    unfold og
    rw [hget i hi]
  have hb : base0 x ≤ 16777215 := by unfold base0 sat; omega
  have hb0 := base0_lo x
  have e := frees_eq hsm hr1 hr2 (k := l.length) (Nat.le_refl _) (by omega)
  have b1 := psum_outs hsm (k := l.length)
  have b2 := osum_bd hsm (k := l.length)
  unfold sizes
  rw [e]
  generalize hf : room - psum (outs l) l.length - osum l l.length = free at *
  by_cases c1 : 0 < free
  · rw [if_pos c1]
    have hlen2 : (outs l).length = (share free (grws l)).length := by rw [share_length, outs_length, grws_length]
    rw [zadd_get hlen2 (by rw [outs_length]; omega), zadd_get hlen2 (by rw [outs_length]; omega), hou i hi, hou j hj]
    have k1 := share_even free (grws l) (i := i) (j := j) (by rw [grws_length]; omega) (by rw [grws_length]; omega) (by rw [hgr i hi, hgr j hj])
    have t : tot free = free := by unfold tot clip; omega
    have k2 := share_lo free (grws l) (by rw [grws_length]; omega) i
    have k3 := share_lo free (grws l) (by rw [grws_length]; omega) j
    have k4 := share_tot free (grws l) (by rw [grws_length]; omega) i
    have k5 := share_tot free (grws l) (by rw [grws_length]; omega) j
    rw [t] at k4 k5
    unfold add sat
    omega
  · rw [if_neg c1]
    by_cases c2 : free < 0
    · rw [if_pos c2]
      have hz2 : Sz 70368744177664 (outs l) := fun i => by have := outs_small hsm i; omega
      have hnf : ∀ i, (List.replicate l.length false).getD i false = false := fun i => by
        simp only [List.getD_eq_getElem?_getD, List.getElem?_replicate]
        split <;> rfl
      have hwf : ∀ i, i < n → wf (List.replicate l.length false) l i = x.shrink := fun i hi => by unfold wf; rw [hnf i, hget i hi]; rfl
      by_cases c3 : x.shrink ≤ 0
      · have ha : anyS (List.replicate l.length false) l l.length = false := by
          have : ∀ k, k ≤ l.length → anyS (List.replicate l.length false) l k = false := by
            intro k
            induction k with
            | zero => intro _; rfl
            | succ k ih =>
              intro hk
              simp only [anyS, ih (by omega), hwf k (by omega), Bool.false_or, decide_eq_false_iff_not]
              omega
          exact this _ (Nat.le_refl _)
        rw [shr, if_neg (by omega), if_pos ha, hou i hi, hou j hj]
        omega
      · have hall : ∀ i, i < l.length → 0 < (l.getD i it0).shrink := fun i hi => by rw [hget i (by omega)]; omega
        by_cases c4 : psum (outs l) l.length < -free
        · have := shr_dead l (by omega) hall (l.length + 1) (outs l) (List.replicate l.length false) (-free) (outs_length l) (by simp) hz2 (fun i hi => by rw [hnf i] at hi; cases hi) (by rw [loose_none]; omega) (by omega) (by omega) c4
          rw [this i, this j]
          omega
        · have ha : anyS (List.replicate l.length false) l l.length = true := by
            cases hq : anyS (List.replicate l.length false) l l.length
            · have := any_none hq i (by omega)
              rw [hwf i hi] at this
              omega
            · rfl
          have hps := psum_parts (ow := -free) (fz := List.replicate l.length false) (l := l) (by omega) (by omega) ha
          have hev : ∀ i j, i < n → j < n → (share (-free) (wts (List.replicate l.length false) l)).getD i 0 ≤ (share (-free) (wts (List.replicate l.length false) l)).getD j 0 + 1 := fun i j hi hj =>
            share_even _ _ (by rw [wts_length]; omega) (by rw [wts_length]; omega) (by rw [wts_get (by omega), wts_get (by omega), hwf i hi, hwf j hj])
          rw [shr, if_neg (by omega), if_neg (by simp [ha])]
          have hov : (pas (share (-free) (wts (List.replicate l.length false) l)) ⟨outs l, List.replicate l.length false, -free, false⟩ l.length).over = false := by
            cases hq : (pas (share (-free) (wts (List.replicate l.length false) l)) ⟨outs l, List.replicate l.length false, -free, false⟩ l.length).over
            · rfl
            · exfalso
              obtain ⟨q, q1, _, q3⟩ := pas_some hq
              simp only at q3
              rw [hou q (by omega)] at q3
              have := psum_lt (a := outs l) (b := share (-free) (wts (List.replicate l.length false) l)) (k := l.length) (fun i hi => by
                rw [hou i (by omega)]
                have := hev q i (by omega) (by omega)
                omega) q1 (by rw [hou q (by omega)]; exact q3)
              omega
          rw [if_neg (by simp [hov]), (pas_none _ _ _ hov).1]
          rw [subs_get _ _ _ _ _ (by simp only; rw [outs_length]; omega), subs_get _ _ _ _ _ (by simp only; rw [outs_length]; omega), if_pos ⟨by omega, hnf i⟩, if_pos ⟨by omega, hnf j⟩]
          have := hev j i hj hi
          simp only
          rw [hou i hi, hou j hj]
          omega
    · rw [if_neg c2, hou i hi, hou j hj]
      omega
end Num
end Go.Proofs.Yteghacdpfhohoaa
