/-
  A row that gives way, with no program in sight: sizes fill the room; alike items get alike sizes.
-/
import Derived.Test.YteghacdpfhohoaaPlainF
namespace Go.Proofs.Yteghacdpfhohoaa
namespace Num
/-- what stands round the first k. -/
def osum (l : List It) : Nat → Int
  | 0 => 0
  | k + 1 => osum l k + (l.getD k it0).outer
/-- items of the statements: small ones. -/
def Small (l : List It) : Prop := ∀ i, -16777215 ≤ (l.getD i it0).base ∧ (l.getD i it0).base ≤ 16777215 ∧ -16777215 ≤ (l.getD i it0).outer ∧ (l.getD i it0).outer ≤ 16777215
theorem ob_small {l : List It} (h : Small l) (i : Nat) : 0 ≤ ob l i ∧ ob l i ≤ 16777215 ∧ ob l i = max (l.getD i it0).base 0 := by
  have := h i
  unfold ob base0 sat
  omega
theorem outs_small {l : List It} (h : Small l) (i : Nat) : 0 ≤ (outs l).getD i 0 ∧ (outs l).getD i 0 ≤ 16777215 := by
  rcases Nat.lt_or_ge i l.length with hi | hi
  · rw [outs_get hi]; have := ob_small h i; unfold ob at this; omega
  · rw [getD_out (by rw [outs_length]; exact hi)]; omega
theorem psum_outs {l : List It} (h : Small l) {k : Nat} : 0 ≤ psum (outs l) k ∧ psum (outs l) k ≤ 16777215 * k := by
  induction k with
  | zero => simp [psum]
  | succ k ih => have := outs_small h k; simp only [psum]; omega
theorem osum_bd {l : List It} (h : Small l) {k : Nat} : -16777215 * (k : Int) ≤ osum l k ∧ osum l k ≤ 16777215 * k := by
  induction k with
  | zero => simp [osum]
  | succ k ih => have := h k; simp only [osum]; omega
theorem frees_eq {room : Int} {l : List It} (h : Small l) (h1 : -16777215 ≤ room) (h2 : room ≤ 16777215) {k : Nat} (hk : k ≤ l.length) (hk2 : k ≤ 40) : frees room l k = room - psum (outs l) k - osum l k := by
  induction k with
  | zero => simp [frees, psum, osum]
  | succ k ih =>
    have e := ih (by omega) (by omega)
    have b1 := psum_outs h (k := k)
    have b2 := osum_bd h (k := k)
    have b3 := ob_small h k
    have b4 := h k
    simp only [frees, psum, osum]
    rw [e, outs_get (by omega)]
    have : ob l k = base0 (l.getD k it0) := rfl
    rw [← this]
    unfold sub sat
    omega
/-- where nobody was over, nobody's part is more than what it has. -/
theorem pas_fits {parts : List Int} {s : St} : ∀ {k : Nat}, (pas parts s k).over = false → ∀ i, i < k → s.fz.getD i false = false → parts.getD i 0 ≤ s.out.getD i 0 := by
  intro k
  induction k with
  | zero => intro _ i hi; omega
  | succ k ih =>
    intro h i hi hf
    simp only [pas] at h
    by_cases hc : (pas parts s k).fz.getD k false = false ∧ (pas parts s k).out.getD k 0 < parts.getD k 0
    · rw [if_pos hc] at h; cases h
    · rw [if_neg hc] at h
      rcases Nat.lt_or_ge i k with h1 | h1
      · exact ih h i h1 hf
      · obtain rfl : i = k := by omega
        have h2 := pas_rest parts s (Nat.le_refl i)
        rw [h2.1, h2.2] at hc
        rcases Int.lt_or_le (s.out.getD i 0) (parts.getD i 0) with h3 | h3
        · exact absurd ⟨hf, h3⟩ hc
        · exact h3
theorem subs_len (parts : List Int) (fz : List Bool) (x : List Int) (k : Nat) : (subs parts fz x k).length = x.length := by
  induction k with
  | zero => rfl
  | succ k ih => simp only [subs]; split <;> simp [ih]
theorem subs_get (parts : List Int) (fz : List Bool) (x : List Int) (k i : Nat) (hi : i < x.length) : (subs parts fz x k).getD i 0 = if i < k ∧ fz.getD i false = false then x.getD i 0 - parts.getD i 0 else x.getD i 0 := by
  induction k with
  | zero => rw [if_neg (by omega)]; rfl
  | succ k ih =>
    simp only [subs]
    by_cases hf : fz.getD k false = true
    · rw [if_pos hf, ih]
      by_cases h1 : i = k
      · subst h1; rw [if_neg (by omega), if_neg (fun h => by have := h.2; rw [hf] at this; cases this)]
      · by_cases h2 : i < k ∧ fz.getD i false = false
        · rw [if_pos h2, if_pos ⟨by omega, h2.2⟩]
        · rw [if_neg h2, if_neg (fun h => h2 ⟨by omega, h.2⟩)]
    · have hf' : fz.getD k false = false := by simpa using hf
      rw [if_neg hf, getD_set, subs_len]
      by_cases h1 : k = i
      · subst h1
        rw [if_pos ⟨rfl, hi⟩, ih, if_neg (by omega), if_pos ⟨by omega, hf'⟩]
      · rw [if_neg (fun h => h1 h.1), ih]
        by_cases h2 : i < k ∧ fz.getD i false = false
        · rw [if_pos h2, if_pos ⟨by omega, h2.2⟩]
        · rw [if_neg h2, if_neg (fun h => h2 ⟨by omega, h.2⟩)]
theorem pas_le {m : Int} (parts : List Int) (s : St) (h : Sz m s.out) (k i : Nat) : (pas parts s k).out.getD i 0 ≤ s.out.getD i 0 := by
  induction k with
  | zero => exact Int.le_refl _
  | succ k ih =>
    simp only [pas]
    split
    · have := h i
      rw [getD_set]
      split <;> omega
    · exact ih
/-- giving way: no size is below 0, none grows. -/
theorem shr_le {m : Int} (hm : 0 ≤ m) (l : List It) (hN : l.length ≤ 1048576) : ∀ (n : Nat) (x : List Int) (fz : List Bool) (ow : Int), x.length = l.length → fz.length = l.length → Sz m x →
    (shr n l x fz ow).length = l.length ∧ ∀ i, 0 ≤ (shr n l x fz ow).getD i 0 ∧ (shr n l x fz ow).getD i 0 ≤ x.getD i 0 := by
  intro n
  induction n with
  | zero => intro x fz ow hx _ hs; exact ⟨hx, fun i => ⟨(hs i).1, Int.le_refl _⟩⟩
  | succ n ih =>
    intro x fz ow hx hf hs
    rw [shr]
    split
    · exact ⟨hx, fun i => ⟨(hs i).1, Int.le_refl _⟩⟩
    · split
      · exact ⟨hx, fun i => ⟨(hs i).1, Int.le_refl _⟩⟩
      · have hl := pas_length (share ow (wts fz l)) ⟨x, fz, ow, false⟩ l.length
        split
        · obtain ⟨h1, h2⟩ := ih _ _ (pas (share ow (wts fz l)) ⟨x, fz, ow, false⟩ l.length).owed (hl.1.trans hx) (hl.2.trans hf) (pas_sz hm _ _ hs l.length)
          refine ⟨h1, fun i => ⟨(h2 i).1, Int.le_trans (h2 i).2 (pas_le _ _ hs l.length i)⟩⟩
        · rename_i hov
          have hov' : (pas (share ow (wts fz l)) ⟨x, fz, ow, false⟩ l.length).over = false := by simpa using hov
          have hno := pas_none _ _ _ hov'
          simp only at hno
          rw [hno.1]
          refine ⟨(subs_len _ _ _ _).trans hx, fun i => ?_⟩
          have hsi := hs i
          rcases Nat.lt_or_ge i l.length with hi | hi
          · rw [subs_get _ _ _ _ _ (by omega)]
            have hp := share_lo ow (wts fz l) (by rw [wts_length]; exact hN) i
            split
            · rename_i hc
              have := pas_fits hov' i hc.1 hc.2
              simp only at this
              omega
            · omega
          · rw [getD_out (by rw [subs_len]; omega)]
            omega
theorem pas_owed_over (parts : List Int) (s : St) (hp : ∀ i, 0 ≤ parts.getD i 0) (k : Nat) (h : (pas parts s k).over = true) : s.owed - psum parts k + 1 ≤ (pas parts s k).owed := by
  induction k with
  | zero => cases h
  | succ k ih =>
    have h0 := pas_owed parts s hp k
    have h1 := hp k
    simp only [pas, psum] at h ⊢
    by_cases hc : (pas parts s k).fz.getD k false = false ∧ (pas parts s k).out.getD k 0 < parts.getD k 0
    · rw [if_pos hc]; simp only; omega
    · rw [if_neg hc] at h ⊢
      have := ih h
      omega
theorem pas_bal (parts : List Int) (s : St) (n k : Nat) (hk : k ≤ n) (hn : s.out.length = n) : psum (pas parts s k).out n - (pas parts s k).owed = psum s.out n - s.owed := by
  induction k with
  | zero => rfl
  | succ k ih =>
    have ih := ih (by omega)
    have hl := (pas_length parts s k).1
    simp only [pas]
    split
    · simp only
      rw [psum_set (by omega), if_pos (by omega)]
      omega
    · exact ih
theorem pas_zero (parts : List Int) (s : St) (h : ∀ i, s.fz.getD i false = true → s.out.getD i 0 = 0) (k : Nat) : ∀ i, (pas parts s k).fz.getD i false = true → (pas parts s k).out.getD i 0 = 0 := by
  induction k with
  | zero => exact h
  | succ k ih =>
    intro i
    simp only [pas]
    split
    · simp only
      rw [getD_set, getB_set]
      intro hi
      split
      · rfl
      · rename_i hc
        rcases Nat.lt_or_ge i (pas parts s k).out.length with h1 | h1
        · have : ¬ k = i := fun e => hc ⟨e, h1⟩
          rw [if_neg (fun h => this h.1)] at hi
          exact ih i hi
        · exact getD_out h1
    · exact ih i
theorem psum_zero {x : List Int} {k : Nat} (h : ∀ i, i < k → x.getD i 0 = 0) : psum x k = 0 := by
  induction k with
  | zero => rfl
  | succ k ih => simp only [psum]; rw [ih (fun i hi => h i (by omega)), h k (by omega)]; rfl
theorem any_none {fz : List Bool} {l : List It} {k : Nat} (h : anyS fz l k = false) : ∀ i, i < k → wf fz l i ≤ 0 := by
  induction k with
  | zero => intro i hi; omega
  | succ k ih =>
    simp only [anyS, Bool.or_eq_false_iff, decide_eq_false_iff_not] at h
    intro i hi
    rcases Nat.lt_or_ge i k with h1 | h1
    · exact ih h.1 i h1
    · obtain rfl : i = k := by omega
      omega
theorem psum_parts {ow : Int} {fz : List Bool} {l : List It} (h1 : 0 < ow) (h2 : ow ≤ 70368744177664) (ha : anyS fz l l.length = true) : psum (share ow (wts fz l)) l.length = ow := by
  have := share_psum ow (wts fz l)
  rw [if_neg ((any_wsum fz l).1 ha), wts_length] at this
  rw [this]
  unfold tot clip
  omega
theorem psum_subs {parts : List Int} {fz : List Bool} {x : List Int} (hp : ∀ i, fz.getD i false = true → parts.getD i 0 = 0) (n : Nat) (hn : x.length = n) : ∀ k, k ≤ n → psum (subs parts fz x n) k = psum x k - psum parts k := by
  intro k
  induction k with
  | zero => intro _; simp [psum]
  | succ k ih =>
    intro hk
    have ih := ih (by omega)
    simp only [psum]
    rw [ih, subs_get _ _ _ _ _ (by omega)]
    by_cases hf : fz.getD k false = true
    · rw [if_neg (fun h => by have := h.2; rw [hf] at this; cases this), hp k hf]; omega
    · rw [if_pos ⟨by omega, by simpa using hf⟩]; omega
theorem parts_frozen {ow : Int} {fz : List Bool} {l : List It} (i : Nat) (h : fz.getD i false = true) : (share ow (wts fz l)).getD i 0 = 0 := by
  rcases Nat.lt_or_ge i l.length with hi | hi
  · refine share_none ow (wts fz l) (by rw [wts_length]; exact hi) ?_
    rw [wts_get hi]
    unfold wf
    rw [if_pos h]
    exact Int.le_refl _
  · exact getD_out (by rw [share_length, wts_length]; exact hi)
/-- if all give way, and there is enough, they give all that is owed. -/
theorem shr_sum (l : List It) (hN : l.length ≤ 1048576) (hall : ∀ i, i < l.length → 0 < (l.getD i it0).shrink) : ∀ (n : Nat) (x : List Int) (fz : List Bool) (ow : Int), x.length = l.length → fz.length = l.length → Sz 70368744177664 x →
    (∀ i, fz.getD i false = true → x.getD i 0 = 0) → loose fz < n → 0 < ow → ow ≤ 70368744177664 → 0 ≤ psum x l.length - ow → psum (shr n l x fz ow) l.length = psum x l.length - ow := by
  intro n
  induction n with
  | zero => intro x fz ow _ _ _ _ h; omega
  | succ n ih =>
    intro x fz ow hx hf hs hz hlo h1 h2 hc
    rw [shr, if_neg (by omega)]
    by_cases ha : anyS fz l l.length = false
    · exfalso
      have hw := any_none ha
      have : psum x l.length = 0 := psum_zero (fun i hi => hz i (by
        have h3 := hw i hi
        have h4 := hall i hi
        unfold wf at h3
        by_cases h5 : fz.getD i false = true
        · exact h5
        · rw [if_neg h5] at h3; omega))
      omega
    · have ha' : anyS fz l l.length = true := by simpa using ha
      rw [if_neg ha]
      have hps := psum_parts h1 h2 ha'
      have hp0 := share_lo ow (wts fz l) (by rw [wts_length]; exact hN)
      have hl := pas_length (share ow (wts fz l)) ⟨x, fz, ow, false⟩ l.length
      split
      · rename_i hov
        have k1 := pas_owed_over _ _ hp0 l.length hov
        have k2 := pas_owed_hi (by decide) (share ow (wts fz l)) ⟨x, fz, ow, false⟩ hs l.length
        have k3 := (pas_loose (share ow (wts fz l)) ⟨x, fz, ow, false⟩ l.length (by simp only; omega)).2 hov
        have k4 := pas_bal (share ow (wts fz l)) ⟨x, fz, ow, false⟩ l.length l.length (Nat.le_refl _) hx
        simp only at k1 k2 k3 k4
        rw [ih _ _ _ (hl.1.trans hx) (hl.2.trans hf) (pas_sz (by decide) _ _ hs _) (pas_zero _ _ hz _) (by omega) (by omega) (by omega) (by omega)]
        exact k4
      · rename_i hov
        have hov' : (pas (share ow (wts fz l)) ⟨x, fz, ow, false⟩ l.length).over = false := by simpa using hov
        have hno := pas_none _ _ _ hov'
        simp only at hno
        rw [hno.1, psum_subs (fun i h => parts_frozen i h) l.length hx l.length (Nat.le_refl _), hps]
def growsAny (l : List It) : Bool := anyp (grws l) l.length
def shrinksAll (l : List It) : Nat → Bool
  | 0 => true
  | k + 1 => shrinksAll l k && decide (0 < (l.getD k it0).shrink)
theorem shrinksAll_all {l : List It} {k : Nat} (h : shrinksAll l k = true) : ∀ i, i < k → 0 < (l.getD i it0).shrink := by
  induction k with
  | zero => intro i hi; omega
  | succ k ih =>
    simp only [shrinksAll, Bool.and_eq_true, decide_eq_true_eq] at h
    intro i hi
    rcases Nat.lt_or_ge i k with h1 | h1
    · exact ih h.1 i h1
    · obtain rfl : i = k := by omega
      exact h.2
/-- what the statement asks of sizes. -/
structure Full (room : Int) (l : List It) (s : List Int) : Prop where
  len : s.length = l.length
  lo : ∀ i, 0 ≤ s.getD i 0 ∧ s.getD i 0 ≤ 4294967296
  up : 0 ≤ room - psum (outs l) l.length - osum l l.length → ∀ i, i < l.length → ob l i ≤ s.getD i 0
  down : room - psum (outs l) l.length - osum l l.length ≤ 0 → ∀ i, i < l.length → s.getD i 0 ≤ ob l i
  fill : 0 < room - psum (outs l) l.length - osum l l.length ∧ growsAny l = true ∨ room - psum (outs l) l.length - osum l l.length < 0 ∧ shrinksAll l l.length = true ∧ osum l l.length ≤ room → psum s l.length + osum l l.length = room
  rest : room - psum (outs l) l.length - osum l l.length < 0 ∨ growsAny l = true ∨ psum s l.length = psum (outs l) l.length
theorem sizes_full {room : Int} {l : List It} (h : Small l) (h1 : -16777215 ≤ room) (h2 : room ≤ 16777215) (hl : l.length ≤ 40) : Full room l (sizes room l) := by
  have e := frees_eq h h1 h2 (k := l.length) (Nat.le_refl _) hl
  have b1 := psum_outs h (k := l.length)
  have b2 := osum_bd h (k := l.length)
  have hou : ∀ i, i < l.length → (outs l).getD i 0 = ob l i := fun i hi => outs_get hi
  unfold sizes
  rw [e]
  generalize hf : room - psum (outs l) l.length - osum l l.length = free at *
  by_cases c1 : 0 < free
  · rw [if_pos c1]
    have ht : tot free = free := by unfold tot clip; omega
    have hlen : (outs l).length = (share free (grws l)).length := by rw [share_length, outs_length, grws_length]
    have hS : ∀ i, 0 ≤ (share free (grws l)).getD i 0 ∧ (share free (grws l)).getD i 0 ≤ 4278190080 := fun i => by
      have k1 := share_lo free (grws l) (by rw [grws_length]; omega) i
      have k2 := share_tot free (grws l) (by rw [grws_length]; omega) i
      rw [ht] at k2
      omega
    have hO : ∀ i, 0 ≤ (outs l).getD i 0 ∧ (outs l).getD i 0 ≤ 4278190080 := fun i => by have := outs_small h i; omega
    have hsum : psum (zadd (outs l) (share free (grws l))) l.length = psum (outs l) l.length + psum (share free (grws l)) l.length := psum_zadd hlen (by decide) hO hS (by rw [outs_length]; exact Nat.le_refl _)
    have hps := share_psum free (grws l)
    rw [ht, grws_length] at hps
    have hany := anyp_wsum (grws l) l.length
    have hget : ∀ i, i < l.length → (zadd (outs l) (share free (grws l))).getD i 0 = ob l i + (share free (grws l)).getD i 0 := fun i hi => by
      rw [zadd_get hlen (by rw [outs_length]; exact hi), hou i hi]
      have k1 := hS i
      have k2 := ob_small h i
      unfold add sat
      omega
    refine ⟨by rw [zadd_length hlen, outs_length], fun i => ?_, fun _ i hi => ?_, fun h0 => by omega, fun hc => ?_, ?_⟩
    · rcases Nat.lt_or_ge i l.length with hi | hi
      · rw [hget i hi]
        have k1 := hS i
        have k2 := ob_small h i
        omega
      · rw [getD_out (by rw [zadd_length hlen, outs_length]; exact hi)]; omega
    · rw [hget i hi]; have := hS i; omega
    · rcases hc with hc | hc
      · rw [hsum, hps, if_neg (hany.1 hc.2)]; omega
      · omega
    · by_cases hg : growsAny l = true
      · exact .inr (.inl hg)
      · right; right
        have : wsum (grws l) l.length = 0 := by
          by_cases hw : wsum (grws l) l.length = 0
          · exact hw
          · exact absurd (hany.2 hw) hg
        rw [hsum, hps, if_pos this]; omega
  · rw [if_neg c1]
    by_cases c2 : free < 0
    · rw [if_pos c2]
      have hz : Sz 4294967296 (outs l) := fun i => by have := outs_small h i; omega
      have hz2 : Sz 70368744177664 (outs l) := fun i => by have := outs_small h i; omega
      obtain ⟨s1, s2⟩ := shr_le (by decide) l (by omega) (l.length + 1) (outs l) (List.replicate l.length false) (-free) (outs_length l) (by simp) hz
      refine ⟨s1, fun i => ?_, fun h0 => by omega, fun _ i hi => ?_, fun hc => ?_, .inl (by omega)⟩
      · have := s2 i; have := hz i; omega
      · have := s2 i; rw [hou i hi] at this; exact this.2
      · rcases hc with hc | ⟨_, hc, hr⟩
        · omega
        · have := shr_sum l (by omega) (shrinksAll_all hc) (l.length + 1) (outs l) (List.replicate l.length false) (-free) (outs_length l) (by simp) hz2
            (fun i hi => by simp [List.getD_eq_getElem?_getD, List.getElem?_replicate] at hi; split at hi <;> simp at hi) (by rw [loose_none]; omega) (by omega) (by omega) (by omega)
          rw [this]; omega
    · rw [if_neg c2]
      have : free = 0 := by omega
      refine ⟨outs_length l, fun i => ?_, fun _ i hi => by rw [hou i hi]; exact Int.le_refl _, fun _ i hi => by rw [hou i hi]; exact Int.le_refl _, fun hc => by omega, .inr (.inr rfl)⟩
      have := outs_small h i
      omega
end Num
end Go.Proofs.Yteghacdpfhohoaa
