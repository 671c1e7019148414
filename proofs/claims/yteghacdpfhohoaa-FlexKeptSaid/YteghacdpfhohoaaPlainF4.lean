/-
  A row laid out, with no program in sight: where things begin.
-/
import Derived.Test.YteghacdpfhohoaaPlainF2
import Derived.Test.YteghacdpfhohoaaFlexE
namespace Go.Proofs.Yteghacdpfhohoaa
namespace Num
theorem psum_at {m : Int} {s : List Int} (h : ∀ i, 0 ≤ s.getD i 0 ∧ s.getD i 0 ≤ m) (k : Nat) : 0 ≤ psum s k ∧ psum s k ≤ m * k := by
  induction k with
  | zero => simp [psum]
  | succ k ih =>
    have := h k
    simp only [psum, Int.natCast_add, Int.mul_add]
    omega
theorem lefts_eq {room : Int} {l : List It} {s : List Int} (h : Small l) (hs : ∀ i, 0 ≤ s.getD i 0 ∧ s.getD i 0 ≤ 4294967296) (h1 : -16777215 ≤ room) (h2 : room ≤ 16777215) {k : Nat} (hk2 : k ≤ 40) : lefts room l s k = room - psum s k - osum l k := by
  induction k with
  | zero => simp [lefts, psum, osum]
  | succ k ih =>
    have e := ih (by omega)
    have b1 := psum_at hs k
    have b2 := osum_bd h (k := k)
    have b3 := hs k
    have b4 := h k
    simp only [lefts, psum, osum]
    rw [e]
    unfold sub sat
    omega
theorem ats_eq {a : Int} {l : List It} {s g : List Int} (h : Small l) (hs : ∀ i, 0 ≤ s.getD i 0 ∧ s.getD i 0 ≤ 4294967296) (hg : ∀ i, 0 ≤ g.getD i 0 ∧ g.getD i 0 ≤ 4294967296) (h1 : 0 ≤ a) (h2 : a ≤ 274877906944) {k : Nat} (hk2 : k ≤ 40) : ats a l s g k = a + psum s k + osum l k + psum g k := by
  induction k with
  | zero => simp [ats, psum, osum]
  | succ k ih =>
    have e := ih (by omega)
    have b1 := psum_at hs k
    have b2 := osum_bd h (k := k)
    have b3 := hs k
    have b4 := h k
    have b5 := psum_at hg k
    have b6 := hg k
    simp only [ats, psum, osum]
    rw [e]
    split
    · unfold add sat
      omega
    · rename_i hc
      rw [getD_out (x := g) (by omega)]
      unfold add sat
      omega
theorem prt_half {n : Int} (h1 : 0 ≤ n) (h2 : n ≤ 70368744177664) : prt n 1 2 = n / 2 := by
  have e : sat n = n := by unfold sat; omega
  unfold prt
  rw [e]
  have c1 : clip 1 0 65536 = 1 := by decide
  have c2 : clip 2 1 65536 = 2 := by decide
  rw [c1, c2, Int.mul_one]
  unfold sat
  omega
theorem plcs_get (a : Int) (l : List It) (s g : List Int) : ∀ (n k : Nat), k < n → (plcs a l s g n)[k]? = some ⟨ats a l s g k, s.getD k 0⟩ := by
  intro n
  induction n with
  | zero => intro k h; omega
  | succ n ih =>
    intro k h
    simp only [plcs, List.getElem?_append, plcs_length]
    by_cases h1 : k < n
    · rw [if_pos h1, ih k h1]
    · obtain rfl : k = n := by omega
      rw [if_neg h1]
      simp
def sp0 : Sp := ⟨0, 0⟩
/-- what the statements ask of places. -/
structure Laid (room : Int) (l : List It) (just : Int) (P : List Sp) : Prop where
  len : P.length = l.length
  /-- sizes, what stands round them, and what is left -/
  ex : ∃ (a left : Int) (s g : List Int), (∀ i, 0 ≤ s.getD i 0 ∧ s.getD i 0 ≤ 4294967296) ∧ (∀ i, 0 ≤ g.getD i 0 ∧ g.getD i 0 ≤ 4294967296) ∧ left = room - psum s l.length - osum l l.length ∧ 0 ≤ a ∧ a ≤ 274877906944 ∧
    (∀ k, k < l.length → P.getD k sp0 = ⟨a + psum s k + osum l k + psum g k, s.getD k 0⟩) ∧
    (just ≠ 3 → ∀ i, g.getD i 0 = 0) ∧ (∀ i j, i + 1 < l.length → j + 1 < l.length → g.getD i 0 ≤ g.getD j 0 + 1) ∧
    (left ≤ 0 → a = 0) ∧ (0 < left → just = 1 → a = left) ∧ (0 < left → just = 2 → a = left / 2) ∧ (just ≠ 1 → just ≠ 2 → a = 0) ∧
    (0 < left → just = 3 → 1 < l.length → psum g (l.length - 1) = left)
theorem places_laid {room : Int} {l : List It} {just : Int} (h : Small l) (h1 : -16777215 ≤ room) (h2 : room ≤ 16777215) (hl : l.length ≤ 40) : Laid room l just (places room l just) := by
  have hF := sizes_full h h1 h2 hl
  refine ⟨plcs_length _ _ _ _ _, ?_⟩
  unfold places
  generalize sizes room l = s at *
  have hs := hF.lo
  have e := lefts_eq h hs h1 h2 hl
  have b1 := psum_at hs l.length
  have b2 := osum_bd h (k := l.length)
  have hlf : lft room l s = max (room - psum s l.length - osum l l.length) 0 := by unfold lft; rw [e]
  obtain ⟨left, hleft⟩ : ∃ left, room - psum s l.length - osum l l.length = left := ⟨_, rfl⟩
  rw [hleft] at hlf
  have hb : left ≤ 1073741824 := by omega
  obtain ⟨lf, hlf2⟩ : ∃ lf, lft room l s = lf := ⟨_, rfl⟩
  rw [hlf2] at hlf ⊢
  have hlf0 : 0 ≤ lf := by omega
  have hlf1 : lf ≤ 1073741824 := by omega
  have ht : tot lf = lf := by unfold tot clip; omega
  have ha : 0 ≤ at0 lf just ∧ at0 lf just ≤ 274877906944 := by
    unfold at0
    split
    · omega
    · split
      · rw [prt_half hlf0 (by omega)]; omega
      · omega
  have hon : (onesL (l.length - 1)).length = l.length - 1 := by simp [onesL]
  have hg : ∀ i, 0 ≤ (gapsOf lf just l.length).getD i 0 ∧ (gapsOf lf just l.length).getD i 0 ≤ 4294967296 := by
    intro i
    unfold gapsOf
    split
    · have k1 := share_lo lf (onesL (l.length - 1)) (by rw [hon]; omega) i
      have k2 := share_tot lf (onesL (l.length - 1)) (by rw [hon]; omega) i
      rw [ht] at k2
      omega
    · simp only [List.getD_eq_getElem?_getD, List.getElem?_replicate]
      split <;> simp
  refine ⟨at0 lf just, left, s, gapsOf lf just l.length, hs, hg, hleft.symm, ha.1, ha.2, fun k hk => ?_, fun hj i => ?_, fun i j hi hj => ?_, fun hz => ?_, fun hz hj => ?_, fun hz hj => ?_, fun hj1 hj2 => ?_, fun hz hj hn => ?_⟩
  · rw [List.getD_eq_getElem?_getD, plcs_get _ _ _ _ _ _ hk, Option.getD_some, ats_eq h hs hg ha.1 ha.2 (by omega)]
  · unfold gapsOf
    rw [if_neg (fun hc => hj hc.1)]
    simp only [List.getD_eq_getElem?_getD, List.getElem?_replicate]
    split <;> simp
  · unfold gapsOf
    split
    · refine share_even lf (onesL (l.length - 1)) (by rw [hon]; omega) (by rw [hon]; omega) ?_
      simp [onesL, List.getD_eq_getElem?_getD, show i < l.length - 1 by omega, show j < l.length - 1 by omega]
    · simp only [List.getD_eq_getElem?_getD, List.getElem?_replicate]
      split <;> split <;> simp
  · have : lf = 0 := by omega
    subst this
    unfold at0
    split
    · rfl
    · split
      · rw [prt_half (by omega) (by omega)]; rfl
      · rfl
  · subst hj
    have : lf = left := by omega
    subst this
    rfl
  · subst hj
    have : lf = left := by omega
    subst this
    exact prt_half hlf0 (by omega)
  · unfold at0
    rw [if_neg hj1, if_neg hj2]
  · subst hj
    have : lf = left := by omega
    subst this
    unfold gapsOf
    rw [if_pos ⟨rfl, hn⟩]
    have hw : wsum (onesL (l.length - 1)) (onesL (l.length - 1)).length ≠ 0 := by
      obtain ⟨k, hk⟩ : ∃ k, l.length - 1 = k + 1 := ⟨l.length - 2, by omega⟩
      rw [hon, hk]
      simp only [wsum]
      have h1 := wsum_lo (onesL (k + 1)) k
      have h2 : (onesL (k + 1)).getD k 0 = 1 := by simp [onesL, List.getD_eq_getElem?_getD]
      rw [h2]
      have : wt 1 = 1 := by decide
      omega
    have := share_sum lf (onesL (l.length - 1)) hw
    rw [hon, ht] at this
    exact this
theorem across_end {room outer size : Int} {st : Bool} (h1 : -16777215 ≤ room) (h2 : room ≤ 16777215) (h3 : -16777215 ≤ outer) (h4 : outer ≤ 16777215) (h5 : -16777215 ≤ size) (h6 : size ≤ 16777215) : across room outer size 1 st = ⟨room - outer - size, size⟩ := by
  unfold across
  rw [if_neg (by simp), if_pos rfl]
  unfold sub sat
  simp only [Sp.mk.injEq, and_true]
  omega
end Num
end Go.Proofs.Yteghacdpfhohoaa
