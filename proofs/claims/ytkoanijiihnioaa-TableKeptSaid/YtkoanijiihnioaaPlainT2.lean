/-
  Columns of tables, with no program in sight: how widths fill a room.
-/
import Derived.Test.YtkoanijiihnioaaPlainT
import Derived.Test.YtkoanijiihnioaaPlainM
namespace Go.Proofs.Ytkoanijiihnioaa
namespace Num
theorem leasts_get (l : List Nd) (i : Nat) : (leasts l).getD i 0 = (l.getD i nd0).least := by
  simp only [leasts, List.getD_eq_getElem?_getD, List.getElem?_map]
  cases l[i]? <;> rfl
theorem mosts_get (l : List Nd) (i : Nat) : (mosts l).getD i 0 = (l.getD i nd0).most := by
  simp only [mosts, List.getD_eq_getElem?_getD, List.getElem?_map]
  cases l[i]? <;> rfl
theorem wgts_get (l : List Nd) {i : Nat} (hi : i < l.length) : (wgts l).getD i 0 = wgt (l.getD i nd0) := by
  simp [wgts, List.getD_eq_getElem?_getD, hi]
theorem leasts_length (l : List Nd) : (leasts l).length = l.length := by simp [leasts]
theorem mosts_length (l : List Nd) : (mosts l).length = l.length := by simp [mosts]
theorem wgts_length (l : List Nd) : (wgts l).length = l.length := by simp [wgts]
theorem ones_length (n : Nat) : (ones n).length = n := by simp [ones]
/-- the sums part: then a weight is above 0. -/
theorem wsum_wgts {l : List Nd} (hle : ∀ i, (l.getD i nd0).least ≤ (l.getD i nd0).most) (h : psum (leasts l) l.length < psum (mosts l) l.length) : wsum (wgts l) (wgts l).length ≠ 0 := by
  have key : ∀ k, k ≤ l.length → psum (leasts l) k < psum (mosts l) k → 0 < wsum (wgts l) k := by
    intro k
    induction k with
    | zero => intro _ h; simp [psum] at h
    | succ k ih =>
      intro hk h
      simp only [psum, wsum] at h ⊢
      rw [leasts_get, mosts_get] at h
      rw [wgts_get l (by omega)]
      have h1 := wsum_lo (wgts l) k
      have h2 := wt_lo (wgt (l.getD k nd0))
      have h3 := hle k
      by_cases h4 : (l.getD k nd0).least < (l.getD k nd0).most
      · have : 0 < wt (wgt (l.getD k nd0)) := by
          unfold wt clip wgt
          have : 0 < ((l.getD k nd0).most - (l.getD k nd0).least + 63) / 64 := by omega
          omega
        omega
      · have := ih (by omega) (by omega)
        omega
  rw [wgts_length]
  have := key l.length (Nat.le_refl _) h
  omega
theorem wsum_ones {n : Nat} (h : 0 < n) : wsum (ones n) (ones n).length ≠ 0 := by
  obtain ⟨k, rfl⟩ : ∃ k, n = k + 1 := ⟨n - 1, by omega⟩
  rw [ones_length]
  simp only [wsum]
  have h1 := wsum_lo (ones (k + 1)) k
  have h2 : (ones (k + 1)).getD k 0 = 1 := by simp [ones, List.getD_eq_getElem?_getD]
  rw [h2]
  have : wt 1 = 1 := by decide
  omega
/-- widths: as many as columns, none narrower than its least; and their sum. -/
structure Filled (room : Int) (l : List Nd) (sure : Bool) (W : List Int) : Prop where
  len : W.length = l.length
  bnd : ∀ i, i < l.length → (l.getD i nd0).least ≤ W.getD i 0 ∧ W.getD i 0 ≤ 8589934592
  sum : psum W l.length = (if room ≤ psum (leasts l) l.length then psum (leasts l) l.length else if room ≤ psum (mosts l) l.length ∨ sure = true ∧ 0 < l.length then room else psum (mosts l) l.length)
theorem widths_filled {room : Int} {l : List Nd} {sure : Bool} (hb : Bet 16777216 l) (hle : ∀ i, (l.getD i nd0).least ≤ (l.getD i nd0).most) (hl : l.length ≤ 144) (h1 : -16777216 ≤ room) (h2 : room ≤ 16777216) : Filled room l sure (widths room l sure) := by
  have hA : ∀ i, 0 ≤ (leasts l).getD i 0 ∧ (leasts l).getD i 0 ≤ 16777216 := fun i => by rw [leasts_get]; have := hb i; omega
  have hB : ∀ i, 0 ≤ (mosts l).getD i 0 ∧ (mosts l).getD i 0 ≤ 16777216 := fun i => by rw [mosts_get]; have := hb i; omega
  obtain ⟨eA, bA⟩ := sums_psum hA (k := l.length) (by omega)
  obtain ⟨eB, bB⟩ := sums_psum hB (k := l.length) (by omega)
  have lA := psum_lo (fun i => (hA i).1) l.length
  have lB := psum_lo (fun i => (hB i).1) l.length
  unfold widths
  rw [eA, eB]
  by_cases c1 : room ≤ psum (leasts l) l.length
  · rw [if_pos c1]
    refine ⟨leasts_length l, fun i hi => ?_, by rw [if_pos c1]⟩
    have := hA i
    rw [leasts_get] at this ⊢
    omega
  · rw [if_neg c1]
    by_cases c2 : room ≤ psum (mosts l) l.length
    · rw [if_pos c2]
      have hs := wsum_wgts hle (by omega)
      have ht : tot (sub room (psum (leasts l) l.length)) = room - psum (leasts l) l.length := by unfold tot clip sub sat; omega
      have hS : ∀ i, 0 ≤ (share (sub room (psum (leasts l) l.length)) (wgts l)).getD i 0 ∧ (share (sub room (psum (leasts l) l.length)) (wgts l)).getD i 0 ≤ 4294967296 := fun i => by
        have k1 := share_lo (sub room (psum (leasts l) l.length)) (wgts l) (by rw [wgts_length]; omega) i
        have k2 := share_tot (sub room (psum (leasts l) l.length)) (wgts l) (by rw [wgts_length]; omega) i
        rw [ht] at k2
        omega
      have hlen : (leasts l).length = (share (sub room (psum (leasts l) l.length)) (wgts l)).length := by rw [share_length, leasts_length, wgts_length]
      refine ⟨by rw [zadd_length hlen, leasts_length], fun i hi => ?_, ?_⟩
      · rw [zadd_get hlen (by rw [leasts_length]; exact hi)]
        have k1 := hA i
        have k2 := hS i
        rw [leasts_get] at k1 ⊢
        generalize (share (sub room (psum (leasts l) l.length)) (wgts l)).getD i 0 = s at *
        unfold add sat
        omega
      · rw [if_neg c1, if_pos (.inl c2), psum_zadd (m := 4294967296) hlen (by decide) (fun i => by have := hA i; omega) hS (by rw [leasts_length]; omega)]
        have := share_sum (sub room (psum (leasts l) l.length)) (wgts l) hs
        rw [wgts_length, ht] at this
        omega
    · rw [if_neg c2]
      cases sure
      · simp only [Bool.false_eq_true, if_false]
        refine ⟨mosts_length l, fun i hi => ?_, by rw [if_neg c1, if_neg (by simp; omega)]⟩
        have := hB i
        have := hle i
        rw [mosts_get] at *
        omega
      · simp only [if_true]
        have ht : tot (sub room (psum (mosts l) l.length)) = room - psum (mosts l) l.length := by unfold tot clip sub sat; omega
        have hS : ∀ i, 0 ≤ (share (sub room (psum (mosts l) l.length)) (ones l.length)).getD i 0 ∧ (share (sub room (psum (mosts l) l.length)) (ones l.length)).getD i 0 ≤ 4294967296 := fun i => by
          have k1 := share_lo (sub room (psum (mosts l) l.length)) (ones l.length) (by rw [ones_length]; omega) i
          have k2 := share_tot (sub room (psum (mosts l) l.length)) (ones l.length) (by rw [ones_length]; omega) i
          rw [ht] at k2
          omega
        have hlen : (mosts l).length = (share (sub room (psum (mosts l) l.length)) (ones l.length)).length := by rw [share_length, mosts_length, ones_length]
        refine ⟨by rw [zadd_length hlen, mosts_length], fun i hi => ?_, ?_⟩
        · rw [zadd_get hlen (by rw [mosts_length]; exact hi)]
          have k1 := hB i
          have k2 := hS i
          have k3 := hle i
          rw [mosts_get] at k1 ⊢
          generalize (share (sub room (psum (mosts l) l.length)) (ones l.length)).getD i 0 = s at *
          unfold add sat
          omega
        · rw [if_neg c1, psum_zadd (m := 4294967296) hlen (by decide) (fun i => by have := hB i; omega) hS (by rw [mosts_length]; omega)]
          rcases Nat.eq_zero_or_pos l.length with h0 | h0
          · have c1' := c1
            have c2' := c2
            rw [h0] at c1' c2' ⊢
            simp only [psum] at c1' c2' ⊢
            rw [if_neg (by simp; omega)]
            rfl
          · rw [if_pos (.inr ⟨rfl, h0⟩)]
            have := share_sum (sub room (psum (mosts l) l.length)) (ones l.length) (wsum_ones h0)
            rw [ones_length, ht] at this
            omega
end Num
end Go.Proofs.Ytkoanijiihnioaa
