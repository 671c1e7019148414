/-
  Chapter 15's runs, with no program in sight: one beside the other.
-/
import Derived.Test.YtebolanengnpfaaLinesD
namespace Go.Proofs.Ytebolanengnpfaa
namespace Num
/-- breaks have no width. -/
def Bare (l : List Pc) : Prop := ∀ p ∈ l, p.kind = 3 → p.width = 0
/-- the next run. -/
theorem runs_next {bt : Int} {P : List Pc} (hb : Bare P) : ∀ (d : Nat) {j z : Nat} {n : Int} {y : Rn} {t : List Rn}, z - j = d → z ≤ P.length → runs bt (cut P j z) j n = y :: t →
    ∃ (q : Nat) (p : Pc), j ≤ q ∧ q < z ∧ P[q]? = some p ∧ y = ⟨q, n, sub bt p.height, p.width, p.height⟩ ∧ t = runs bt (cut P (q + 1) z) (q + 1) (add n p.width) ∧ sumP (cut P j z) = p.width + sumP (cut P (q + 1) z) := by
  intro d
  induction d with
  | zero =>
    intro j z n y t hd hz h
    rw [cut_nil P (by omega)] at h
    simp [runs] at h
  | succ d ih =>
    intro j z n y t hd hz h
    obtain ⟨p, hp, hc⟩ := cut_cons P (i := j) (j := z) (by omega) hz
    rw [hc, runs] at h
    by_cases h3 : p.kind = 3
    · rw [if_pos h3] at h
      obtain ⟨q, p', h1, h2, h4, h5, h6, h7⟩ := ih (j := j + 1) (by omega) hz h
      refine ⟨q, p', by omega, h2, h4, h5, h6, ?_⟩
      rw [hc, sumP, hb p (List.mem_of_getElem? hp) h3, h7]
      omega
    · rw [if_neg h3] at h
      injection h with e1 e2
      exact ⟨j, p, Nat.le_refl _, by omega, hp, e1.symm, e2.symm, by rw [hc, sumP]⟩
theorem runs_none {bt : Int} {P : List Pc} (hb : Bare P) : ∀ (d : Nat) {j z : Nat} {n : Int}, z - j = d → z ≤ P.length → runs bt (cut P j z) j n = [] → sumP (cut P j z) = 0 := by
  intro d
  induction d with
  | zero =>
    intro j z n hd hz h
    rw [cut_nil P (by omega)]
    rfl
  | succ d ih =>
    intro j z n hd hz h
    obtain ⟨p, hp, hc⟩ := cut_cons P (i := j) (j := z) (by omega) hz
    rw [hc, runs] at h
    by_cases h3 : p.kind = 3
    · rw [if_pos h3] at h
      have := ih (j := j + 1) (by omega) hz h
      rw [hc, sumP, hb p (List.mem_of_getElem? hp) h3, this]
      rfl
    · rw [if_neg h3] at h; cases h
theorem sumP_bd {l : List Pc} (h : Wide24 l) : 0 ≤ sumP l ∧ sumP l ≤ 16777216 * l.length := by
  induction l with
  | nil => simp [sumP]
  | cons p t ih =>
    have h1 := h p (by simp)
    have := ih (fun q hq => h q (by simp [hq]))
    simp only [sumP, List.length_cons, Int.natCast_add, Int.cast_ofNat_Int]
    omega
/-- heights below 2^24. -/
def High24 (l : List Pc) : Prop := ∀ p ∈ l, 0 ≤ p.height ∧ p.height < 16777216
theorem high_bd {l : List Pc} (h : High24 l) : ∀ {n : Int}, 0 ≤ n → n < 16777216 → 0 ≤ high n l ∧ high n l < 16777216 := by
  induction l with
  | nil => intro n h1 h2; exact ⟨h1, h2⟩
  | cons p t ih =>
    intro n h1 h2
    have := h p (by simp)
    exact ih (fun q hq => h q (by simp [hq])) (by omega) (by omega)
theorem cut_mem {l : List Pc} {i j : Nat} {p : Pc} (h : p ∈ cut l i j) : p ∈ l := List.mem_of_mem_take (List.mem_of_mem_drop h)
/-- a line's width and height. -/
theorem first_bd {room : Int} {P : List Pc} (hw : Wide24 P) (hh : High24 P) (h80 : P.length ≤ 80) (i : Nat) :
    (first room 0 P i).width = sumP (cut P (wideA P i (stop room P i)) (wideB P i (stop room P i))) ∧ 0 ≤ (first room 0 P i).width ∧ (first room 0 P i).width ≤ 1342177280 ∧ 0 ≤ (first room 0 P i).height ∧ (first room 0 P i).height < 16777216 := by
  have hl : ∀ a b, (cut P a b).length ≤ 80 := fun a b => by unfold cut; simp; omega
  have h1 : (first room 0 P i).width = sumP (cut P (wideA P i (stop room P i)) (wideB P i (stop room P i))) := by
    show wides 0 _ = _
    rw [wides_sum _ (Int.le_refl 0) (hw.cut _ _) (by have := hl (wideA P i (stop room P i)) (wideB P i (stop room P i)); omega)]
    omega
  have h2 := sumP_bd (hw.cut (wideA P i (stop room P i)) (wideB P i (stop room P i)))
  have h3 := hl (wideA P i (stop room P i)) (wideB P i (stop room P i))
  have h4 := high_bd (l := cut P i (stop room P i)) (fun p hp => hh p (cut_mem hp)) (n := 0) (by omega) (by omega)
  refine ⟨h1, by rw [h1]; omega, by rw [h1]; omega, h4.1, h4.2⟩
theorem prt_half {a : Int} (h1 : 0 ≤ a) (h2 : a ≤ 16777216) : prt a 1 2 = a / 2 := by
  unfold prt
  rw [show sat a = a from sat_id (by omega) (by omega), show clip 1 0 65536 = 1 by decide, show clip 2 1 65536 = 2 by decide, Int.mul_one]
  exact sat_id (by omega) (by omega)
theorem begin_bd {X W wd : Int} (align : Int) (hX : 0 ≤ X ∧ X < 16777216) (hW : 0 ≤ W ∧ W < 16777216) (hwd : 0 ≤ wd ∧ wd ≤ 1342177280) :
    0 ≤ begin_ X W wd align ∧ begin_ X W wd align ≤ 33554432 ∧ (align = 1 → wd ≤ W → begin_ X W wd align = X + (W - wd)) ∧ (align = 0 → begin_ X W wd align = X) := by
  have hs : sub W wd = W - wd := by unfold sub; rw [show sat W = W from sat_id (by omega) (by omega), show sat wd = wd from sat_id (by omega) (by omega)]; exact sat_id (by omega) (by omega)
  have hx : sat X = X := sat_id (by omega) (by omega)
  have ha : ∀ a, 0 ≤ a → a ≤ 16777216 → add X a = X + a := fun a h1 h2 => by unfold add; rw [hx, show sat a = a from sat_id (by omega) (by omega)]; exact sat_id (by omega) (by omega)
  unfold begin_
  rw [hs, hx]
  by_cases h1 : align = 1
  · rw [if_pos h1, ha _ (by omega) (by omega)]
    exact ⟨by omega, by omega, fun _ h => by omega, fun h => by omega⟩
  · rw [if_neg h1]
    by_cases h2 : align = 2
    · rw [if_pos h2, prt_half (by omega) (by omega), ha _ (by omega) (by omega)]
      exact ⟨by omega, by omega, fun h => absurd h h1, fun h => by omega⟩
    · rw [if_neg h2]
      exact ⟨by omega, by omega, fun h => absurd h h1, fun _ => rfl⟩
end Num
end Go.Proofs.Ytebolanengnpfaa
