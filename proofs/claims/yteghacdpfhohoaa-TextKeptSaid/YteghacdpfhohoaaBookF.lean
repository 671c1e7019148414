/-
  Books of records of several cells: what an Apart fills, with no program in sight.
-/
import Derived.Test.YteghacdpfhohoaaBookE
import Derived.Test.YteghacdpfhohoaaMid
namespace Go.Proofs.Yteghacdpfhohoaa
open Go.RowKit Num Mem
set_option linter.unusedVariables false
namespace Mem
/-- the room of v, where p says so, holds marks of sz cells each. -/
def FilledC (ty : TypeId) (sz B : Nat) (w : World) (v : Value) (p : Nat → Prop) (mk : Nat → List Value) : Prop :=
  ∃ A n c, v = .slice A n c ∧ n ≤ c ∧ c ≤ maxLen ∧ ((A = none ∧ n = 0 ∧ c = 0) ∨ ∃ b cur, A = some ⟨b, 0, none⟩ ∧ B ≤ b ∧ Blk w b ty cur ∧ cur.size = c * sz ∧ ∀ j, p j → j < c → ∀ i u, (mk j)[i]? = some u → cur[j * sz + i]? = some u)
theorem FilledC.map {ty : TypeId} {sz B : Nat} {w w' : World} {v : Value} {p p' : Nat → Prop} {mk : Nat → List Value} (h : FilledC ty sz B w v p mk) (hk : ∀ b, v.ownBlock = some b → B ≤ b → ∀ cs, Blk w b ty cs → Blk w' b ty cs) (hp : ∀ j, p' j → p j) : FilledC ty sz B w' v p' mk := by
  obtain ⟨A, n, c, rfl, h1, h2, h3⟩ := h
  refine ⟨A, n, c, rfl, h1, h2, h3.imp id fun ⟨b, cur, e, hb, hc, hs, hm⟩ => ⟨b, cur, e, hb, hk b (by rw [e]; rfl) hb _ hc, hs, fun j hj => hm j (hp j hj)⟩⟩
theorem filledC_own {ty : TypeId} {sz B n : Nat} {w : World} {v : Value} {xs : List Value} {mk : Nat → List Value} (h : w.ownsRow B ty sz v n xs) : FilledC ty sz B w v (fun _ => False) mk := by
  rcases h.2 with ⟨rfl, h0⟩ | ⟨g, cap, cur, rfl, hg, hh, hnc, hcm, hcs, _⟩
  · exact ⟨none, 0, 0, rfl, Nat.le_refl _, Nat.zero_le _, .inl ⟨rfl, rfl, rfl⟩⟩
  · exact ⟨_, n, cap, rfl, hnc, hcm, .inr ⟨g, cur, rfl, hg, hh, hcs, fun j hj => hj.elim⟩⟩
theorem two_ne {vs : List Value} {i k b n c : Nat} {v : Value} (hap : vs.Pairwise Two) (hi : i ≠ k) (hv : vs[i]? = some v) (hk : vs[k]? = some (.slice (some ⟨b, 0, none⟩) n c)) : v.ownBlock ≠ some b := by
  intro hb
  have h1 := (List.getElem?_eq_some_iff.1 hv).1
  have h2 := (List.getElem?_eq_some_iff.1 hk).1
  have e1 : vs[i] = v := (List.getElem?_eq_some_iff.1 hv).2
  have e2 : vs[k] = .slice (some ⟨b, 0, none⟩) n c := (List.getElem?_eq_some_iff.1 hk).2
  rw [List.pairwise_iff_getElem] at hap
  rcases Nat.lt_or_gt_of_ne hi with hlt | hlt
  · have := hap i k h1 h2 hlt
    rw [e1, e2] at this
    rcases this with ht | ht
    · rw [hb] at ht; cases ht
    · exact ht (by rw [hb]; rfl)
  · have := (hap k i h2 h1 hlt).symm
    rw [e1, e2] at this
    rcases this with ht | ht
    · rw [hb] at ht; cases ht
    · exact ht (by rw [hb]; rfl)
theorem fill_stepC {ty : TypeId} {sz B k q b n c : Nat} {w w' : World} {vs : List Value} {mk : Nat → Nat → List Value} (hsz : ∀ i j, (mk i j).length = sz) (hap : vs.Pairwise Two) (hk : vs[k]? = some (.slice (some ⟨b, 0, none⟩) n c)) (hq : q < c)
    {cur : Array Value} (hcur : Blk w b ty cur) (hnew : Blk w' b ty (cur.toList.take (q * sz) ++ mk k q ++ cur.toList.drop (q * sz + sz)).toArray) (hch : Chg b w w')
    (h : ∀ i v, vs[i]? = some v → FilledC ty sz B w v (fun j => i < k ∨ (i = k ∧ j < q)) (mk i)) :
    ∀ i v, vs[i]? = some v → FilledC ty sz B w' v (fun j => i < k ∨ (i = k ∧ j < q + 1)) (mk i) := by
  intro i v hv
  by_cases hi : i = k
  · subst hi
    rw [hk] at hv
    injection hv with hv
    subst hv
    obtain ⟨A, n', c', e, h1, h2, h3⟩ := h i _ hk
    injection e with e1 e2 e3
    subst e1 e2 e3
    refine ⟨_, _, _, rfl, h1, h2, .inr ?_⟩
    rcases h3 with ⟨h3, _⟩ | ⟨b', cur', e, hb, hc, hs, hm⟩
    · cases h3
    · injection e with e
      injection e with e _ _
      subst e
      have hcc : cur' = cur := by
        unfold Blk at hc hcur
        rw [hcur] at hc
        simp only [Option.some.injEq, Obj.cells.injEq] at hc
        exact hc.1.symm
      subst hcc
      have hlen : cur'.toList.length = c * sz := by simpa using hs
      have hqs : q * sz + sz ≤ c * sz := by
        have := Nat.mul_le_mul_right sz hq
        rwa [Nat.succ_mul] at this
      refine ⟨b, _, rfl, hb, hnew, ?_, fun j hj hjc i0 u hu => ?_⟩
      · simp only [List.size_toArray, List.length_append, List.length_take, List.length_drop, hsz, hlen]
        omega
      · have hi0 : i0 < sz := by
          have := (List.getElem?_eq_some_iff.1 hu).1
          rwa [hsz] at this
        rw [List.getElem?_toArray]
        by_cases hjq : j = q
        · subst hjq
          rw [List.append_assoc, List.getElem?_append_right (by simp; omega), List.length_take, Nat.min_eq_left (by omega), Nat.add_sub_cancel_left, List.getElem?_append_left (by rw [hsz]; exact hi0)]
          exact hu
        · have hjl : j < q := by omega
          have hjs : j * sz + sz ≤ q * sz := by
            have := Nat.mul_le_mul_right sz hjl
            rwa [Nat.succ_mul] at this
          rw [List.append_assoc, List.getElem?_append_left (by simp; omega), List.getElem?_take, if_pos (by omega), Array.getElem?_toList]
          exact hm j (by omega) hjc i0 u hu
  · refine (h i v hv).map (fun b' hb' _ cs hc => hc.chg hch ?_) (fun j hj => by omega)
    intro e
    subst e
    exact two_ne hap hi hv hk hb'
theorem fill_doneC {ty : TypeId} {sz B k m c : Nat} {w : World} {A : Option Addr} {vs : List Value} {mk : Nat → Nat → List Value} (hk : vs[k]? = some (.slice A m c))
    (h : ∀ i v, vs[i]? = some v → FilledC ty sz B w v (fun j => i < k ∨ (i = k ∧ j < c)) (mk i)) : ∀ i v, vs[i]? = some v → FilledC ty sz B w v (fun _ => i < k + 1) (mk i) := by
  intro i v hv
  obtain ⟨A', n', c', e, h1, h2, h3⟩ := h i v hv
  refine ⟨A', n', c', e, h1, h2, h3.imp id fun ⟨b, cur, e2, hb, hc, hs, hm⟩ => ⟨b, cur, e2, hb, hc, hs, fun j hj hjc => hm j ?_ hjc⟩⟩
  by_cases hi : i = k
  · subst hi
    rw [hk] at hv
    injection hv with hv
    rw [e] at hv
    injection hv with _ _ e3
    exact .inr ⟨rfl, by omega⟩
  · exact .inl (by omega)
theorem keep_chg {ty : TypeId} {w w' : World} {g B b : Nat} {cs : Array Value} (hc : Blk w b ty cs) (hb : B ≤ b) (hch : Chg b w w') : BookKeep ty w w' g B :=
  ⟨fun D _ h2 => hch.below (by omega), fun {k t cs'} hk _ ht => hk.chg hch (by
    rintro rfl
    unfold Blk at hk hc
    rw [hc] at hk
    simp only [Option.some.injEq, Obj.cells.injEq] at hk
    exact ht hk.2.1.symm), by rw [hch.size]; exact Nat.le_refl _⟩
end Mem
end Go.Proofs.Yteghacdpfhohoaa
