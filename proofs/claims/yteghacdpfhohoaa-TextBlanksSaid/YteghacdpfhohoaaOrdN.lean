/-
  As OrdM, where the last operation waits for another one by way of a third.
-/
import Derived.Test.YteghacdpfhohoaaOrdM
namespace Go.Proofs.Yteghacdpfhohoaa
namespace Ord
variable {P : Program} {ops : Array Oper} {Q : Exit → Act → World → Prop} {md : Region.Mode} {S : World → Prop}
/-- n waits for i, or for some m that is not yet listed and waits for i. -/
def lastBehind (md : Region.Mode) (ops : Array Oper) (n : Nat) (listed : Array Bool) (i : Nat) : Bool :=
  Region.waitsFor md ops n i || (List.range ops.size).any fun m => Region.waitsFor md ops n m && Region.waitsFor md ops m i && !listed.getD m true
theorem unready {j i : Nat} {listed : Array Bool} (hw : Region.waitsFor md ops j i = true) (hi : listed.getD i false = false) : j ∉ Region.ready md ops listed := fun hj => by
  obtain ⟨_, oj, hoj, hall⟩ := mem_ready.1 hj
  obtain ⟨oj', hoj', e, he, hb, hon⟩ := Region.waitsFor_spec hw
  rw [hoj] at hoj'
  obtain rfl := Option.some.inj hoj'
  have := hall e he hb
  rw [hon, hi] at this
  cases this
theorem not_ready {n i : Nat} {listed : Array Bool} (hl : Region.waitsFor md ops n i = true ∨ ∃ m, Region.waitsFor md ops n m = true ∧ Region.waitsFor md ops m i = true ∧ listed.getD m true = false) (hi : listed.getD i true = false) : n ∉ Region.ready md ops listed := by
  have hi' : ∀ k : Nat, listed.getD k true = false → listed.getD k false = false := fun k h => by
    rcases Nat.lt_or_ge k listed.size with h' | h'
    · simp [h'] at h ⊢; exact h
    · simp [Array.getElem?_eq_none h'] at h
  rcases hl with h | ⟨m, h1, h2, h3⟩
  · exact unready h (hi' _ hi)
  · exact unready h1 (hi' _ h3)
theorem first_N {n i : Nat} {oi : Oper} {v : Value} (hin : i ≠ n) (hi : ops[i]? = some oi) (hsel : ∀ (j : Nat) (o : Oper) cs b, ops[j]? = some o → o.op ≠ .select cs b)
    (hQ : ∀ c a w, Q (.panic c) (a.put oi.dst v) w → Q (.panic c) a w) :
    ∀ (fuel : Nat) (listed : Array Bool) (a : Act) (w : World),
      (Region.waitsFor md ops n i = true ∨ ∃ m, Region.waitsFor md ops n m = true ∧ Region.waitsFor md ops m i = true ∧ listed.getD m true = false) →
      (∀ j oj, ops[j]? = some oj → j ≠ i → listed.getD j true = false → (∀ e ∈ oj.after, Region.binds md e = true → e.on ≠ i) → oi.apart ops oj = true) →
      i ∈ Region.ready md ops listed → YieldsIf P ops S oi v a → S w →
      wpAnyM P md ops Q S n fuel (listed.setIfInBounds i true) (a.put oi.dst v) w → wpAnyM P md ops Q S n (fuel + 1) listed a w := by
  intro fuel
  induction fuel with
  | zero =>
    intro listed a w _ _ hr hy hS H
    refine ⟨fun h => (by rw [h] at hr; cases hr), fun j hj => ?_⟩
    by_cases hji : j = i
    · subst hji; exact hy.wpOp hi hS ⟨fun _ => hS, H⟩
    · have := ready_mono hj hji
      rw [H.1] at this
      cases this
  | succ fuel ih =>
    intro listed a w hl hfree hr hy hS H
    refine ⟨fun h => (by rw [h] at hr; cases hr), fun j hj => ?_⟩
    by_cases hji : j = i
    · subst hji; exact hy.wpOp hi hS ⟨fun _ => hS, H⟩
    · have h1 := H.2 j (ready_mono hj hji)
      obtain ⟨hjun, oj, hoj, hall⟩ := mem_ready.1 hj
      have hnot : ∀ e ∈ oj.after, Region.binds md e = true → e.on ≠ i := fun e he hb heq => by
        have h1 := hall e he hb
        have h0 := (mem_ready.1 hr).1
        rw [heq] at h1
        rcases Nat.lt_or_ge i listed.size with h' | h'
        · simp [h'] at h0 h1; rw [h0] at h1; cases h1
        · simp [Array.getElem?_eq_none h'] at h1
      have hjn : j ≠ n := by
        rintro rfl
        exact not_ready hl (mem_ready.1 hr).1 hj
      have h2 := wpOp_putIf hoj (hfree j oj hoj hji hjun hnot) (fun cs b => hsel i oi cs b hi) (fun cs b => hsel j oj cs b hoj) hQ hy h1
      have hfree' : ∀ k ok, ops[k]? = some ok → k ≠ i → (listed.setIfInBounds j true).getD k true = false →
          (∀ e ∈ ok.after, Region.binds md e = true → e.on ≠ i) → oi.apart ops ok = true := fun k ok hk hki hun hno => by
        refine hfree k ok hk hki ?_ hno
        by_cases hjk : j = k
        · subst hjk; exact hjun
        · rw [getD_set_ne true hjk] at hun; exact hun
      have hl' : Region.waitsFor md ops n i = true ∨ ∃ m, Region.waitsFor md ops n m = true ∧ Region.waitsFor md ops m i = true ∧ (listed.setIfInBounds j true).getD m true = false := by
        rcases hl with h | ⟨m, m1, m2, m3⟩
        · exact .inl h
        · refine .inr ⟨m, m1, m2, ?_⟩
          have hjm : j ≠ m := by
            rintro rfl
            exact not_ready (.inl m2) (mem_ready.1 hr).1 hj
          rw [getD_set_ne true hjm]
          exact m3
      refine wpOp_mono (fun a' w' h3 => ⟨fun _ => h3.2.1 hjn, ih (listed.setIfInBounds j true) a' w' hl' hfree' (ready_mono hr (Ne.symm hji)) h3.1 (h3.2.1 hjn) ?_⟩) h2
      rw [Array.setIfInBounds_comm _ _ hji]
      exact h3.2.2
def okN (md : Region.Mode) (ops : Array Oper) (n : Nat) : Tree → Array Bool → Bool
  | .nil, listed => Region.ready md ops listed == []
  | .one i true r, listed => i != n && lastBehind md ops n listed i && Region.free md ops listed i && (Region.ready md ops listed).contains i && okN md ops n r (listed.setIfInBounds i true)
  | .one i false r, listed => (Region.ready md ops listed == [i]) && (i != n || (match r with | .nil => true | _ => false)) && okN md ops n r (listed.setIfInBounds i true)
  | .two _ _ _ _, _ => false
theorem N_of_tree {n : Nat} {l : List Oper} (hs : Region.noSelect l.toArray = true) (hp : ∀ (c : _) (a : Act) (d : Option Tmp) (v : Value) (w : World), Q (.panic c) (a.put d v) w → Q (.panic c) a w) : ∀ (t : Tree) (fuel : Nat) (listed : Array Bool) (a : Act) (w : World),
    t.depth ≤ fuel → okN md l.toArray n t listed = true → (S w ∨ t = .nil) → wpM P l.toArray Q S n (layT l t) a w → wpAnyM P md l.toArray Q S n fuel listed a w := by
  intro t
  induction t with
  | nil =>
    intro fuel listed a w _ ho _ h
    have hr : Region.ready md l.toArray listed = [] := by simpa [okN] using ho
    cases fuel with
    | zero => exact ⟨hr, h⟩
    | succ fuel => exact ⟨fun _ => h, by rw [hr]; simp⟩
  | one i b r ih =>
    intro fuel listed a w hf ho hS h
    replace hS : S w := by rcases hS with hS | hS; exact hS; cases hS
    cases fuel with
    | zero => simp [Tree.depth] at hf
    | succ fuel =>
      have hf' : r.depth ≤ fuel := by simp [Tree.depth] at hf; omega
      cases hi : l[i]? with
      | none => cases b <;> simp [layT, hi, wpM] at h
      | some oi =>
        cases b with
        | true =>
          simp only [layT, hi, wpM] at h
          obtain ⟨v, hy, h⟩ := h
          simp only [okN, Bool.and_eq_true, bne_iff_ne] at ho
          have hi' : l.toArray[i]? = some oi := by simpa using hi
          have hlb : Region.waitsFor md l.toArray n i = true ∨ ∃ m, Region.waitsFor md l.toArray n m = true ∧ Region.waitsFor md l.toArray m i = true ∧ listed.getD m true = false := by
            have := ho.1.1.1.2
            unfold lastBehind at this
            rw [Bool.or_eq_true] at this
            rcases this with h1 | h1
            · exact .inl h1
            · rw [List.any_eq_true] at h1
              obtain ⟨m, _, hm⟩ := h1
              rw [Bool.and_eq_true, Bool.and_eq_true] at hm
              refine .inr ⟨m, hm.1.1, hm.1.2, ?_⟩
              have h3 := hm.2
              cases hx : listed.getD m true
              · rfl
              · rw [hx] at h3; cases h3
          exact first_N ho.1.1.1.1 hi' (Region.noSelect_spec hs) (fun c a w hq => hp c a _ _ w hq) fuel listed a w hlb (Region.free_spec hi' ho.1.1.2) (by simpa using ho.1.2) hy hS (ih fuel _ _ _ hf' ho.2 (.inl hS) h)
        | false =>
          simp only [layT, hi, wpM] at h
          simp only [okN, Bool.and_eq_true, beq_iff_eq] at ho
          refine ⟨fun h0 => (by rw [ho.1.1] at h0; cases h0), fun j hj => ?_⟩
          rw [ho.1.1] at hj
          have : j = i := by simpa using hj
          subst this
          refine wpOp_mono (fun a' w' hh => ⟨hh.1, ih fuel _ _ _ hf' ho.2 ?_ hh.2⟩) h
          by_cases hjn : j = n
          · right
            have h2 := ho.1.2
            simp only [hjn, bne_self_eq_false, Bool.false_or] at h2
            cases r <;> first | rfl | cases h2
          · exact .inl (hh.1 hjn)
  | two i r j s ih1 ih2 => intro fuel listed a w hf ho; cases ho
theorem region_N {id : Nat} {l : List Oper} {a : Act} {w : World} (n : Nat) (t : Tree) (hm : P.follows .mixedOrders = true) (hs : Region.noSelect l.toArray = true)
    (hB : okN .any l.toArray n t (Array.replicate l.toArray.size false) = true) (hd : t.depth ≤ l.toArray.size) (hp : ∀ (c : _) (a : Act) (d : Option Tmp) (v : Value) (w : World), Q (.panic c) (a.put d v) w → Q (.panic c) a w) (hS : S w.drew)
    (h : S w.drew → wpM P l.toArray Q S n (layT l t) a w.drew) : (Code.region id l.toArray true).wp P Q a w :=
  wp_region_any hm (any_of_M _ _ _ _ (N_of_tree hs hp t _ _ _ _ hd hB (.inl hS) (h hS)))
end Ord
end Go.Proofs.Yteghacdpfhohoaa
