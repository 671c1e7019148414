/-
  A region that draws its order, whose last operation waits for all others: behind that one the condition on the world need not hold.
-/
import Derived.Test.YteghacdpfhohoaaOrdT
import Derived.StillTail
namespace Go.Proofs.Yteghacdpfhohoaa
namespace Ord
variable {P : Program} {ops : Array Oper} {Q : Exit → Act → World → Prop} {md : Region.Mode} {S : World → Prop}
/-- does this operation wait for every other one? -/
def waitsAll (md : Region.Mode) (ops : Array Oper) (n : Nat) : Bool := (List.range ops.size).all fun k => k == n || Region.waitsFor md ops n k
def wpAnyM (P : Program) (md : Region.Mode) (ops : Array Oper) (Q : Exit → Act → World → Prop) (S : World → Prop) (n : Nat) : Nat → Array Bool → Act → World → Prop
  | 0, listed, a, w => Region.ready md ops listed = [] ∧ Q .normal a w
  | fuel + 1, listed, a, w => (Region.ready md ops listed = [] → Q .normal a w) ∧
    ∀ i ∈ Region.ready md ops listed, wpOp P ops Q i (fun a' w' => (i ≠ n → S w') ∧ wpAnyM P md ops Q S n fuel (listed.setIfInBounds i true) a' w') a w
theorem any_of_M {n : Nat} : ∀ (fuel : Nat) (listed : Array Bool) (a : Act) (w : World), wpAnyM P md ops Q S n fuel listed a w → wpAny P md ops Q fuel listed a w
  | 0, _, _, _, h => h
  | fuel + 1, _, _, _, h => ⟨h.1, fun i hi => wpOp_mono (fun a' w' h' => any_of_M fuel _ a' w' h'.2) (h.2 i hi)⟩
theorem first_M {n i : Nat} {oi : Oper} {v : Value} (hn : waitsAll md ops n = true) (hin : i ≠ n) (hi : ops[i]? = some oi) (hsel : ∀ (j : Nat) (o : Oper) cs b, ops[j]? = some o → o.op ≠ .select cs b)
    (hQ : ∀ c a w, Q (.panic c) (a.put oi.dst v) w → Q (.panic c) a w) :
    ∀ (fuel : Nat) (listed : Array Bool) (a : Act) (w : World),
      (∀ j oj, ops[j]? = some oj → j ≠ i → listed.getD j true = false → (∀ e ∈ oj.after, Region.binds md e = true → e.on ≠ i) → oi.apart ops oj = true) →
      i ∈ Region.ready md ops listed → YieldsIf P ops S oi v a → S w →
      wpAnyM P md ops Q S n fuel (listed.setIfInBounds i true) (a.put oi.dst v) w → wpAnyM P md ops Q S n (fuel + 1) listed a w := by
  intro fuel
  induction fuel with
  | zero =>
    intro listed a w _ hr hy hS H
    refine ⟨fun h => (by rw [h] at hr; cases hr), fun j hj => ?_⟩
    by_cases hji : j = i
    · subst hji; exact hy.wpOp hi hS ⟨fun _ => hS, H⟩
    · have := ready_mono hj hji
      rw [H.1] at this
      cases this
  | succ fuel ih =>
    intro listed a w hfree hr hy hS H
    refine ⟨fun h => (by rw [h] at hr; cases hr), fun j hj => ?_⟩
    by_cases hji : j = i
    · subst hji; exact hy.wpOp hi hS ⟨fun _ => hS, H⟩
    · have h1 := H.2 j (ready_mono hj hji)
      obtain ⟨hjun, oj, hoj, hall⟩ := mem_ready.1 hj
      have hnot : ∀ e ∈ oj.after, Region.binds md e = true → e.on ≠ i := fun e he hb heq => by
        have h1 := hall e he hb
        have h0 := (mem_ready.1 hr).1
        rw [heq] at h1
        rcases Nat.lt_or_ge i listed.size with h' | h'
        · simp [h'] at h0 h1; rw [h0] at h1; cases h1
        · simp [Array.getElem?_eq_none h'] at h1
      have hjn : j ≠ n := by
        rintro rfl
        unfold waitsAll at hn
        rw [List.all_eq_true] at hn
        have hlt : i < ops.size := (Array.getElem?_eq_some_iff.1 hi).1
        have hw := hn i (List.mem_range.2 hlt)
        simp only [Bool.or_eq_true, beq_iff_eq] at hw
        rcases hw with hw | hw
        · exact hin hw
        · obtain ⟨oj', hoj', e, he, hb, hon⟩ := Region.waitsFor_spec hw
          rw [hoj] at hoj'
          obtain rfl := Option.some.inj hoj'
          exact hnot e he hb hon
      have h2 := wpOp_putIf hoj (hfree j oj hoj hji hjun hnot) (fun cs b => hsel i oi cs b hi) (fun cs b => hsel j oj cs b hoj) hQ hy h1
      have hfree' : ∀ k ok, ops[k]? = some ok → k ≠ i → (listed.setIfInBounds j true).getD k true = false →
          (∀ e ∈ ok.after, Region.binds md e = true → e.on ≠ i) → oi.apart ops ok = true := fun k ok hk hki hun hno => by
        refine hfree k ok hk hki ?_ hno
        by_cases hjk : j = k
        · subst hjk; exact hjun
        · rw [getD_set_ne true hjk] at hun; exact hun
      refine wpOp_mono (fun a' w' h3 => ⟨fun _ => h3.2.1 hjn, ih (listed.setIfInBounds j true) a' w' hfree' (ready_mono hr (Ne.symm hji)) h3.1 (h3.2.1 hjn) ?_⟩) h2
      rw [Array.setIfInBounds_comm _ _ hji]
      exact h3.2.2
/-- the walk by a tree; behind the last operation nothing is asked of the world. -/
def wpM (P : Program) (ops : Array Oper) (Q : Exit → Act → World → Prop) (S : World → Prop) (n : Nat) : Lay → Act → World → Prop
  | .nil, a, w => Q .normal a w
  | .one _ (some oi) true r, a, w => ∃ v, YieldsIf P ops S oi v a ∧ wpM P ops Q S n r (a.put oi.dst v) w
  | .one i (some _) false r, a, w => wpOp P ops Q i (fun a' w' => (i ≠ n → S w') ∧ wpM P ops Q S n r a' w') a w
  | .two i (some _) r j (some _) s, a, w => wpOp P ops Q i (fun a' w' => (i ≠ n → S w') ∧ wpM P ops Q S n r a' w') a w ∧ wpOp P ops Q j (fun a' w' => (j ≠ n → S w') ∧ wpM P ops Q S n s a' w') a w
  | _, _, _ => False
/-- as okT, the last operation comes last and alone. -/
def okM (md : Region.Mode) (ops : Array Oper) (n : Nat) : Tree → Array Bool → Bool
  | .nil, listed => Region.ready md ops listed == []
  | .one i true r, listed => i != n && Region.free md ops listed i && (Region.ready md ops listed).contains i && okM md ops n r (listed.setIfInBounds i true)
  | .one i false r, listed => (Region.ready md ops listed == [i]) && (i != n || (match r with | .nil => true | _ => false)) && okM md ops n r (listed.setIfInBounds i true)
  | .two i r j s, listed => i != n && j != n && (Region.ready md ops listed == [i, j]) && okM md ops n r (listed.setIfInBounds i true) && okM md ops n s (listed.setIfInBounds j true)
theorem M_of_tree {n : Nat} {l : List Oper} (hn : waitsAll md l.toArray n = true) (hs : Region.noSelect l.toArray = true) (hp : ∀ (c : _) (a : Act) (d : Option Tmp) (v : Value) (w : World), Q (.panic c) (a.put d v) w → Q (.panic c) a w) : ∀ (t : Tree) (fuel : Nat) (listed : Array Bool) (a : Act) (w : World),
    t.depth ≤ fuel → okM md l.toArray n t listed = true → (S w ∨ t = .nil) → wpM P l.toArray Q S n (layT l t) a w → wpAnyM P md l.toArray Q S n fuel listed a w := by
  intro t
  induction t with
  | nil =>
    intro fuel listed a w _ ho _ h
    have hr : Region.ready md l.toArray listed = [] := by simpa [okM] using ho
    cases fuel with
    | zero => exact ⟨hr, h⟩
    | succ fuel => exact ⟨fun _ => h, by rw [hr]; simp⟩
  | one i b r ih =>
    intro fuel listed a w hf ho hS h
    replace hS : S w := by rcases hS with hS | hS; exact hS; cases hS
    cases fuel with
    | zero => simp [Tree.depth] at hf
    | succ fuel =>
      have hf' : r.depth ≤ fuel := by simp [Tree.depth] at hf; omega
      cases hi : l[i]? with
      | none => cases b <;> simp [layT, hi, wpM] at h
      | some oi =>
        cases b with
        | true =>
          simp only [layT, hi, wpM] at h
          obtain ⟨v, hy, h⟩ := h
          simp only [okM, Bool.and_eq_true, bne_iff_ne] at ho
          have hi' : l.toArray[i]? = some oi := by simpa using hi
          exact first_M hn ho.1.1.1 hi' (Region.noSelect_spec hs) (fun c a w hq => hp c a _ _ w hq) fuel listed a w (Region.free_spec hi' ho.1.1.2) (by simpa using ho.1.2) hy hS (ih fuel _ _ _ hf' ho.2 (.inl hS) h)
        | false =>
          simp only [layT, hi, wpM] at h
          simp only [okM, Bool.and_eq_true, beq_iff_eq] at ho
          refine ⟨fun h0 => (by rw [ho.1.1] at h0; cases h0), fun j hj => ?_⟩
          rw [ho.1.1] at hj
          have : j = i := by simpa using hj
          subst this
          refine wpOp_mono (fun a' w' hh => ⟨hh.1, ih fuel _ _ _ hf' ho.2 ?_ hh.2⟩) h
          by_cases hjn : j = n
          · right
            have h2 := ho.1.2
            simp only [hjn, bne_self_eq_false, Bool.false_or] at h2
            cases r <;> first | rfl | cases h2
          · exact .inl (hh.1 hjn)
  | two i r j s ih1 ih2 =>
    intro fuel listed a w hf ho hS h
    cases fuel with
    | zero => simp [Tree.depth] at hf
    | succ fuel =>
      have hf1 : r.depth ≤ fuel := by simp [Tree.depth] at hf; omega
      have hf2 : s.depth ≤ fuel := by simp [Tree.depth] at hf; omega
      cases hi : l[i]? with
      | none => cases hj : l[j]? <;> simp [layT, hi, hj, wpM] at h
      | some oi =>
        cases hj : l[j]? with
        | none => simp [layT, hi, hj, wpM] at h
        | some oj =>
          simp only [layT, hi, hj, wpM] at h
          simp only [okM, Bool.and_eq_true, beq_iff_eq, bne_iff_ne] at ho
          obtain ⟨⟨⟨⟨n1, n2⟩, hr⟩, o1⟩, o2⟩ := ho
          refine ⟨fun h0 => (by rw [hr] at h0; cases h0), fun k hk => ?_⟩
          rw [hr] at hk
          have hk' : k = i ∨ k = j := by simpa using hk
          rcases hk' with rfl | rfl
          · exact wpOp_mono (fun a' w' hh => ⟨hh.1, ih1 fuel _ _ _ hf1 o1 (.inl (hh.1 n1)) hh.2⟩) h.1
          · exact wpOp_mono (fun a' w' hh => ⟨hh.1, ih2 fuel _ _ _ hf2 o2 (.inl (hh.1 n2)) hh.2⟩) h.2
theorem region_M {id : Nat} {l : List Oper} {a : Act} {w : World} (n : Nat) (t : Tree) (hm : P.follows .mixedOrders = true) (hs : Region.noSelect l.toArray = true) (hn : waitsAll .any l.toArray n = true)
    (hB : okM .any l.toArray n t (Array.replicate l.toArray.size false) = true) (hd : t.depth ≤ l.toArray.size) (hp : ∀ (c : _) (a : Act) (d : Option Tmp) (v : Value) (w : World), Q (.panic c) (a.put d v) w → Q (.panic c) a w) (hS : S w.drew)
    (h : S w.drew → wpM P l.toArray Q S n (layT l t) a w.drew) : (Code.region id l.toArray true).wp P Q a w :=
  wp_region_any hm (any_of_M _ _ _ _ (M_of_tree hn hs hp t _ _ _ _ hd hB (.inl hS) (h hS)))
theorem takeM {n i : Nat} {r : Lay} {a : Act} {w : World} {oi : Oper} {v : Value} (hy : YieldsIf P ops S oi v a) (h : wpM P ops Q S n r (a.put oi.dst v) w) : wpM P ops Q S n (.one i (some oi) true r) a w := ⟨v, hy, h⟩
theorem aloneM {n i : Nat} {r : Lay} {a : Act} {w : World} {o : Oper} (ho : ops[i]? = some o) (hw : Region.wanted o (yielded ops a.tmps) = true)
    (h : ∀ K' : Act → World → Prop, Shut (∀ a w, S w → (S w → wpM P ops Q S n r a w) → K' a w) → Oper.wp P o a w K' Q) :
    wpM P ops Q S n (.one i (some o) false r) a w :=
  wpOp_step ho (fun K' hK => by rw [if_pos hw]; exact h K' (fun a w hS hW => hK a w ⟨fun _ => hS, hW hS⟩))
theorem lastM {n : Nat} {r : Lay} {a : Act} {w : World} {o : Oper} (ho : ops[n]? = some o) (hw : Region.wanted o (yielded ops a.tmps) = true)
    (h : ∀ K' : Act → World → Prop, Shut (∀ a w, wpM P ops Q S n r a w → K' a w) → Oper.wp P o a w K' Q) :
    wpM P ops Q S n (.one n (some o) false r) a w :=
  wpOp_step ho (fun K' hK => by rw [if_pos hw]; exact h K' (fun a w hW => hK a w ⟨fun hne => absurd rfl hne, hW⟩))
theorem doneM {n : Nat} {a : Act} {w : World} (h : Q .normal a w) : wpM P ops Q S n .nil a w := h
end Ord
end Go.Proofs.Yteghacdpfhohoaa
