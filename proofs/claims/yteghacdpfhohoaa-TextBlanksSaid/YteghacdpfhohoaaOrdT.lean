/-
  A region that draws its order, walked by a tree of orders: where two operations stand ready that may not be taken ahead, both ways are walked.
-/
import Derived.Test.YteghacdpfhohoaaOrd
namespace Go.Proofs.Yteghacdpfhohoaa
namespace Ord
inductive Tree
  | nil
  | one (i : Nat) (b : Bool) (r : Tree)
  | two (i : Nat) (r : Tree) (j : Nat) (s : Tree)
variable {P : Program} {ops : Array Oper} {Q : Exit → Act → World → Prop} {md : Region.Mode} {S : World → Prop}
def okT (md : Region.Mode) (ops : Array Oper) : Tree → Array Bool → Bool
  | .nil, listed => Region.ready md ops listed == []
  | .one i true r, listed => Region.free md ops listed i && (Region.ready md ops listed).contains i && okT md ops r (listed.setIfInBounds i true)
  | .one i false r, listed => (Region.ready md ops listed == [i]) && okT md ops r (listed.setIfInBounds i true)
  | .two i r j s, listed => (Region.ready md ops listed == [i, j]) && okT md ops r (listed.setIfInBounds i true) && okT md ops s (listed.setIfInBounds j true)
def Tree.depth : Tree → Nat
  | .nil => 0
  | .one _ _ r => r.depth + 1
  | .two _ r _ s => max r.depth s.depth + 1
/-- the same walk, each operation beside its number. -/
inductive Lay
  | nil
  | one (i : Nat) (o : Option Oper) (b : Bool) (r : Lay)
  | two (i : Nat) (o : Option Oper) (r : Lay) (j : Nat) (p : Option Oper) (s : Lay)
def layT (l : List Oper) : Tree → Lay
  | .nil => .nil
  | .one i b r => .one i l[i]? b (layT l r)
  | .two i r j s => .two i l[i]? (layT l r) j l[j]? (layT l s)
def wpT (P : Program) (ops : Array Oper) (Q : Exit → Act → World → Prop) (S : World → Prop) : Lay → Act → World → Prop
  | .nil, a, w => Q .normal a w
  | .one _ (some oi) true r, a, w => ∃ v, YieldsIf P ops S oi v a ∧ wpT P ops Q S r (a.put oi.dst v) w
  | .one i (some _) false r, a, w => wpOp P ops Q i (fun a' w' => S w' ∧ wpT P ops Q S r a' w') a w
  | .two i (some _) r j (some _) s, a, w => wpOp P ops Q i (fun a' w' => S w' ∧ wpT P ops Q S r a' w') a w ∧ wpOp P ops Q j (fun a' w' => S w' ∧ wpT P ops Q S s a' w') a w
  | _, _, _ => False
theorem held_of_tree {l : List Oper} (hs : Region.noSelect l.toArray = true) (hp : ∀ (c : _) (a : Act) (d : Option Tmp) (v : Value) (w : World), Q (.panic c) (a.put d v) w → Q (.panic c) a w) : ∀ (t : Tree) (fuel : Nat) (listed : Array Bool) (a : Act) (w : World),
    t.depth ≤ fuel → okT md l.toArray t listed = true → S w → wpT P l.toArray Q S (layT l t) a w → wpAnyH P md l.toArray Q S fuel listed a w := by
  intro t
  induction t with
  | nil =>
    intro fuel listed a w _ ho _ h
    exact wpAnyH_done (by simpa [okT] using ho) h fuel
  | one i b r ih =>
    intro fuel listed a w hf ho hS h
    cases fuel with
    | zero => simp [Tree.depth] at hf
    | succ fuel =>
      have hf' : r.depth ≤ fuel := by simp [Tree.depth] at hf; omega
      cases hi : l[i]? with
      | none => cases b <;> simp [layT, hi, wpT] at h
      | some oi =>
        cases b with
        | true =>
          simp only [layT, hi, wpT] at h
          obtain ⟨v, hy, h⟩ := h
          simp only [okT, Bool.and_eq_true] at ho
          exact wpAnyH_take (by simpa using hi) hs ho.1.1 ho.1.2 (fun c a w hq => hp c a _ _ w hq) hy hS (ih fuel _ _ _ hf' ho.2 hS h)
        | false =>
          simp only [layT, hi, wpT] at h
          simp only [okT, Bool.and_eq_true, beq_iff_eq] at ho
          refine wpAnyH_all ho.1 (by simp) (fun j hj => ?_)
          have : j = i := by simpa using hj
          subst this
          exact wpOp_mono (fun a' w' hh => ⟨hh.1, ih fuel _ _ _ hf' ho.2 hh.1 hh.2⟩) h
  | two i r j s ih1 ih2 =>
    intro fuel listed a w hf ho hS h
    cases fuel with
    | zero => simp [Tree.depth] at hf
    | succ fuel =>
      have hf1 : r.depth ≤ fuel := by simp [Tree.depth] at hf; omega
      have hf2 : s.depth ≤ fuel := by simp [Tree.depth] at hf; omega
      cases hi : l[i]? with
      | none => cases hj : l[j]? <;> simp [layT, hi, hj, wpT] at h
      | some oi =>
        cases hj : l[j]? with
        | none => simp [layT, hi, hj, wpT] at h
        | some oj =>
          simp only [layT, hi, hj, wpT] at h
          simp only [okT, Bool.and_eq_true, beq_iff_eq] at ho
          refine wpAnyH_all ho.1.1 (by simp) (fun k hk => ?_)
          have hk' : k = i ∨ k = j := by simpa using hk
          rcases hk' with rfl | rfl
          · exact wpOp_mono (fun a' w' hh => ⟨hh.1, ih1 fuel _ _ _ hf1 ho.1.2 hh.1 hh.2⟩) h.1
          · exact wpOp_mono (fun a' w' hh => ⟨hh.1, ih2 fuel _ _ _ hf2 ho.2 hh.1 hh.2⟩) h.2
theorem region_tree {id : Nat} {l : List Oper} {a : Act} {w : World} (t : Tree) (hm : P.follows .mixedOrders = true) (hs : Region.noSelect l.toArray = true)
    (hB : okT .any l.toArray t (Array.replicate l.toArray.size false) = true) (hn : t.depth ≤ l.toArray.size) (hp : ∀ (c : _) (a : Act) (d : Option Tmp) (v : Value) (w : World), Q (.panic c) (a.put d v) w → Q (.panic c) a w) (hS : S w.drew)
    (h : S w.drew → wpT P l.toArray Q S (layT l t) a w.drew) : (Code.region id l.toArray true).wp P Q a w :=
  wp_region_held_drew (S := S) hm hS (fun hS' => held_of_tree hs hp t _ _ _ _ hn hB hS' (h hS'))
theorem takeT {i : Nat} {r : Lay} {a : Act} {w : World} {oi : Oper} {v : Value} (hy : YieldsIf P ops S oi v a) (h : wpT P ops Q S r (a.put oi.dst v) w) : wpT P ops Q S (.one i (some oi) true r) a w := ⟨v, hy, h⟩
theorem aloneT {i : Nat} {r : Lay} {a : Act} {w : World} {o : Oper} (ho : ops[i]? = some o) (hw : Region.wanted o (yielded ops a.tmps) = true)
    (h : ∀ K' : Act → World → Prop, Shut (∀ a w, S w → (S w → wpT P ops Q S r a w) → K' a w) → Oper.wp P o a w K' Q) :
    wpT P ops Q S (.one i (some o) false r) a w :=
  wpOp_step ho (fun K' hK => by rw [if_pos hw]; exact h K' (fun a w hS hW => hK a w ⟨hS, hW hS⟩))
theorem twoT {i j : Nat} {r s : Lay} {a : Act} {w : World} {o p : Oper} (ho : ops[i]? = some o) (hw : Region.wanted o (yielded ops a.tmps) = true) (ho' : ops[j]? = some p) (hw' : Region.wanted p (yielded ops a.tmps) = true)
    (h : ∀ K' : Act → World → Prop, Shut (∀ a w, S w → (S w → wpT P ops Q S r a w) → K' a w) → Oper.wp P o a w K' Q)
    (h' : ∀ K' : Act → World → Prop, Shut (∀ a w, S w → (S w → wpT P ops Q S s a w) → K' a w) → Oper.wp P p a w K' Q) :
    wpT P ops Q S (.two i (some o) r j (some p) s) a w :=
  ⟨wpOp_step ho (fun K' hK => by rw [if_pos hw]; exact h K' (fun a w hS hW => hK a w ⟨hS, hW hS⟩)), wpOp_step ho' (fun K' hK => by rw [if_pos hw']; exact h' K' (fun a w hS hW => hK a w ⟨hS, hW hS⟩))⟩
theorem doneT {a : Act} {w : World} (h : Q .normal a w) : wpT P ops Q S .nil a w := h
end Ord
end Go.Proofs.Yteghacdpfhohoaa
