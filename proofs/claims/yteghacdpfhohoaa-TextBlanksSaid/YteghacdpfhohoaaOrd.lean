/-
  A region that draws its order, walked in one order that is given: what may be taken ahead is taken, what stands alone is carried out. (What is not wanted is passed by.)
-/
import Derived.Deep.RegionHeld3
namespace Go.Proofs.Yteghacdpfhohoaa

namespace Ord
variable {P : Program} {ops : Array Oper} {Q : Exit → Act → World → Prop} {md : Region.Mode} {S : World → Prop}
/-- may the operations come up in this order, the marked ones taken ahead, the others each alone? -/
def okOrd (md : Region.Mode) (ops : Array Oper) : List (Nat × Bool) → Array Bool → Bool
  | [], listed => Region.ready md ops listed == []
  | (i, true) :: r, listed => Region.free md ops listed i && (Region.ready md ops listed).contains i && okOrd md ops r (listed.setIfInBounds i true)
  | (i, false) :: r, listed => (Region.ready md ops listed == [i]) && okOrd md ops r (listed.setIfInBounds i true)
def wpOrd (P : Program) (ops : Array Oper) (Q : Exit → Act → World → Prop) (S : World → Prop) : List (Nat × Bool) → Act → World → Prop
  | [], a, w => Q .normal a w
  | (i, true) :: r, a, w => ∃ oi v, ops[i]? = some oi ∧ YieldsIf P ops S oi v a ∧ wpOrd P ops Q S r (a.put oi.dst v) w
  | (i, false) :: r, a, w => wpOp P ops Q i (fun a' w' => S w' ∧ wpOrd P ops Q S r a' w') a w
theorem held_of_ord (hs : Region.noSelect ops = true) (hp : ∀ (c : _) (a : Act) (d : Option Tmp) (v : Value) (w : World), Q (.panic c) (a.put d v) w → Q (.panic c) a w) : ∀ (order : List (Nat × Bool)) (fuel : Nat) (listed : Array Bool) (a : Act) (w : World),
    order.length ≤ fuel → okOrd md ops order listed = true → S w → wpOrd P ops Q S order a w → wpAnyH P md ops Q S fuel listed a w := by
  intro order
  induction order with
  | nil =>
    intro fuel listed a w _ ho _ h
    exact wpAnyH_done (by simpa [okOrd] using ho) h fuel
  | cons x r ih =>
    intro fuel listed a w hf ho hS h
    obtain ⟨i, b⟩ := x
    cases fuel with
    | zero => simp at hf
    | succ fuel =>
      cases b with
      | true =>
        obtain ⟨oi, v, hi, hy, h⟩ := h
        simp only [okOrd, Bool.and_eq_true] at ho
        exact wpAnyH_take hi hs ho.1.1 ho.1.2 (fun c a w hq => hp c a _ _ w hq) hy hS (ih fuel _ _ _ (by simp at hf; omega) ho.2 hS h)
      | false =>
        simp only [okOrd, Bool.and_eq_true, beq_iff_eq] at ho
        refine wpAnyH_all ho.1 (by simp) (fun j hj => ?_)
        have : j = i := by simpa using hj
        subst this
        exact wpOp_mono (fun a' w' hh => ⟨hh.1, ih fuel _ _ _ (by simp at hf; omega) ho.2 hh.1 hh.2⟩) h
/-- the operations in their order, each beside its number. -/
def lay (l : List Oper) : List (Nat × Bool) → List (Nat × Option Oper × Bool)
  | [] => []
  | (i, b) :: r => (i, l[i]?, b) :: lay l r
def wpSt (P : Program) (ops : Array Oper) (Q : Exit → Act → World → Prop) (S : World → Prop) : List (Nat × Option Oper × Bool) → Act → World → Prop
  | [], a, w => Q .normal a w
  | (_, some oi, true) :: r, a, w => ∃ v, YieldsIf P ops S oi v a ∧ wpSt P ops Q S r (a.put oi.dst v) w
  | (i, some _, false) :: r, a, w => wpOp P ops Q i (fun a' w' => S w' ∧ wpSt P ops Q S r a' w') a w
  | (_, none, _) :: _, _, _ => False
theorem ord_of_st {l : List Oper} : ∀ (order : List (Nat × Bool)) (a : Act) (w : World), wpSt P l.toArray Q S (lay l order) a w → wpOrd P l.toArray Q S order a w := by
  intro order
  induction order with
  | nil => intro a w h; exact h
  | cons x r ih =>
    intro a w h
    obtain ⟨i, b⟩ := x
    cases ho : l[i]? with
    | none => simp [lay, wpSt, ho] at h
    | some oi =>
      cases b with
      | true =>
        simp only [lay, wpSt, ho] at h
        obtain ⟨v, hy, h⟩ := h
        exact ⟨oi, v, by simpa using ho, hy, ih _ _ h⟩
      | false =>
        simp only [lay, wpSt, ho] at h
        exact wpOp_mono (fun a' w' hh => ⟨hh.1, ih _ _ hh.2⟩) h
/-- the beginning. -/
theorem region_ord {id : Nat} {l : List Oper} {a : Act} {w : World} (order : List (Nat × Bool)) (hm : P.follows .mixedOrders = true) (hs : Region.noSelect l.toArray = true)
    (hB : okOrd .any l.toArray order (Array.replicate l.toArray.size false) = true) (hn : order.length ≤ l.toArray.size) (hp : ∀ (c : _) (a : Act) (d : Option Tmp) (v : Value) (w : World), Q (.panic c) (a.put d v) w → Q (.panic c) a w) (hS : S w.drew)
    (h : S w.drew → wpSt P l.toArray Q S (lay l order) a w.drew) : (Code.region id l.toArray true).wp P Q a w :=
  wp_region_held_drew (S := S) hm hS (fun hS' => held_of_ord hs hp order _ _ _ _ hn hB hS' (ord_of_st _ _ _ (h hS')))
theorem take {i : Nat} {r : List (Nat × Option Oper × Bool)} {a : Act} {w : World} {oi : Oper} {v : Value} (hy : YieldsIf P ops S oi v a) (h : wpSt P ops Q S r (a.put oi.dst v) w) : wpSt P ops Q S ((i, some oi, true) :: r) a w :=
  ⟨v, hy, h⟩
theorem alone {i : Nat} {r : List (Nat × Option Oper × Bool)} {a : Act} {w : World} {o : Oper} (ho : ops[i]? = some o)
    (h : ∀ K' : Act → World → Prop, Shut (∀ a w, S w → (S w → wpSt P ops Q S r a w) → K' a w) → if Region.wanted o (yielded ops a.tmps) = true then Oper.wp P o a w K' Q else K' (a.put o.dst undef) w) :
    wpSt P ops Q S ((i, some o, false) :: r) a w :=
  wpOp_step ho (fun K' hK => h K' (fun a w hS hW => hK a w ⟨hS, hW hS⟩))
theorem alone' {i : Nat} {r : List (Nat × Option Oper × Bool)} {a : Act} {w : World} {o : Oper} (ho : ops[i]? = some o) (hw : Region.wanted o (yielded ops a.tmps) = true)
    (h : ∀ K' : Act → World → Prop, Shut (∀ a w, S w → (S w → wpSt P ops Q S r a w) → K' a w) → Oper.wp P o a w K' Q) :
    wpSt P ops Q S ((i, some o, false) :: r) a w :=
  alone ho (fun K' hK => by rw [if_pos hw]; exact h K' hK)
theorem done {a : Act} {w : World} (h : Q .normal a w) : wpSt P ops Q S [] a w := h
end Ord
end Go.Proofs.Yteghacdpfhohoaa
