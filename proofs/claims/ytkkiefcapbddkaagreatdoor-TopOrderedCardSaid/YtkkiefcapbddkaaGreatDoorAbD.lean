/-
  the machine: calls, regions that draw their order, frames.
-/
import Derived.Test.YtkkiefcapbddkaaGreatDoorAbC
import Derived.Orders
import Derived.IntWalk
import Derived.LoopN
import Derived.ScopeJumps
set_option linter.all false
namespace Go.Abs
open Go.RowKit
variable [Val]
def tid : V → List Nat
  | .p k _ _ => [k]
  | .t k _ _ _ => [k]
  | .v k _ _ => [k]
  | .it k => [k]
  | .m k => [k]
  | _ => []
section
variable {tab : Tab} {h h' : Heap}
theorem loadV_agree {t : TypeId} {a : V} (hh : ∀ k ∈ tid a, h k = h' k) : loadV tab h t a = loadV tab h' t a := by
  cases a with
  | p k i j => have : h k = h' k := hh k (by simp [tid])
               simp only [loadV, this]
  | d x => cases x <;> rfl
  | _ => rfl
theorem storeV_agree {n : Nat} {t : TypeId} {a x : V} (hh : ∀ k ∈ tid a, h k = h' k) : storeV tab h n t a x = storeV tab h' n t a x := by
  cases a with
  | p k i j => have : h k = h' k := hh k (by simp [tid])
               simp only [storeV, this]
  | _ => rfl
theorem eqV_agree {ti : TI} {x y : V} : eqV h ti x y = eqV h' ti x y := rfl
theorem binV_agree {op : BinOp} {t : TypeId} {x y : V} : binV h tab op t x y = binV h' tab op t x y := rfl
theorem indexA_agree {t : TypeId} {x ix : V} (hh : ∀ k ∈ tid x, h k = h' k) : indexA tab h t x ix = indexA tab h' t x ix := by
  cases x with
  | v k lo n =>
    unfold indexA
    split
    · simp only [hh k (by simp [tid])]
    · rfl
    · rfl
  | d x => cases x <;> rfl
  | _ => rfl
theorem sliceV_agree {t : TypeId} {x : V} {lo hi : Option V} (hh : ∀ k ∈ tid x, h k = h' k) : sliceV tab h t x lo hi = sliceV tab h' t x lo hi := by
  unfold sliceV
  split
  all_goals first | rfl | (rw [hh _ (by simp [tid])])
theorem rowsD_agree {size : Nat} {x : V} (hh : ∀ k ∈ tid x, h k = h' k) : rowsD h size x = rowsD h' size x := by
  cases x with
  | v k lo n => have : h k = h' k := hh k (by simp [tid])
                simp only [rowsD, this]
  | d x => cases x <;> rfl
  | _ => rfl
theorem rowsV_agree {size : Nat} {x : V} (hh : ∀ k ∈ tid x, h k = h' k) : rowsV h size x = rowsV h' size x := by
  cases x with
  | v k lo n => have : h k = h' k := hh k (by simp [tid])
                simp only [rowsV, this]
  | d x => cases x <;> rfl
  | _ => rfl
theorem appendV_agree {n : Nat} {mu : Bool} {t tx : TypeId} {a x : V} (ha : ∀ k ∈ tid a, h k = h' k) (hx : ∀ k ∈ tid x, h k = h' k) : appendV tab h n mu t tx a x = appendV tab h' n mu t tx a x := by
  have e1 : ∀ size, rowsD h size x = rowsD h' size x := fun size => rowsD_agree hx
  have e2 : ∀ size, rowsV h size x = rowsV h' size x := fun size => rowsV_agree hx
  unfold appendV
  simp only [e1, e2]
  split
  · split
    · congr 1
      funext te
      split
      · rfl
      · rw [ha _ (by simp [tid])]
      · rw [ha _ (by simp [tid])]
      · rfl
    · rfl
  · rfl
theorem convL_agree {n : Nat} {src dst : TypeId} {x : V} (hx : ∀ k ∈ tid x, h k = h' k) : convL tab h n src dst x = convL tab h' n src dst x := by
  have e1 : ∀ size, rowsD h size x = rowsD h' size x := fun size => rowsD_agree hx
  unfold convL
  simp only [e1]
theorem nextV_agree {n : Nat} {x : V} {b : Bool} (hx : ∀ k ∈ tid x, h k = h' k) : nextV h n x b = nextV h' n x b := by
  cases x with
  | it k => have : h k = h' k := hx k (by simp [tid])
            cases b <;> simp only [nextV, this]
  | _ => rfl
theorem evs_agree {ev ev' : Operand → Option V} : ∀ {l : List Operand}, (∀ x ∈ l, ev x = ev' x) → evs ev l = evs ev' l
  | [], _ => rfl
  | x :: l, hl => by
    unfold evs
    rw [hl x (by simp), evs_agree fun y hy => hl y (by simp [hy])]
theorem partsV_agree {ev ev' : Operand → Option V} : ∀ {l : List (Nat × Operand)}, (∀ x ∈ l, ev x.2 = ev' x.2) → partsV ev l = partsV ev' l
  | [], _ => rfl
  | (i, x) :: l, hl => by
    unfold partsV
    rw [hl (i, x) (by simp), partsV_agree fun y hy => hl y (by simp [hy])]
def memOps (op : Op) : List Operand := match op with
  | .load _ a => [a]
  | .store _ a _ => [a]
  | .convert _ _ x => [x]
  | .slice _ x _ _ _ => [x]
  | .indexAddr _ x _ => [x]
  | .next x _ => [x]
  | .call c => c.args.toList
  | .lookup _ m _ _ => [m]
  | .mapUpdate _ m _ _ => [m]
  | .mapEntry _ m _ => [m]
  | .entryStore _ m _ _ => [m]
  | .binOp _ _ x (.const (.slice none _ _)) _ => [x]
  | _ => []
theorem astep_agree {ev ev' : Operand → Option V} {n : Nat} {mu : Bool} {op : Op} (he : ∀ x ∈ op.operands, ev x = ev' x) (hh : ∀ x ∈ memOps op, ∀ v, ev x = some v → ∀ k ∈ tid v, h k = h' k) :
    astep tab ev h n mu op = astep tab ev' h' n mu op := by
  have key : ∀ {x : Operand} {α : Type} {f f' : V → Option α}, x ∈ op.operands → x ∈ memOps op → (∀ v, (∀ k ∈ tid v, h k = h' k) → f v = f' v) → (ev x).bind f = (ev' x).bind f' := by
    intro x α f f' hx hm hf
    rw [← he x hx]
    cases hv : ev x with
    | none => rfl
    | some v => exact hf v (hh x hm v hv)
  cases op with
  | move x => simp only [astep]; rw [he x (by simp [Op.operands])]
  | assign x => simp only [astep]; rw [he x (by simp [Op.operands])]
  | pick c a b => simp only [astep]; rw [he c (by simp [Op.operands]), he a (by simp [Op.operands]), he b (by simp [Op.operands])]
  | alloc => rfl
  | box e x => simp only [astep]; rw [he x (by simp [Op.operands])]
  | build t ps =>
    simp only [astep, buildV]
    have := partsV_agree (ev := ev) (ev' := ev') (l := ps.toList) fun x hx => he x.2 (by simp only [Op.operands, List.mem_toArray]; exact List.mem_map.2 ⟨x, hx, rfl⟩)
    rw [this]
  | buildSlice t len ps =>
    simp only [astep, buildSliceV]
    have := partsV_agree (ev := ev) (ev' := ev') (l := ps.toList) fun x hx => he x.2 (by simp only [Op.operands, List.mem_toArray]; exact List.mem_map.2 ⟨x, hx, rfl⟩)
    rw [this]
  | load t a => simp only [astep]; exact key (by simp [Op.operands]) (by simp [memOps]) fun v hv => by rw [loadV_agree hv]
  | store t a x => simp only [astep]; refine key (by simp [Op.operands]) (by simp [memOps]) fun v hv => ?_; rw [he x (by simp [Op.operands])]; congr 1; funext y; exact storeV_agree hv
  | nilCheck x => simp only [astep]; rw [he x (by simp [Op.operands])]
  | binOp op t x y u => simp only [astep]; rw [he x (by simp [Op.operands]), he y (by simp [Op.operands])]; rfl
  | unOp op t x => simp only [astep]; rw [he x (by simp [Op.operands])]
  | convert s d x => simp only [astep]; exact key (by simp [Op.operands]) (by simp [memOps]) fun v hv => by rw [convL_agree hv]
  | makeFunc fn a b =>
    simp only [astep]
    rw [evs_agree (ev := ev) (ev' := ev') (l := a.toList) fun x hx => he x (by simp only [Op.operands, Array.mem_append]; exact .inl (Array.mem_toList_iff.1 hx)), evs_agree (ev := ev) (ev' := ev') (l := b.toList) fun x hx => he x (by simp only [Op.operands, Array.mem_append]; exact .inr (Array.mem_toList_iff.1 hx))]
  | makeSlice t l c => simp only [astep]; rw [he l (by simp [Op.operands]), he c (by simp [Op.operands])]
  | slice t x lo hi mx =>
    cases mx with
    | some y => rfl
    | none =>
      simp only [astep]
      refine key (by simp [Op.operands]) (by simp [memOps]) fun v hv => ?_
      have e1 : evo ev lo = evo ev' lo := by
        cases lo with
        | none => rfl
        | some y => simp only [evo]; rw [he y (by simp [Op.operands])]
      have e2 : evo ev hi = evo ev' hi := by
        cases hi with
        | none => rfl
        | some y => simp only [evo]; rw [he y (by simp [Op.operands])]
      rw [e1, e2]
      congr 1; funext a; congr 1; funext b
      rw [sliceV_agree hv]
  | fieldAddr s x f => simp only [astep]; rw [he x (by simp [Op.operands])]
  | field t x f => simp only [astep]; rw [he x (by simp [Op.operands])]
  | indexAddr t x i => simp only [astep]; refine key (by simp [Op.operands]) (by simp [memOps]) fun v hv => ?_; rw [he i (by simp [Op.operands])]; congr 1; funext y; rw [indexA_agree hv]
  | index t x i => simp only [astep]; rw [he x (by simp [Op.operands]), he i (by simp [Op.operands])]
  | range t x => simp only [astep]; rw [he x (by simp [Op.operands])]
  | next x s => simp only [astep]; exact key (by simp [Op.operands]) (by simp [memOps]) fun v hv => nextV_agree hv
  | extract x i => simp only [astep]; rw [he x (by simp [Op.operands])]
  | call c =>
    obtain ⟨callee, ⟨args⟩, ⟨ats⟩⟩ := c
    have hargs : ∀ x ∈ args, x ∈ (Op.call ⟨callee, ⟨args⟩, ⟨ats⟩⟩).operands := fun x hx => by simp only [Op.operands, Call.operands, Array.mem_append]; exact .inr (by simpa using hx)
    cases callee with
    | value f => rfl
    | invoke f nm => rfl
    | builtin b =>
      cases b <;> try rfl
      · -- append
        match args, ats with
        | [a, x], [t, tx] =>
          simp only [astep]
          refine key (hargs a (by simp)) (by simp [memOps]) fun v hv => key (hargs x (by simp)) (by simp [memOps]) fun u hu => appendV_agree hv hu
        | [], _ => rfl
        | [_], _ => rfl
        | _ :: _ :: _ :: _, _ => rfl
        | [_, _], [] => rfl
        | [_, _], [_] => rfl
        | [_, _], _ :: _ :: _ :: _ => rfl
      · -- len
        match args, ats with
        | [x], t :: _ => simp only [astep]; rw [he x (hargs x (by simp))]
        | [], _ => rfl
        | _ :: _ :: _, _ => rfl
        | [_], [] => rfl
      · simp only [astep]; rw [evs_agree (ev := ev) (ev' := ev') fun x hx => he x (hargs x hx)]
      · simp only [astep]; rw [evs_agree (ev := ev) (ev' := ev') fun x hx => he x (hargs x hx)]
  | _ => rfl
end
end Go.Abs
namespace Go.Abs
open Go.RowKit
variable [Val]
structure Tr where
  go : Bool
  x : V
  us : List (Nat × Option AObj)
  lo : Nat
  hi : Nat
  rd : List Nat
structure It where
  i : Nat
  o : Oper
  t : Tr
def oprs (ops : Array Oper) (o : Oper) : List Nat :=
  (o.op.operands.toList.filterMap fun | .tmp t => some t | _ => none) ++ match o.guard with
    | some (j, _) => ((ops[j]?).bind (·.dst)).toList
    | none => []
structure Sat0 (m : Nat) (s : St) (g : Gh) (a : Act) (w : World) : Prop where
  rel : Rel g s.h w
  env : ∀ i x, s.e i = some x → GV g s.h w x (a.tmps.getD i undef)
  size : a.tmps.size = m
  nod : a.defers = []
def app (it : It) (s : St) : St := ⟨setD s.e it.o.dst it.t.x, upds s.h it.t.us, s.n⟩
def Loc (P : Program) (m : Nat) (ops : Array Oper) (it : It) (s : St) : Prop :=
  ∀ s' g a w, Sat0 m s' g a w → (∀ i ∈ oprs ops it.o, s'.e i = s.e i) → (∀ k ∈ it.t.rd, s'.h k = s.h k) → (∀ k, it.t.lo ≤ k → k < it.t.hi → g.U k = false) →
    Region.wanted it.o (yielded ops a.tmps) = it.t.go ∧
    (it.t.go = true → it.o.wp P a w (fun a' w' => ∃ v g', a' = a.put it.o.dst v ∧ Sat0 m (app it s') g' a' w' ∧ Ext g s'.h w g' (app it s').h w' ∧ ∀ k, g'.U k = true → g.U k = true ∨ (it.t.lo ≤ k ∧ k < it.t.hi)) (fun _ _ _ => False)) ∧
    (it.t.go = false → it.t.x = .tu [] ∧ it.t.us = [])
def indep (ops : Array Oper) (x y : It) : Bool :=
  (match x.o.dst with | some d => !(oprs ops y.o).elem d && !(y.o.dst == some d) | none => true) &&
  (match y.o.dst with | some d => !(oprs ops x.o).elem d | none => true) &&
  (x.t.us.all fun u => !y.t.rd.elem u.1 && !(y.t.us.any fun v => v.1 == u.1)) &&
  (y.t.us.all fun u => !x.t.rd.elem u.1)
section
variable {P : Program} {m : Nat} {ops : Array Oper}
theorem upds_not {us : List (Nat × Option AObj)} {k : Nat} : ∀ {h : Heap}, (∀ u ∈ us, u.1 ≠ k) → upds h us k = h k := by
  induction us with
  | nil => intro h _; rfl
  | cons u r ih =>
    intro h hu
    show upds (up h u.1 u.2) r k = h k
    rw [ih fun v hv => hu v (by simp [hv]), up_ne _ _ _ (Ne.symm (hu u (by simp)))]
theorem upds_in {us : List (Nat × Option AObj)} {k : Nat} : ∀ {h h' : Heap}, (∃ u ∈ us, u.1 = k) → upds h us k = upds h' us k := by
  induction us with
  | nil => intro h h' ⟨u, hu, _⟩; cases hu
  | cons u r ih =>
    intro h h' ⟨v, hv, hk⟩
    show upds (up h u.1 u.2) r k = upds (up h' u.1 u.2) r k
    by_cases hr : ∃ u ∈ r, u.1 = k
    · exact ih hr
    · have hr' : ∀ u ∈ r, u.1 ≠ k := fun u hu e => hr ⟨u, hu, e⟩
      rw [upds_not hr', upds_not hr']
      rcases List.mem_cons.1 hv with rfl | hv
      · rw [← hk, up_same, up_same]
      · exact absurd hk (hr' v hv)
theorem setD_ne {e : Nat → Option V} {d : Option Tmp} {x : V} {i : Nat} (h : d ≠ some i) : setD e d x i = e i := by
  cases d with
  | none => rfl
  | some k => exact up_ne _ _ _ (fun e => h (by rw [e]))
theorem indep_spec {x y : It} (h : indep ops x y = true) : (∀ d, x.o.dst = some d → d ∉ oprs ops y.o ∧ y.o.dst ≠ some d) ∧ (∀ d, y.o.dst = some d → d ∉ oprs ops x.o) ∧
    (∀ u ∈ x.t.us, u.1 ∉ y.t.rd ∧ ∀ v ∈ y.t.us, v.1 ≠ u.1) ∧ (∀ u ∈ y.t.us, u.1 ∉ x.t.rd) := by
  unfold indep at h
  simp only [Bool.and_eq_true] at h
  obtain ⟨⟨⟨h1, h2⟩, h3⟩, h4⟩ := h
  refine ⟨fun d hd => ?_, fun d hd => ?_, fun u hu => ?_, fun u hu => ?_⟩
  · rw [hd] at h1
    simpa using h1
  · rw [hd] at h2
    simpa using h2
  · have := List.all_eq_true.1 h3 u hu
    simp only [Bool.and_eq_true, Bool.not_eq_true', List.any_eq_false, beq_iff_eq] at this
    refine ⟨by simpa using this.1, fun v hv => by have := this.2 v hv; simpa using this⟩
  · have := List.all_eq_true.1 h4 u hu
    simpa using this
theorem Loc.agree {it : It} {s s' : St} (h : Loc P m ops it s) (he : ∀ i ∈ oprs ops it.o, s'.e i = s.e i) (hh : ∀ k ∈ it.t.rd, s'.h k = s.h k) : Loc P m ops it s' :=
  fun s2 g a w h1 h2 h3 h4 => h s2 g a w h1 (fun i hi => (h2 i hi).trans (he i hi)) (fun k hk => (h3 k hk).trans (hh k hk)) h4
theorem app_e {x y : It} {s : St} (hi : ∀ d, x.o.dst = some d → d ∉ oprs ops y.o) : ∀ i ∈ oprs ops y.o, (app x s).e i = s.e i := fun i hi' =>
  setD_ne fun e => hi i e hi'
theorem app_h {x y : It} {s : St} (hi : ∀ u ∈ x.t.us, u.1 ∉ y.t.rd) : ∀ k ∈ y.t.rd, (app x s).h k = s.h k := fun k hk =>
  upds_not fun u hu e => hi u hu (e ▸ hk)
theorem app_comm {x y : It} {s : St} (h : indep ops x y = true) : app x (app y s) = app y (app x s) := by
  obtain ⟨h1, h2, h3, h4⟩ := indep_spec h
  have he : setD (setD s.e y.o.dst y.t.x) x.o.dst x.t.x = setD (setD s.e x.o.dst x.t.x) y.o.dst y.t.x := by
    funext i
    by_cases hx : x.o.dst = some i
    · have hy := (h1 i hx).2
      rw [setD_ne (d := y.o.dst) hy]
      rw [hx]; simp only [setD]; rw [up_same, up_same]
    · rw [setD_ne hx]
      by_cases hy : y.o.dst = some i
      · rw [hy]; simp only [setD]; rw [up_same, up_same]
      · rw [setD_ne hy, setD_ne hy, setD_ne hx]
  have hh : upds (upds s.h y.t.us) x.t.us = upds (upds s.h x.t.us) y.t.us := by
    funext k
    by_cases hx : ∃ u ∈ x.t.us, u.1 = k
    · obtain ⟨u, hu, rfl⟩ := hx
      rw [upds_in (h' := s.h) ⟨u, hu, rfl⟩, upds_not (us := y.t.us) (h3 u hu).2]
    · have hx' : ∀ u ∈ x.t.us, u.1 ≠ k := fun u hu e => hx ⟨u, hu, e⟩
      rw [upds_not hx']
      by_cases hy : ∃ u ∈ y.t.us, u.1 = k
      · exact upds_in hy
      · have hy' : ∀ u ∈ y.t.us, u.1 ≠ k := fun u hu e => hy ⟨u, hu, e⟩
        rw [upds_not hy', upds_not hy', upds_not hx']
  unfold app
  simp only
  rw [he, hh]
def Valid (P : Program) (m : Nat) (ops : Array Oper) (Q : St → Prop) : List It → St → Prop
  | [], s => Q s
  | x :: r, s => Loc P m ops x s ∧ Valid P m ops Q r (app x s)
theorem Valid.move {Q : St → Prop} {x : It} {l2 : List It} : ∀ {l1 : List It} {s : St}, Valid P m ops Q (l1 ++ x :: l2) s → (∀ y ∈ l1, indep ops y x = true) → Loc P m ops x s ∧ Valid P m ops Q (l1 ++ l2) (app x s)
  | [], s, h, _ => h
  | y :: l1, s, h, hi => by
    obtain ⟨h1, h2⟩ := h
    obtain ⟨h3, h4⟩ := Valid.move h2 fun z hz => hi z (by simp [hz])
    have hyx := hi y (by simp)
    obtain ⟨k1, k2, k3, k4⟩ := indep_spec hyx
    refine ⟨?_, ?_, ?_⟩
    · exact h3.agree (fun i hi => (app_e (s := s) (fun d hd => (k1 d hd).1) i hi).symm) (fun k hk => (app_h (s := s) (fun u hu => (k3 u hu).1) k hk).symm)
    · exact h1.agree (app_e k2) (app_h k4)
    · rw [app_comm hyx]; exact h4
def befOne (acc : List Nat) (o : Oper) : Nat := o.after.toList.foldl (fun s e => if Region.binds .any e = true then s ||| (2 ^ e.on ||| acc.getD e.on 0) else s) 0
def befs : List Oper → List Nat → List Nat
  | [], acc => acc
  | o :: r, acc => befs r (acc ++ [befOne acc o])
theorem fold_bit (acc : List Nat) (j : Nat) : ∀ (es : List Edge) (s : Nat), (es.foldl (fun s e => if Region.binds .any e = true then s ||| (2 ^ e.on ||| acc.getD e.on 0) else s) s).testBit j = true →
    s.testBit j = true ∨ ∃ e ∈ es, Region.binds .any e = true ∧ (e.on = j ∨ (acc.getD e.on 0).testBit j = true)
  | [], s, h => .inl h
  | e :: es, s, h => by
    rcases fold_bit acc j es _ h with h1 | ⟨e', h1, h2⟩
    · change (if Region.binds .any e = true then s ||| (2 ^ e.on ||| acc.getD e.on 0) else s).testBit j = true at h1
      split at h1
      · next hb =>
        rw [Nat.testBit_or, Nat.testBit_or, Bool.or_eq_true, Bool.or_eq_true, Nat.testBit_two_pow] at h1
        rcases h1 with h1 | h1 | h1
        · exact .inl h1
        · exact .inr ⟨e, by simp, hb, .inl (by simpa using h1)⟩
        · exact .inr ⟨e, by simp, hb, .inr h1⟩
      · exact .inl h1
    · exact .inr ⟨e', by simp [h1], h2⟩
theorem befs_spec (l : List Oper) (j : Nat) (B : Nat → Prop) : ∀ (r : List Oper) (acc : List Nat) (n : Nat), acc.length = n → (∀ i, r[i]? = l[n + i]?) → (∀ i o, l[i]? = some o → i < n → (acc.getD i 0).testBit j = true → (∀ e ∈ o.after, Region.binds .any e = true → B e.on) → (∀ i o, l[i]? = some o → B i → ∀ e ∈ o.after, Region.binds .any e = true → B e.on) → B j) →
    ∀ i o, l[i]? = some o → ((befs r acc).getD i 0).testBit j = true → (∀ e ∈ o.after, Region.binds .any e = true → B e.on) → (∀ i o, l[i]? = some o → B i → ∀ e ∈ o.after, Region.binds .any e = true → B e.on) → B j := by
  intro r
  induction r with
  | nil =>
    intro acc n hn hr hacc i o hi hb
    have hlt : i < n := by
      rcases Nat.lt_or_ge i n with h | h
      · exact h
      · have := hr (i - n)
        rw [show n + (i - n) = i by omega, hi] at this
        simp at this
    exact hacc i o hi hlt hb
  | cons o' r ih =>
    intro acc n hn hr hacc
    refine ih (acc ++ [befOne acc o']) (n + 1) (by simp [hn]) (fun i => by have := hr (i + 1); simpa [Nat.add_assoc, Nat.add_comm 1 i] using this) fun i o hi hlt hb hpre hcl => ?_
    have ho' : l[n]? = some o' := by have := hr 0; simpa using this.symm
    rcases Nat.lt_or_ge i n with h | h
    · rw [List.getD_eq_getElem?_getD, List.getElem?_append_left (by omega), ← List.getD_eq_getElem?_getD] at hb
      exact hacc i o hi h hb hpre hcl
    · have e : i = n := by omega
      subst e
      rw [ho'] at hi; cases hi
      rw [List.getD_eq_getElem?_getD, List.getElem?_append_right (by omega), hn, Nat.sub_self] at hb
      simp only [List.getElem?_cons_zero, Option.getD_some] at hb
      rcases fold_bit acc j _ 0 hb with h0 | ⟨e, h1, h2, h3⟩
      · simp at h0
      · have h1' : e ∈ o'.after := by simpa using h1
        have hBe := hpre e h1' h2
        rcases h3 with h3 | h3
        · rw [← h3]; exact hBe
        · have hlt2 : e.on < i := by
            rcases Nat.lt_or_ge e.on acc.length with hq | hq
            · omega
            · rw [List.getD_eq_getElem?_getD, List.getElem?_eq_none hq] at h3; simp at h3
          cases hoe : l[e.on]? with
          | none => 
            have : i < l.length := (List.getElem?_eq_some_iff.1 ho').1
            rw [List.getElem?_eq_none_iff] at hoe; omega
          | some oe => exact hacc e.on oe hoe hlt2 h3 (fun e' he' hb' => hcl e.on oe hoe hBe e' he' hb') hcl
def chk (ops : Array Oper) (bs : List Nat) : List It → Bool
  | [] => true
  | x :: r => (r.all fun y => indep ops x y || (bs.getD y.i 0).testBit x.i) && chk ops bs r
theorem chk_pair {bs : List Nat} : ∀ {l : List It}, chk ops bs l = true → l.Pairwise fun x y => indep ops x y = true ∨ (bs.getD y.i 0).testBit x.i = true
  | [], _ => List.Pairwise.nil
  | x :: r, h => by
    simp only [chk, Bool.and_eq_true] at h
    refine List.Pairwise.cons (fun y hy => ?_) (chk_pair h.2)
    have := List.all_eq_true.1 h.1 y hy
    simpa using this
theorem getD_set {l : Array Bool} {i j : Nat} {d : Bool} (hi : i < l.size) : (l.setIfInBounds i true).getD j d = if i = j then true else l.getD j d := by
  simp only [Array.getD_eq_getD_getElem?, Array.getElem?_setIfInBounds]
  split
  · next e => subst e; simp [hi]
  · rfl
theorem getD_any {l : Array Bool} {i : Nat} {b : Bool} (hi : i < l.size) : l.getD i true = l.getD i false := by
  simp only [Array.getD_eq_getD_getElem?, Array.getElem?_eq_getElem hi, Option.getD_some]
theorem any_order (ops : Array Oper) (id : Nat) (Q : Exit → St → Prop) (nEnd : Nat) (g0 : Gh) (h0 : Heap) (a0 : Act) (w0 : World) : ∀ (fuel : Nat) (listed : Array Bool) (rem : List It) (s : St) (g : Gh) (a : Act) (w : World),
    Valid P m ops (fun s => Q .normal ⟨s.e, s.h, nEnd⟩) rem s → Sat0 m s g a w → Ext g0 h0 w0 g s.h w → (∀ i, dsts ops.toList i = false → a.tmps.getD i undef = a0.tmps.getD i undef) →
    (∀ x ∈ rem, ∀ k, x.t.lo ≤ k → k < x.t.hi → g.U k = false) → rem.Pairwise (fun x y => x.t.hi ≤ y.t.lo) → rem.Pairwise (fun x y => indep ops x y = true ∨ ((befs ops.toList []).getD y.i 0).testBit x.i = true) →
    (∀ k, nEnd ≤ k → g.U k = false) → (∀ x ∈ rem, x.t.hi ≤ nEnd) →
    rem.Pairwise (fun x y => x.i < y.i) → (∀ x ∈ rem, ops[x.i]? = some x.o ∧ dstOk m x.o = true ∧ listed.getD x.i true = false ∧ ∀ e ∈ x.o.after, Region.binds .any e = true → e.on < x.i) →
    (∀ i, i < ops.size → listed.getD i true = false → ∃ x ∈ rem, x.i = i) → listed.size = ops.size →
    (∀ i o, ops[i]? = some o → listed.getD i false = true → ∀ e ∈ o.after, Region.binds .any e = true → listed.getD e.on false = true) → rem.length ≤ fuel →
    wpAny P .any ops (fun x a' w' => ∃ s' g', Q x s' ∧ Sat m s' g' a' w' ∧ Ext g0 h0 w0 g' s'.h w' ∧ ∀ i, writes (.region id ops true) i = false → a'.tmps.getD i undef = a0.tmps.getD i undef) fuel listed a w := by
  intro fuel
  induction fuel with
  | zero =>
    intro listed rem s g a w hv hs he hf hfr hpw hpi hU hhi hne hops hall hls hcl hfu
    have : rem = [] := List.eq_nil_of_length_eq_zero (by omega)
    subst this
    have hready : Region.ready .any ops listed = [] := by
      rw [Region.ready, List.filter_eq_nil_iff]
      intro i hi hb
      simp only [Bool.and_eq_true, Bool.not_eq_true'] at hb
      obtain ⟨x, hx, _⟩ := hall i (by simpa using hi) hb.1
      cases hx
    exact ⟨hready, _, g, hv, ⟨hs.rel, hU, hs.env, hs.size, hs.nod⟩, he, hf⟩
  | succ fuel ih =>
    intro listed rem s g a w hv hs he hf hfr hpw hpi hU hhi hne hops hall hls hcl hfu
    refine ⟨fun hr => ?_, fun i hi => ?_⟩
    · cases rem with
      | nil => exact ⟨_, g, hv, ⟨hs.rel, hU, hs.env, hs.size, hs.nod⟩, he, hf⟩
      | cons x r =>
        exfalso
        obtain ⟨h1, h2, h3, h4⟩ := hops x (by simp)
        have hlt := (Array.getElem?_eq_some_iff.1 h1).1
        have hin : x.i ∈ Region.ready .any ops listed := by
          rw [Region.ready, List.mem_filter]
          refine ⟨by simpa using hlt, ?_⟩
          rw [h3, h1]
          simp only [Bool.not_false, Bool.true_and, Option.map_some, Option.getD_some, Array.all_eq_true_iff_forall_mem]
          intro e hem
          cases hb : Region.binds .any e with
          | false => rfl
          | true =>
            have hon := h4 e hem hb
            simp only [Bool.not_true, Bool.false_or]
            cases hl : listed.getD e.on false with
            | true => rfl
            | false =>
              rw [← getD_any (b := true) (by omega)] at hl
              obtain ⟨y, hy, hyi⟩ := hall e.on (by omega) hl
              rcases List.mem_cons.1 hy with rfl | hy
              · omega
              · have := (List.pairwise_cons.1 hne).1 y hy; omega
        rw [hr] at hin; cases hin
    · rw [Region.ready, List.mem_filter] at hi
      obtain ⟨hi1, hi2⟩ := hi
      have hlt : i < ops.size := by simpa using hi1
      simp only [Bool.and_eq_true, Bool.not_eq_true'] at hi2
      obtain ⟨hun, hpre⟩ := hi2
      obtain ⟨x, hx, rfl⟩ := hall i hlt hun
      obtain ⟨hox, hdx, _, hex⟩ := hops x hx
      rw [hox] at hpre
      simp only [Option.map_some, Option.getD_some, Array.all_eq_true_iff_forall_mem, Bool.or_eq_true, Bool.not_eq_true'] at hpre
      have hpre' : ∀ e ∈ x.o.after, Region.binds .any e = true → listed.getD e.on false = true := fun e h1 h2 => by
        rcases hpre e h1 with h3 | h3
        · rw [h2] at h3; cases h3
        · exact h3
      obtain ⟨l1, l2, rfl⟩ := List.append_of_mem hx
      have hind : ∀ y ∈ l1, indep ops y x = true := fun y hy => by
        rcases (List.pairwise_append.1 hpi).2.2 y hy x (by simp) with h1 | h1
        · exact h1
        · exfalso
          have hb := befs_spec ops.toList y.i (fun k => listed.getD k false = true) ops.toList [] 0 rfl (fun i => by simp) (fun i o _ h => by omega) x.i x.o (by rw [Array.getElem?_toList]; exact hox) h1 hpre' (fun i o h2 h3 => hcl i o (by rwa [Array.getElem?_toList] at h2) h3)
          obtain ⟨k1, _, k2, _⟩ := hops y (by simp [hy])
          have := (Array.getElem?_eq_some_iff.1 k1).1
          rw [getD_any (b := true) (by omega)] at k2
          rw [k2] at hb; cases hb
      obtain ⟨hloc, hv'⟩ := hv.move hind
      obtain ⟨w1, w2, w3⟩ := hloc s g a w hs (fun _ _ => rfl) (fun _ _ => rfl) (hfr x (by simp))
      have hsub : (l1 ++ l2).Sublist (l1 ++ x :: l2) := (List.Sublist.refl l1).append (List.sublist_cons_self x l2)
      have next : ∀ (v : Value) (g' : Gh) (w' : World), Sat0 m (app x s) g' (a.put x.o.dst v) w' → Ext g s.h w g' (app x s).h w' → (∀ k, g'.U k = true → g.U k = true ∨ (x.t.lo ≤ k ∧ k < x.t.hi)) →
          wpAny P .any ops (fun x a' w' => ∃ s' g', Q x s' ∧ Sat m s' g' a' w' ∧ Ext g0 h0 w0 g' s'.h w' ∧ ∀ i, writes (.region id ops true) i = false → a'.tmps.getD i undef = a0.tmps.getD i undef) fuel (listed.setIfInBounds x.i true) (a.put x.o.dst v) w' := by
        intro v g' w' k1 k2 k3
        refine ih (listed.setIfInBounds x.i true) (l1 ++ l2) (app x s) g' _ w' hv' k1 (he.trans k2) (fun j hj => ?_) (fun y hy k hk1 hk2 => ?_) (hpw.sublist hsub) (hpi.sublist hsub) (fun k hk => ?_) (fun y hy => hhi y (hsub.subset hy)) (hne.sublist hsub) (fun y hy => ?_) (fun j hj hl => ?_) (by simpa using hls) (fun j o hj hl e h1 h2 => ?_) (by simp at hfu ⊢; omega)
        · rw [put_get j (by rw [hs.size]; exact dstOk_lt hdx), if_neg ?_]
          · exact hf j hj
          · intro e
            have hmem : x.o ∈ ops.toList := List.mem_of_getElem? (by rw [Array.getElem?_toList]; exact hox)
            have := List.any_eq_false.1 hj x.o hmem
            rw [e] at this
            simp at this
        · cases hu : g'.U k with
          | false => rfl
          | true =>
            rcases k3 k hu with h1 | h1
            · rw [hfr y (hsub.subset hy) k hk1 hk2] at h1; cases h1
            · exfalso
              rcases List.mem_append.1 hy with hy | hy
              · have := (List.pairwise_append.1 hpw).2.2 y hy x (by simp); omega
              · have := (List.pairwise_cons.1 (List.pairwise_append.1 hpw).2.1).1 y hy; omega
        · cases hu : g'.U k with
          | false => rfl
          | true =>
            rcases k3 k hu with h1 | h1
            · rw [hU k hk] at h1; cases h1
            · have := hhi x (by simp); omega
        · obtain ⟨j1, j2, j3, j4⟩ := hops y (hsub.subset hy)
          refine ⟨j1, j2, ?_, j4⟩
          rw [getD_set (by omega), if_neg ?_]
          · exact j3
          · intro e
            rcases List.mem_append.1 hy with hy | hy
            · have := (List.pairwise_append.1 hne).2.2 y hy x (by simp); omega
            · have := (List.pairwise_cons.1 (List.pairwise_append.1 hne).2.1).1 y hy; omega
        · rw [getD_set (by omega)] at hl
          split at hl
          · cases hl
          · next hji =>
            obtain ⟨y, hy, rfl⟩ := hall j hj hl
            refine ⟨y, ?_, rfl⟩
            rcases List.mem_append.1 hy with hy | hy
            · exact List.mem_append.2 (.inl hy)
            · rcases List.mem_cons.1 hy with rfl | hy
              · exact absurd rfl hji
              · exact List.mem_append.2 (.inr hy)
        · rw [getD_set (by omega)] at hl ⊢
          split
          · rfl
          · split at hl
            · next e1 => subst e1; rw [hox] at hj; cases hj; exact hpre' e h1 h2
            · exact hcl j o hj hl e h1 h2
      unfold wpOp
      rw [hox]
      simp only
      rw [w1]
      cases hgo : x.t.go with
      | true =>
        simp only [if_true]
        left
        refine wp_mono_op (w2 hgo) fun a' w' ⟨v, g', k0, k1, k2, k3⟩ => ?_
        subst k0
        exact next v g' w' k1 k2 k3
      | false =>
        simp only [Bool.false_eq_true, if_false]
        obtain ⟨e1, e2⟩ := w3 hgo
        have hh : (app x s).h = s.h := by unfold app; rw [e2]; rfl
        refine next undef g w ⟨by rw [hh]; exact hs.rel, fun j y hy => ?_, by cases x.o.dst <;> simp [Act.put, hs.size], by cases x.o.dst <;> simp [Act.put, hs.nod]⟩ (by rw [hh]; exact Ext.refl _ _ _) (fun k hk => .inl hk)
        rw [hh]
        have hy' : setD s.e x.o.dst x.t.x j = some y := hy
        rw [put_get j (by rw [hs.size]; exact dstOk_lt hdx)]
        by_cases hd : x.o.dst = some j
        · rw [if_pos hd]
          rw [hd, e1] at hy'
          simp only [setD] at hy'
          rw [up_same] at hy'
          cases hy'
          exact .tu [] [] rfl GL.nil.at_
        · rw [if_neg hd]
          rw [setD_ne hd] at hy'
          exact hs.env j y hy'
end
end Go.Abs
namespace Go.Abs
open Go.RowKit
variable [Val]
def RDr (P : Program) (m : Nat) (ops : Array Oper) (Q : St → Prop) : List Oper → Nat → List It → St → Prop
  | [], _, acc, s => chk ops (befs ops.toList []) acc.reverse = true ∧ Q s
  | o :: r, i, acc, s => ∃ t : Tr, Loc P m ops ⟨i, o, t⟩ s ∧ t.lo = s.n ∧ s.n ≤ t.hi ∧ RDr P m ops Q r (i + 1) (⟨i, o, t⟩ :: acc) ⟨setD s.e o.dst t.x, upds s.h t.us, t.hi⟩
def edgesOk (ops : Array Oper) : Bool := (List.range ops.size).all fun i => match ops[i]? with
  | some o => o.after.all fun e => !Region.binds .any e || Nat.blt e.on i
  | none => true
section
variable {P : Program} {m : Nat} {ops : Array Oper} {tab : Tab}
theorem Loc.n {it : It} {s : St} {n : Nat} (h : Loc P m ops it s) : Loc P m ops it ⟨s.e, s.h, n⟩ := h.agree (fun _ _ => rfl) (fun _ _ => rfl)
theorem rdr_items {Q : St → Prop} : ∀ (r : List Oper) (i : Nat) (acc : List It) (s : St), RDr P m ops Q r i acc s → ∃ l nEnd, chk ops (befs ops.toList []) (acc.reverse ++ l) = true ∧
    Valid P m ops (fun s => Q ⟨s.e, s.h, nEnd⟩) l s ∧ l.Pairwise (fun x y => x.t.hi ≤ y.t.lo) ∧ l.Pairwise (fun x y => x.i < y.i) ∧ (∀ x ∈ l, s.n ≤ x.t.lo ∧ x.t.hi ≤ nEnd ∧ i ≤ x.i ∧ r[x.i - i]? = some x.o) ∧ (∀ j, j < r.length → ∃ x ∈ l, x.i = i + j) ∧ s.n ≤ nEnd
  | [], i, acc, s, h => ⟨[], s.n, by rw [List.append_nil]; exact h.1, h.2, List.Pairwise.nil, List.Pairwise.nil, by simp, by simp, Nat.le_refl _⟩
  | o :: r, i, acc, s, ⟨t, h1, h2, h3, h4⟩ => by
    obtain ⟨l, nEnd, k1, k2, k3, k4, k5, k6, k7⟩ := rdr_items r (i + 1) _ _ h4
    refine ⟨⟨i, o, t⟩ :: l, nEnd, ?_, ⟨h1, ?_⟩, ?_, ?_, ?_, ?_, by have : t.hi ≤ nEnd := k7; omega⟩
    · simpa [List.reverse_cons] using k1
    · have key : ∀ (l : List It) (s s' : St), s.e = s'.e → s.h = s'.h → Valid P m ops (fun s => Q ⟨s.e, s.h, nEnd⟩) l s → Valid P m ops (fun s => Q ⟨s.e, s.h, nEnd⟩) l s' := by
        intro l
        induction l with
        | nil => intro s s' e1 e2 h; simp only [Valid] at h ⊢; rw [← e1, ← e2]; exact h
        | cons x l ih =>
          intro s s' e1 e2 h
          exact ⟨h.1.agree (fun i _ => by rw [e1]) (fun k _ => by rw [e2]), ih _ _ (by simp only [app]; rw [e1]) (by simp only [app]; rw [e2]) h.2⟩
      exact key l ⟨setD s.e o.dst t.x, upds s.h t.us, t.hi⟩ (app ⟨i, o, t⟩ s) rfl rfl k2
    · exact List.Pairwise.cons (fun y hy => (k5 y hy).1) k3
    · exact List.Pairwise.cons (fun y hy => by have := (k5 y hy).2.2.1; show i < y.i; omega) k4
    · intro x hx
      rcases List.mem_cons.1 hx with rfl | hx
      · exact ⟨by show s.n ≤ t.lo; omega, k7, Nat.le_refl _, by simp⟩
      · obtain ⟨j1, j2, j3, j4⟩ := k5 x hx
        refine ⟨by have : t.hi ≤ x.t.lo := j1; omega, j2, by omega, ?_⟩
        have : x.i - i = (x.i - (i + 1)) + 1 := by omega
        rw [this, List.getElem?_cons_succ]; exact j4
    · intro j hj
      cases j with
      | zero => exact ⟨_, List.mem_cons_self, rfl⟩
      | succ j =>
        obtain ⟨x, hx, hxi⟩ := k6 j (by simpa using hj)
        exact ⟨x, List.mem_cons_of_mem _ hx, by omega⟩
theorem W_draw {id : Nat} {Q : Exit → St → Prop} {s : St} (hm : P.follows .mixedOrders = true) (hd : (ops.toList.all (dstOk m)) = true) (hed : edgesOk ops = true) (h : RDr P m ops (Q .normal) ops.toList 0 [] s) : W P m (.region id ops true) Q s := by
  intro g a w hs
  obtain ⟨l, nEnd, k1, k2, k3, k4, k5, k6, k7⟩ := rdr_items ops.toList 0 [] s h
  have hdr : Ext g s.h w g s.h w.drew := ext_same rfl rfl rfl rfl
  refine wp_region_any hm ?_
  refine any_order ops id Q nEnd g s.h a w ops.size (Array.replicate ops.size false) l s g a w.drew k2 ⟨rel_same hs.rel rfl rfl rfl rfl, fun i x hi => (hs.env i x hi).ext hdr, hs.size, hs.nod⟩ hdr (fun _ _ => rfl) (fun x hx k hk _ => hs.new k ?_) k3 (chk_pair (by simpa using k1)) (fun k hk => hs.new k ?_) (fun x hx => (k5 x hx).2.1) k4 (fun x hx => ?_) (fun i hi _ => ?_) (by simp) (fun i o _ hl => ?_) ?_
  · have := (k5 x hx).1; omega
  · omega
  · obtain ⟨j1, j2, j3, j4⟩ := k5 x hx
    rw [Nat.sub_zero, Array.getElem?_toList] at j4
    have hlt := (Array.getElem?_eq_some_iff.1 j4).1
    refine ⟨j4, List.all_eq_true.1 hd x.o (List.mem_of_getElem? (by rw [Array.getElem?_toList]; exact j4)), by simp [Array.getD, hlt], fun e he hb => ?_⟩
    have := List.all_eq_true.1 hed x.i (by simpa using hlt)
    rw [j4] at this
    have := (Array.all_eq_true_iff_forall_mem.1 this) e he
    rw [hb] at this
    simpa using this
  · obtain ⟨x, hx, hxi⟩ := k6 i (by simpa using hi)
    exact ⟨x, hx, by omega⟩
  · exfalso
    simp only [Array.getD_eq_getD_getElem?, Array.getElem?_replicate] at hl
    split at hl <;> simp at hl
  · have : ∀ (l : List It) (b n : Nat), l.Pairwise (fun x y => x.i < y.i) → (∀ x ∈ l, b ≤ x.i ∧ x.i < n) → l.length + b ≤ max n b := by
      intro l
      induction l with
      | nil => intro b n _ _; simp; omega
      | cons x l ih =>
        intro b n hp hb
        have := ih (x.i + 1) n (List.pairwise_cons.1 hp).2 (fun y hy => ⟨(List.pairwise_cons.1 hp).1 y hy, (hb y (by simp [hy])).2⟩)
        have := hb x (by simp)
        simp only [List.length_cons]; omega
    have := this l 0 ops.size k4 (fun x hx => ⟨Nat.zero_le _, by
      obtain ⟨j1, j2, j3, j4⟩ := k5 x hx
      rw [Nat.sub_zero, Array.getElem?_toList] at j4
      exact (Array.getElem?_eq_some_iff.1 j4).1⟩)
    omega
def rdOf (s : St) (op : Op) : List Nat := (memOps op).flatMap fun x => match s.ev x with
  | some v => tid v
  | none => []
theorem memOps_sub {op : Op} {x : Operand} (h : x ∈ memOps op) : x ∈ op.operands := by
  cases op with
  | call c => simp only [memOps] at h; simp only [Op.operands, Call.operands, Array.mem_append]; exact .inr (by simpa using h)
  | slice t y l hh m => simp only [memOps, List.mem_singleton] at h; subst h; simp [Op.operands]
  | binOp op t y z u =>
    have h : x = y := by
      unfold memOps at h
      split at h <;> first | (simp at h; done) | skip
      all_goals (rename_i hq; first | (cases hq; done) | (cases hq; simpa using h))
    subst h; simp [Op.operands]
  | _ => first | (simp only [memOps, List.mem_singleton] at h; subst h; simp [Op.operands]; done) | (simp [memOps] at h; done)
theorem oprs_mem {o : Oper} {t : Nat} (h : Operand.tmp t ∈ o.op.operands) : t ∈ oprs ops o := by
  unfold oprs
  refine List.mem_append.2 (.inl ?_)
  rw [List.mem_filterMap]
  exact ⟨.tmp t, by simpa using h, rfl⟩
theorem ev_agree {o : Oper} {s s' : St} (he : ∀ i ∈ oprs ops o, s'.e i = s.e i) : ∀ x ∈ o.op.operands, s'.ev x = s.ev x := by
  intro x hx
  cases x with
  | tmp t => exact he t (oprs_mem hx)
  | _ => rfl
theorem gd_agree {o : Oper} {s s' : St} (he : ∀ i ∈ oprs ops o, s'.e i = s.e i) : gdV s' ops o = gdV s ops o := by
  unfold gdV
  cases hg : o.guard with
  | none => rfl
  | some p =>
    obtain ⟨j, want⟩ := p
    simp only
    cases hd : (ops[j]?).bind (·.dst) with
    | none => rfl
    | some d =>
      have : s'.e d = s.e d := he d (by unfold oprs; refine List.mem_append.2 (.inr ?_); rw [hg]; simp only; rw [hd]; simp)
      simp only [this]
theorem gd_run0 {s : St} {g : Gh} {a : Act} {w : World} (hs : Sat0 m s g a w) {o : Oper} {r : Bool} (hg : gdV s ops o = some r) : Region.wanted o (yielded ops a.tmps) = r := by
  have : ∃ n, ∀ k, n ≤ k → (Gh.cut g n).U k = false := ⟨0, fun k _ => by simp [Gh.cut]⟩
  -- only the slots count
  unfold gdV at hg
  unfold Region.wanted
  split at hg
  · next h => cases hg; rw [h]
  · next j want h =>
    rw [h]
    simp only
    split at hg
    · next d hd =>
      have hget : ∀ v, a.tmps.getD d undef = v → v ≠ undef → yielded ops a.tmps j = (match v with | .bool b => some b | _ => none) := fun v hv hne => by
        unfold yielded
        rw [hd]
        simp only [Array.getD_eq_getD_getElem?] at hv
        cases hq : a.tmps[d]? with
        | none => rw [hq] at hv; exact absurd hv.symm hne
        | some u => rw [hq] at hv; simp at hv; subst hv; simp only [Option.bind_some, hq]; cases u <;> rfl
      split at hg
      · next x hx =>
        cases hg
        have hv := (hs.env d _ hx).d_inv
        have h2 : a.tmps.getD d undef = .bool x := by
          generalize a.tmps.getD d undef = q at hv ⊢
          cases hv; rfl
        rw [hget _ h2 (by simp [undef])]
        cases x <;> cases want <;> rfl
      · next hx =>
        cases hg
        have hv := hs.env d _ hx
        have h2 : a.tmps.getD d undef = .tuple #[] := by
          generalize a.tmps.getD d undef = q at hv ⊢
          cases hv with
          | tu _ vs hl hx =>
            have : vs = [] := List.eq_nil_of_length_eq_zero (by simpa using hl)
            rw [this]
        have : yielded ops a.tmps j = none := by
          unfold yielded
          rw [hd]
          simp only [Array.getD_eq_getD_getElem?] at h2
          cases hq : a.tmps[d]? with
          | none => simp [hq]
          | some v => rw [hq] at h2; simp at h2; subst h2; simp [hq]
        rw [this]; rfl
      · cases hg
    · cases hg
theorem Sat0.ev {s : St} {g : Gh} {a : Act} {w : World} (hs : Sat0 m s g a w) : ∀ o x, s.ev o = some x → GV g s.h w x (a.eval o) := by
  intro o x h
  cases o with
  | tmp t => exact hs.env t x h
  | const v => exact constV_gv h
  | func f =>
    cases h
    exact .d _ _ (.f _ [] [] [] [] rfl rfl (fun i d v h => by simp at h) (fun i d v h => by simp at h))
  | global k =>
    obtain ⟨⟨sz, rows⟩, h1, h2⟩ := omap h
    subst h2
    exact .d _ _ (hs.rel.glob k sz rows h1)
theorem Sat0.put {s : St} {g g' : Gh} {a : Act} {w w' : World} (hs : Sat0 m s g a w) {h' : Heap} {n' : Nat} {x : V} {v : Value} {d : Option Tmp} (hd : ∀ k, d = some k → k < m) (hx : GV g' h' w' x v) (hr : Rel g' h' w') (he : Ext g s.h w g' h' w') :
    Sat0 m ⟨setD s.e d x, h', n'⟩ g' (a.put d v) w' where
  rel := hr
  env := fun i y hy => by
    rw [put_get i (by rw [hs.size]; exact hd)]
    by_cases e : d = some i
    · rw [if_pos e]
      rw [e] at hy
      simp only [setD] at hy
      rw [up_same] at hy; cases hy; exact hx
    · rw [if_neg e]
      have hy' : setD s.e d x i = some y := hy
      rw [setD_ne e] at hy'
      exact (hs.env i y hy').ext he
  size := by cases d <;> simp [Act.put, hs.size]
  nod := by cases d <;> simp [Act.put, hs.nod]
def OpOk (P : Program) (op : Op) (ev : Operand → Option V) (h : Heap) (n : Nat) (out : Out) : Prop :=
  ∀ (ev' : Operand → Option V) (h' : Heap), (∀ x ∈ op.operands, ev' x = ev x) → (∀ x ∈ memOps op, ∀ v, ev x = some v → ∀ k ∈ tid v, h' k = h k) → ∀ (g : Gh) (w : World) (ρ : Operand → Value), Rel g h' w →
    (∀ o x, ev' o = some x → GV g h' w x (ρ o)) → g.U n = false → g.U (n + 1) = false → ∀ o : Oper, o.op = op → Step P g h' w n out ((execOp ρ o).run P w)
theorem OpOk.of_astep (htab : TabOk P tab) {ev : Operand → Option V} {h : Heap} {n : Nat} {mu : Bool} {op : Op} {out : Out} (hs : astep tab ev h n mu op = some out) : OpOk P op ev h n out := by
  intro ev' h' h1 h2 g w ρ hr he hq hq1 o ho
  subst ho
  refine astep_sound htab hr he hq hq1 (mu := mu) ?_
  rw [← hs]
  refine astep_agree h1 fun x hx v hv k hk => h2 x hx v ?_ k hk
  rw [← h1 x (memOps_sub hx)]; exact hv
theorem StepK.of_ok {o : Oper} {s : St} {K : St → Prop} (hd : dstOk m o = true) {out : Out} (hs : OpOk P o.op s.ev s.h s.n out) (hk : K ⟨setD s.e o.dst out.x, upds s.h out.us, max s.n out.n⟩) : StepK P m o s K := by
  intro g a w hsat
  obtain ⟨v, w', g', h1, h2, h3, h4, h5⟩ := hs s.ev s.h (fun _ _ => rfl) (fun _ _ _ _ _ _ => rfl) g w a.eval hsat.rel hsat.ev (hsat.new s.n (Nat.le_refl _)) (hsat.new (s.n + 1) (Nat.le_succ _)) o rfl
  have hn : ∀ k, max s.n out.n ≤ k → g'.U k = false := fun k hk => by
    cases hu : g'.U k with
    | false => rfl
    | true =>
      rcases h5 k hu with h6 | h6
      · rw [hsat.new k (by omega)] at h6; cases h6
      · omega
  have hput := hsat.put (d := o.dst) (dstOk_lt hd) h2 h3 h4 hn
  unfold Oper.wp
  rcases h1 with h1 | ⟨h1, rfl⟩
  · rw [h1]; exact ⟨v, _, g', rfl, hk, hput, h4⟩
  · rw [h1]; exact ⟨undef, _, g', rfl, hk, hput, h4⟩
theorem Loc_ok {i : Nat} {o : Oper} {s : St} (hg : gdV s ops o = some true) (hd : dstOk m o = true) {out : Out} (hs : OpOk P o.op s.ev s.h s.n out) (hn : Nat.ble out.n (s.n + 2) = true) :
    Loc P m ops ⟨i, o, ⟨true, out.x, out.us, s.n, s.n + 2, rdOf s o.op ++ out.us.map (·.1)⟩⟩ s := by
  intro s' g a w h1 h2 h3 h4
  have hn' : out.n ≤ s.n + 2 := by simpa using hn
  refine ⟨gd_run0 h1 ((gd_agree h2).trans hg), fun _ => ?_, fun h => by cases h⟩
  obtain ⟨v, w', g', k1, k2, k3, k4, k5⟩ := hs s'.ev s'.h (ev_agree h2) (fun x hx v hv k hk => h3 k (by
    refine List.mem_append.2 (.inl ?_)
    rw [rdOf, List.mem_flatMap]
    exact ⟨x, hx, by rw [hv]; exact hk⟩)) g w a.eval h1.rel h1.ev (h4 s.n (Nat.le_refl _) (by show s.n < s.n + 2; omega)) (h4 (s.n + 1) (by show s.n ≤ s.n + 1; omega) (by show s.n + 1 < s.n + 2; omega)) o rfl
  have hput := h1.put (n' := s'.n) (d := o.dst) (dstOk_lt hd) k2 k3 k4
  have hu : ∀ k, g'.U k = true → g.U k = true ∨ (s.n ≤ k ∧ k < s.n + 2) := fun k hk => by
    rcases k5 k hk with h | h
    · exact .inl h
    · exact .inr ⟨h.1, by omega⟩
  unfold Oper.wp
  rcases k1 with k1 | ⟨k1, rfl⟩
  · rw [k1]; exact ⟨v, g', rfl, hput, k4, hu⟩
  · rw [k1]; exact ⟨undef, g', rfl, hput, k4, hu⟩
theorem Loc_astep (htab : TabOk P tab) {i : Nat} {o : Oper} {s : St} (mu : Bool) (hg : gdV s ops o = some true) (hd : dstOk m o = true) {out : Out} (hs : astep tab s.ev s.h s.n mu o.op = some out) (hn : Nat.ble out.n (s.n + 2) = true) :
    Loc P m ops ⟨i, o, ⟨true, out.x, out.us, s.n, s.n + 2, rdOf s o.op ++ out.us.map (·.1)⟩⟩ s := by
  intro s' g a w h1 h2 h3 h4
  have hn' : out.n ≤ s.n + 2 := by simpa using hn
  refine ⟨gd_run0 h1 ((gd_agree h2).trans hg), fun _ => ?_, fun h => by cases h⟩
  have hag : astep tab s'.ev s'.h s.n mu o.op = some out := by
    rw [← hs]
    refine astep_agree (ev_agree h2) fun x hx v hv k hk => h3 k ?_
    refine List.mem_append.2 (.inl ?_)
    rw [rdOf, List.mem_flatMap]
    refine ⟨x, hx, ?_⟩
    have hx' : x ∈ o.op.operands := memOps_sub hx
    rw [← ev_agree h2 x hx', hv]; exact hk
  obtain ⟨v, w', g', k1, k2, k3, k4, k5⟩ := astep_sound htab h1.rel h1.ev (h4 s.n (Nat.le_refl _) (by show s.n < s.n + 2; omega)) (h4 (s.n + 1) (by show s.n ≤ s.n + 1; omega) (by show s.n + 1 < s.n + 2; omega)) hag
  have hput := h1.put (n' := s'.n) (d := o.dst) (dstOk_lt hd) k2 k3 k4
  have hu : ∀ k, g'.U k = true → g.U k = true ∨ (s.n ≤ k ∧ k < s.n + 2) := fun k hk => by
    rcases k5 k hk with h | h
    · exact .inl h
    · exact .inr ⟨h.1, by omega⟩
  unfold Oper.wp
  rcases k1 with k1 | ⟨k1, rfl⟩
  · rw [k1]; exact ⟨v, g', rfl, hput, k4, hu⟩
  · rw [k1]; exact ⟨undef, g', rfl, hput, k4, hu⟩
theorem Loc_skip {i : Nat} {o : Oper} {s : St} (hg : gdV s ops o = some false) : Loc P m ops ⟨i, o, ⟨false, .tu [], [], s.n, s.n, []⟩⟩ s :=
  fun s' g a w h1 h2 h3 h4 => ⟨gd_run0 h1 ((gd_agree h2).trans hg), (fun h => by cases h), fun _ => ⟨rfl, rfl⟩⟩
end
end Go.Abs
namespace Go.Abs
open Go.RowKit
variable [Val]
theorem GV.free {g g1 : Gh} {h h1 : Heap} {w : World} (hF : g1.F = g.F) {x : V} {v : Value} (hv : GV g h w x v) (hl : x.lt 0 = true) : GV g1 h1 w x v := by
  have no : ∀ k : Nat, Nat.blt k 0 = true → False := fun k hk => by simp at hk
  induction hv with
  | d x v hx => exact .d x v (hF ▸ hx)
  | p k i j b sz hk hs => exact (no k hl).elim
  | t k e sz rows v hk hx ht => exact (no k hl).elim
  | vn k hk hs => exact (no k hl).elim
  | ve k lo a hk => exact (no k hl).elim
  | v k lo m b sz cap c t fz hk hs hb hc hm => exact (no k hl).elim
  | g cells vs hl' ho hx ih =>
    have hl : V.lts 0 cells = true := by simpa [V.lt] using hl
    exact .g cells vs hl' ho fun i x v h1 h2 => ih i x v h1 h2 (V.lts_mem hl x (List.mem_of_getElem? h1))
  | a cells vs hl' ho hx => exact .a cells vs hl' ho (hF ▸ hx)
  | tu cells vs hl' hx ih =>
    have hl : V.lts 0 cells = true := by simpa [V.lt] using hl
    exact .tu cells vs hl' fun i x v h1 h2 => ih i x v h1 h2 (V.lts_mem hl x (List.mem_of_getElem? h1))
  | f fn first caps vs us h1 h2 g1 g2 i1 i2 =>
    have hl : V.lts 0 first = true ∧ V.lts 0 caps = true := by simpa [V.lt] using hl
    exact .f fn first caps vs us h1 h2 (fun i x v a b => i1 i x v a b (V.lts_mem hl.1 x (List.mem_of_getElem? a))) (fun i x v a b => i2 i x v a b (V.lts_mem hl.2 x (List.mem_of_getElem? a)))
  | m k b sz hk hs => exact (no k hl).elim
  | it k b sz hk hs => exact (no k hl).elim
theorem GL.free {g g1 : Gh} {h h1 : Heap} {w : World} (hF : g1.F = g.F) {xs : List V} {vs : List Value} (hv : GL g h w xs vs) (hl : V.lts 0 xs = true) : GL g1 h1 w xs vs :=
  ⟨hv.len, fun i x v a b => (hv.at_ i x v a b).free hF (V.lts_mem hl x (List.mem_of_getElem? a))⟩
def Gh.bare (g : Gh) : Gh := ⟨fun _ => none, fun _ => none, g.F, fun _ => false⟩
def Gh.over (g g' : Gh) : Gh := ⟨g.σ, g.τ, g'.F, g.U⟩
theorem Rel.bare {g : Gh} {h : Heap} {w : World} (hr : Rel g h w) : Rel g.bare (fun _ => none) w where
  glob := hr.glob
  inj := fun k k' b h1 h2 => by simp [blk] at h1
  lt := fun b ⟨k, hb⟩ => by rcases hb with ⟨sz, hb⟩ | hb <;> cases hb
  fresh := hr.fresh
  top := fun k _ => ⟨rfl, rfl, rfl⟩
  obj := fun k o ho => by cases ho
theorem Ext.over {g g' : Gh} {h h' : Heap} {w w' : World} (hr : Rel g h w) (he : Ext g.bare (fun _ => none) w g' h' w') : Ext g h w (g.over g') h w' where
  n := fun _ h => h
  size := he.size
  os := he.os
  tape := he.tape
  output := he.output
  stays := he.stays
  out := fun b hb _ => he.out b hb (fun ⟨k, hk⟩ => by rcases hk with ⟨sz, hk⟩ | hk <;> cases hk)
  own := fun b hb => .inl hb
  sig := fun _ _ => rfl
  tok := fun k hk n' hn' => ⟨n', hn', .inr ⟨rfl, rfl, fun b hb => by
    have hlt := hr.lt b ⟨k, .inr hb⟩
    have := he.out b hlt (fun ⟨k, hk⟩ => by rcases hk with ⟨sz, hk⟩ | hk <;> cases hk)
    exact ⟨this.2, fun ⟨c, t, hc⟩ => ⟨c, t, this.1.trans hc⟩⟩⟩⟩
theorem Rel.over {g g' : Gh} {h h' : Heap} {w w' : World} (hr : Rel g h w) (he : Ext g.bare (fun _ => none) w g' h' w') (hr' : Rel g' h' w') : Rel (g.over g') h w' := by
  have hx := Ext.over hr he
  have hb : ∀ b, b < w.heap.size → w'.heap[b]? = w.heap[b]? ∧ g'.F b = g.F b := fun b hb => he.out b hb (fun ⟨k, hk⟩ => by rcases hk with ⟨sz, hk⟩ | hk <;> cases hk)
  refine ⟨fun k sz rows hk => (hr.glob k sz rows hk).stay hx.stays, hr.inj, fun b hb => Nat.lt_of_lt_of_le (hr.lt b hb) he.size, hr'.fresh, hr.top, fun k o ho => ?_⟩
  cases hr.obj k o ho with
  | nilvec sz hs => exact .nilvec sz hs
  | row sz rows vec b c t hs hb' hF hrr hc hv hone hx' =>
    have := hb b (hr.lt b ⟨k, .inl ⟨sz, hs⟩⟩)
    exact .row sz rows vec b c t hs (this.1.trans hb') (this.2.trans hF) hrr hc hv hone fun i r j x v a1 a2 a3 => (hx' i r j x v a1 a2 a3).ext hx
  | tok m => exact .tok m
  | it s pos b sz bs hs hb' hsr => exact .it s pos b sz bs hs ((hb b (hr.lt b ⟨k, .inl ⟨sz, hs⟩⟩)).1.trans hb') hsr
  | map es b sz ents clock hs hb' hl' hx' => exact .map es b sz ents clock hs ((hb b (hr.lt b ⟨k, .inl ⟨sz, hs⟩⟩)).1.trans hb') hl' fun i x e a1 a2 => ⟨(hx' i x e a1 a2).1.ext hx, (hx' i x e a1 a2).2.ext hx⟩
def PC (P : Program) (f : FuncId) (args : List V) (r : V) : Prop :=
  V.lts 0 args = true ∧ V.lt 0 r = true ∧ AC P f args (fun _ => none) 0 fun x _ _ => x = r
theorem PC.over {P : Program} {f : FuncId} {args : List V} {r : V} (hp : PC P f args r) {g : Gh} {h : Heap} {w : World} (hr : Rel g h w) {vs : List Value} (hg : GL g h w args vs) :
    Calls P f vs.toArray w fun e w' => ∃ v g', e = .returned v ∧ GV (g.over g') h w' r v ∧ Rel (g.over g') h w' ∧ Ext g h w (g.over g') h w' := by
  refine (hp.2.2 g.bare w vs hr.bare (fun _ _ => rfl) (GL.free (g := g) (g1 := g.bare) rfl hg hp.1)).mono fun e w' ⟨v, x, h', n', g', k1, k2, k3, k4, k5, k6⟩ => ?_
  subst k2
  exact ⟨v, g', k1, GV.free (g := g') (g1 := g.over g') rfl k3 hp.2.1, hr.over k6 k4, k6.over hr⟩
theorem PC.ac {P : Program} {f : FuncId} {args : List V} {r : V} (hp : PC P f args r) (h : Heap) (n : Nat) {K : V → Heap → Nat → Prop} (hk : K r h n) : AC P f args h n K := by
  intro g w vs hr hn hg
  exact (hp.over hr hg).mono fun e w' ⟨v, g', k1, k2, k3, k4⟩ => ⟨v, r, h, n, g.over g', k1, hk, k2, k3, hn, k4⟩
end Go.Abs
namespace Go.Abs
open Go.RowKit
variable [Val]
section
variable {P : Program} {m : Nat} {ops : Array Oper} {o : Oper}
theorem callee_run {s : St} {g : Gh} {w : World} {ρ : Operand → Value} (he : ∀ o x, s.ev o = some x → GV g s.h w x (ρ o)) {f : FuncId} (hcall : ∀ args w, (callFunc f args).run P w = .ok (.enter f args) w) {x : Operand} {as : Array Operand} {ats : Array TypeId}
    (hop : o.op = .call ⟨.value x, as, ats⟩) {a b vs : List V} (hx : callee s x = some (f, a, b)) (ha : evs s.ev as.toList = some vs) :
    ∃ us : List Value, (execOp ρ o).run P w = .ok (.enter f us.toArray) w ∧ GL g s.h w (a ++ vs ++ b) us := by
  have hgl := evs_gl he ha
  have hfn : ∃ p q : List Value, ρ x = .func (.func f) p.toArray q.toArray ∧ GL g s.h w a p ∧ GL g s.h w b q := by
    unfold callee at hx
    split at hx
    · next f' a' b' h' =>
      cases hx
      have hv := (he x _ h').d_inv
      generalize ρ x = q at hv ⊢
      cases hv with
      | f _ _ _ vs us h1 h2 g1 g2 => exact ⟨vs, us, rfl, GL.ofD h1 g1, GL.ofD h2 g2⟩
    · next f' a' b' h' =>
      cases hx
      have hv := he x _ h'
      generalize ρ x = q at hv ⊢
      cases hv with
      | f _ _ _ vs us h1 h2 g1 g2 => exact ⟨vs, us, rfl, ⟨h1, g1⟩, ⟨h2, g2⟩⟩
    · cases hx
  obtain ⟨p, q, hev, hp, hq⟩ := hfn
  refine ⟨p ++ as.toList.map ρ ++ q, ?_, (hp.append hgl).append hq⟩
  unfold execOp
  rw [hop]
  simp only [resolve, hev, Deferred.ofValue, Sem.run_bind, Sem.run_pure, Result.andThen_ok, invoke]
  rw [hcall]
  congr 2
  apply Array.ext'
  simp
theorem Loc_pure {i : Nat} {s : St} {f : FuncId} (hcall : ∀ args w, (callFunc f args).run P w = .ok (.enter f args) w) {x : Operand} {as : Array Operand} {ats : Array TypeId} (hg : gdV s ops o = some true) (hd : dstOk m o = true)
    (hop : o.op = .call ⟨.value x, as, ats⟩) {a b vs : List V} (hx : callee s x = some (f, a, b)) (ha : evs s.ev as.toList = some vs) {r : V} (hp : PC P f (a ++ vs ++ b) r) :
    Loc P m ops ⟨i, o, ⟨true, r, [], s.n, s.n, []⟩⟩ s := by
  intro s' g act w h1 h2 h3 h4
  refine ⟨gd_run0 h1 ((gd_agree h2).trans hg), fun _ => ?_, fun h => by cases h⟩
  have hmem : ∀ y, (y = x ∨ y ∈ as) → y ∈ o.op.operands := by
    intro y hy
    rw [hop]
    simp only [Op.operands, Call.operands]
    rcases hy with rfl | hy <;> simp_all
  have hx' : callee s' x = some (f, a, b) := by
    rw [← hx]; unfold callee; rw [ev_agree h2 x (hmem x (.inl rfl))]
  have ha' : evs s'.ev as.toList = some vs := by
    rw [← ha]; exact evs_agree fun y hy => ev_agree h2 y (hmem y (.inr (by simpa using hy)))
  obtain ⟨us, hrun, hgl⟩ := callee_run h1.ev hcall hop hx' ha'
  unfold Oper.wp
  rw [hrun]
  refine Calls.mono (hp.over h1.rel hgl) fun e w' ⟨v, g', k1, k2, k3, k4⟩ => ?_
  subst k1
  exact ⟨v, g.over g', rfl, h1.put (n' := s'.n) (d := o.dst) (dstOk_lt hd) k2 k3 k4, k4, fun k hk => .inl hk⟩
def NatOk (P : Program) (f : FuncId) (args : List V) (r : V) : Prop :=
  ∀ g h w vs, GL g h w args vs → ∃ v, (callFunc f vs.toArray).run P w = .ok (.value v) w ∧ GV g h w r v
theorem callee_nat {s : St} {g : Gh} {w : World} {ρ : Operand → Value} (he : ∀ o x, s.ev o = some x → GV g s.h w x (ρ o)) {f : FuncId} {x : Operand} {as : Array Operand} {ats : Array TypeId}
    (hop : o.op = .call ⟨.value x, as, ats⟩) {a b vs : List V} (hx : callee s x = some (f, a, b)) (ha : evs s.ev as.toList = some vs) {r : V} (hn : NatOk P f (a ++ vs ++ b) r) :
    ∃ v, (execOp ρ o).run P w = .ok (.value v) w ∧ GV g s.h w r v := by
  have hgl := evs_gl he ha
  have hfn : ∃ p q : List Value, ρ x = .func (.func f) p.toArray q.toArray ∧ GL g s.h w a p ∧ GL g s.h w b q := by
    unfold callee at hx
    split at hx
    · next f' a' b' h' =>
      cases hx
      have hv := (he x _ h').d_inv
      generalize ρ x = q at hv ⊢
      cases hv with
      | f _ _ _ vs us h1 h2 g1 g2 => exact ⟨vs, us, rfl, GL.ofD h1 g1, GL.ofD h2 g2⟩
    · next f' a' b' h' =>
      cases hx
      have hv := he x _ h'
      generalize ρ x = q at hv ⊢
      cases hv with
      | f _ _ _ vs us h1 h2 g1 g2 => exact ⟨vs, us, rfl, ⟨h1, g1⟩, ⟨h2, g2⟩⟩
    · cases hx
  obtain ⟨p, q, hev, hp, hq⟩ := hfn
  obtain ⟨v, h1, h2⟩ := hn g s.h w (p ++ as.toList.map ρ ++ q) ((hp.append hgl).append hq)
  refine ⟨v, ?_, h2⟩
  rw [← h1]
  unfold execOp
  rw [hop]
  simp only [resolve, hev, Deferred.ofValue, Sem.run_bind, Sem.run_pure, Result.andThen_ok, invoke]
  congr 2
  apply Array.ext'
  simp
theorem StepK_nat {s : St} {K : St → Prop} {f : FuncId} {x : Operand} {as : Array Operand} {ats : Array TypeId} (hop : o.op = .call ⟨.value x, as, ats⟩) (hd : dstOk m o = true) {a b vs : List V} (hx : callee s x = some (f, a, b)) (ha : evs s.ev as.toList = some vs) {r : V} (hn : NatOk P f (a ++ vs ++ b) r)
    (hk : K ⟨setD s.e o.dst r, s.h, s.n⟩) : StepK P m o s K := by
  intro g act w hs
  obtain ⟨v, h1, h2⟩ := callee_nat hs.ev hop hx ha hn
  unfold Oper.wp
  rw [h1]
  exact ⟨v, _, g, rfl, hk, hs.put (dstOk_lt hd) h2 hs.rel (Ext.refl _ _ _) hs.new, Ext.refl _ _ _⟩
theorem Loc_nat {i : Nat} {s : St} {f : FuncId} {x : Operand} {as : Array Operand} {ats : Array TypeId} (hg : gdV s ops o = some true) (hd : dstOk m o = true)
    (hop : o.op = .call ⟨.value x, as, ats⟩) {a b vs : List V} (hx : callee s x = some (f, a, b)) (ha : evs s.ev as.toList = some vs) {r : V} (hn : NatOk P f (a ++ vs ++ b) r) :
    Loc P m ops ⟨i, o, ⟨true, r, [], s.n, s.n, []⟩⟩ s := by
  intro s' g act w h1 h2 h3 h4
  refine ⟨gd_run0 h1 ((gd_agree h2).trans hg), fun _ => ?_, fun h => by cases h⟩
  have hmem : ∀ y, (y = x ∨ y ∈ as) → y ∈ o.op.operands := by
    intro y hy
    rw [hop]
    simp only [Op.operands, Call.operands]
    rcases hy with rfl | hy <;> simp_all
  have hx' : callee s' x = some (f, a, b) := by
    rw [← hx]; unfold callee; rw [ev_agree h2 x (hmem x (.inl rfl))]
  have ha' : evs s'.ev as.toList = some vs := by
    rw [← ha]; exact evs_agree fun y hy => ev_agree h2 y (hmem y (.inr (by simpa using hy)))
  obtain ⟨v, hrun, hv⟩ := callee_nat h1.ev hop hx' ha' hn
  unfold Oper.wp
  rw [hrun]
  exact ⟨v, g, rfl, h1.put (n' := s'.n) (d := o.dst) (dstOk_lt hd) hv h1.rel (Ext.refl _ _ _), Ext.refl _ _ _, fun k hk => .inl hk⟩
theorem RO_p {r : List Oper} {Q : St → Prop} {s : St} {f : FuncId} (hg : gdV s ops o = some true) (hcall : ∀ args w, (callFunc f args).run P w = .ok (.enter f args) w) {x : Operand} {as : Array Operand} {ats : Array TypeId}
    (hop : o.op = .call ⟨.value x, as, ats⟩) (hd : dstOk m o = true) {a b vs : List V} (hx : callee s x = some (f, a, b)) (ha : evs s.ev as.toList = some vs) {v : V} (hp : PC P f (a ++ vs ++ b) v)
    (hk : RO P m ops r Q ⟨setD s.e o.dst v, s.h, s.n⟩) : RO P m ops (o :: r) Q s :=
  RO_k hg (StepK_call hcall hop hd hx ha (hp.ac _ _ hk))
end
end Go.Abs
namespace Go.Abs
open Go.RowKit
variable [Val]
noncomputable def inI (m : Nat) (n : Int) : Bool := Int.rec (fun a => Nat.ble (Nat.succ a) m) (fun a => Nat.ble (Nat.succ a) m) n
theorem inI_spec {m : Nat} {n : Int} (h : inI m n = true) : -(m : Int) ≤ n ∧ n < m := by
  cases n with
  | ofNat a => have := Nat.le_of_ble_eq_true (show Nat.ble (Nat.succ a) m = true from h); simp only [Int.ofNat_eq_natCast]; omega
  | negSucc a => have := Nat.le_of_ble_eq_true (show Nat.ble (Nat.succ a) m = true from h); omega
noncomputable def wrapF (k : IntKind) (n : Int) : Int := match k with
  | .i64 => Bool.rec (IntKind.i64.wrap n) n (inI 9223372036854775808 n)
  | .i32 => Bool.rec (IntKind.i32.wrap n) n (inI 2147483648 n)
  | k => k.wrap n
theorem wrapF_eq (k : IntKind) (n : Int) : wrapF k n = k.wrap n := by
  unfold wrapF
  split
  · cases h : inI 9223372036854775808 n with
    | false => rfl
    | true =>
      have := inI_spec h
      show n = _
      unfold IntKind.wrap
      simp only [IntKind.bits, IntKind.signed, Bool.true_and]
      split <;> (rename_i hh; first | omega | (simp at hh; omega))
  · cases h : inI 2147483648 n with
    | false => rfl
    | true =>
      have := inI_spec h
      show n = _
      unfold IntKind.wrap
      simp only [IntKind.bits, IntKind.signed, Bool.true_and]
      split <;> (rename_i hh; first | omega | (simp at hh; omega))
  · rfl
noncomputable def binK (op : BinOp) (k : IntKind) (a b : Int) : Option D := match op with
  | .add => some (.i k (wrapF k (Int.add a b)))
  | .sub => some (.i k (wrapF k (Int.sub a b)))
  | .eql => some (.b (eqI a b))
  | .neq => some (.b (!eqI a b))
  | .lss => some (.b (ltI a b))
  | .leq => some (.b (leI a b))
  | .gtr => some (.b (ltI b a))
  | .geq => some (.b (leI b a))
  | op => binI op k a k b
theorem binK_eq (op : BinOp) (k : IntKind) (a b : Int) : binK op k a b = binI op k a k b := by
  cases op <;> simp only [binK, binI, if_true, wrapF_eq, eqI_eq, ltI_eq, leI_eq] <;> first | rfl | skip
noncomputable def binF (op : BinOp) (k : IntKind) (a : Int) (k' : IntKind) (b : Int) : Option D := match k, k' with
  | .i64, .i64 => binK op .i64 a b
  | .i32, .i32 => binK op .i32 a b
  | .u8, .u8 => binK op .u8 a b
  | k, k' => binI op k a k' b
theorem binF_eq (op : BinOp) (k : IntKind) (a : Int) (k' : IntKind) (b : Int) : binF op k a k' b = binI op k a k' b := by
  unfold binF
  split <;> first | exact binK_eq _ _ _ _ | rfl
noncomputable def binVF (tab : Tab) (op : BinOp) (t : TypeId) (x y : V) : Option V := match x, y with
  | .d (.i k a), .d (.i k' b) => (binF op k a k' b).map .d
  | x, y => binV (fun _ => none) tab op t x y
theorem binVF_eq (h : Heap) (tab : Tab) (op : BinOp) (t : TypeId) (x y : V) : binVF tab op t x y = binV h tab op t x y := by
  unfold binVF
  split
  · rw [binF_eq]; rfl
  · exact binV_agree
end Go.Abs
namespace Go
def Exit.hops (J : Nat → Act → World → Prop) (Q : Exit → Act → World → Prop) : Exit → Act → World → Prop
  | .goto l, a, w => J l a w
  | e, a, w => Q e a w
def Code.hops (P : Program) (c : Code) (Q : Exit → Act → World → Prop) : Nat → Code → Act → World → Prop
  | 0, _, _, _ => False
  | n + 1, d, a, w => d.wp P (Exit.hops (fun l a w => ∃ rest, findLabel c l = some rest ∧ Code.hops P c Q n rest a w) Q) a w
theorem wp_scope_hops {P : Program} {Q : Exit → Act → World → Prop} {a : Act} {w : World} {c : Code} (n : Nat) (h : Code.hops P c Q n c a w) : (Code.scope c).wp P Q a w := by
  intro b k cs
  have key : ∀ n d a w, Code.hops P c Q n d a w → ∃ e a' w', Q e a' w' ∧ Arrives P (lone (b.at a (.code d :: .inScope c :: k)) cs w) b k cs e a' w' := by
    intro n
    induction n with
    | zero => intro d a w h; exact h.elim
    | succ n ih =>
      intro d a w h
      obtain ⟨e, a₁, w₁, hq, harr⟩ := h b (.inScope c :: k) cs
      cases e with
      | normal => exact ⟨.normal, a₁, w₁, hq, Steps.trans harr (.one step_inScope)⟩
      | exit id => exact ⟨.exit id, a₁, w₁, hq, fun k' hk => harr k' (by simp [exitTo, hk])⟩
      | goto l =>
        obtain ⟨rest, hf, h2⟩ := hq
        have hg : gotoIn l (.inScope c :: k) = some (.code rest :: .inScope c :: k) := by simp [gotoIn, hf]
        obtain ⟨e₂, a₂, w₂, hq₂, harr₂⟩ := ih _ _ _ h2
        exact ⟨e₂, a₂, w₂, hq₂, .of_steps (harr _ hg) harr₂⟩
      | ret => exact ⟨_, a₁, w₁, hq, harr⟩
      | panic ch => exact ⟨_, a₁, w₁, hq, harr⟩
      | outgrown => exact ⟨_, a₁, w₁, hq, harr⟩
  obtain ⟨e, a₁, w₁, hq, harr⟩ := key n c a w h
  exact ⟨e, a₁, w₁, hq, .of_steps (.one step_scope) harr⟩
end Go
namespace Go.Abs
open Go.RowKit
variable [Val]
section
variable {P : Program} {m : Nat} {Q : Exit → St → Prop}
def WL (P : Program) (m : Nat) (c : Code) (Q : Exit → St → Prop) : Nat → St → Prop
  | 0, _ => False
  | n + 1, s => W P m c (nx (WL P m c Q n) Q) s
theorem W_rounds {c : Code} (n : Nat) {s : St} (h : WL P m c Q n s) : W P m (.loop c) Q s := by
  intro g0 a0 w0 hs0
  refine wp_loop_rounds n ?_
  have key : ∀ (n : Nat) (s' : St) (g : Gh) (a : Act) (w : World), WL P m c Q n s' → Sat m s' g a w → Ext g0 s.h w0 g s'.h w → (∀ i, writes c i = false → a.tmps.getD i undef = a0.tmps.getD i undef) →
      Code.rounds P c (fun x a' w' => ∃ s' g', Q x s' ∧ Sat m s' g' a' w' ∧ Ext g0 s.h w0 g' s'.h w' ∧ ∀ i, writes (.loop c) i = false → a'.tmps.getD i undef = a0.tmps.getD i undef) n a w := by
    intro n
    induction n with
    | zero => intro s' g a w h _ _ _; exact h.elim
    | succ n ih =>
      intro s' g a w h hs he hf
      refine wp_mono (h g a w hs) fun x a' w' ⟨s2, g2, q1, q2, q3, q4⟩ => ?_
      cases x with
      | normal => exact ih s2 g2 a' w' q1 q2 (he.trans q3) fun i hi => (q4 i hi).trans (hf i hi)
      | _ => exact ⟨s2, g2, q1, q2, he.trans q3, fun i hi => (q4 i hi).trans (hf i hi)⟩
  exact key n s g0 a0 w0 h hs0 (Ext.refl _ _ _) fun _ _ => rfl
@[reducible] def jmp (J : Nat → St → Prop) (Q : Exit → St → Prop) : Exit → St → Prop
  | .goto l, s => J l s
  | x, s => Q x s
def WJ (P : Program) (m : Nat) (c : Code) (Q : Exit → St → Prop) : Nat → Code → St → Prop
  | 0, _, _ => False
  | n + 1, d, s => W P m d (jmp (fun l t => ∃ rest, findLabel c l = some rest ∧ WJ P m c Q n rest t) Q) s
theorem findLabel_writes : ∀ {c rest : Code} {l : Nat}, findLabel c l = some rest → ∀ i, writes c i = false → writes rest i = false
  | .seq a b, rest, l, h, i, hi => by
    have hi : writes a i = false ∧ writes b i = false := by simpa [writes] using hi
    unfold findLabel at h
    split at h
    · next r hr => cases h; simp [writes, findLabel_writes hr i hi.1, hi.2]
    · exact findLabel_writes h i hi.2
  | .label l', rest, l, h, i, hi => by
    unfold findLabel at h
    split at h
    · cases h; rfl
    · cases h
  | .skip, rest, l, h, i, hi => by cases h
  | .region _ _ _, rest, l, h, i, hi => by cases h
  | .cond _ _ _, rest, l, h, i, hi => by cases h
  | .block _ _, rest, l, h, i, hi => by cases h
  | .loop _, rest, l, h, i, hi => by cases h
  | .rangeFunc _ _ _ _, rest, l, h, i, hi => by cases h
  | .exit _, rest, l, h, i, hi => by cases h
  | .scope _, rest, l, h, i, hi => by cases h
  | .goto _, rest, l, h, i, hi => by cases h
  | .ret, rest, l, h, i, hi => by cases h
  | .refuse _, rest, l, h, i, hi => by cases h
theorem W_scope {c : Code} (n : Nat) {s : St} (h : WJ P m c Q n c s) : W P m (.scope c) Q s := by
  intro g0 a0 w0 hs0
  refine wp_scope_hops n ?_
  have key : ∀ (n : Nat) (d : Code) (s' : St) (g : Gh) (a : Act) (w : World), (∀ i, writes c i = false → writes d i = false) → WJ P m c Q n d s' → Sat m s' g a w → Ext g0 s.h w0 g s'.h w → (∀ i, writes c i = false → a.tmps.getD i undef = a0.tmps.getD i undef) →
      Code.hops P c (fun x a' w' => ∃ s' g', Q x s' ∧ Sat m s' g' a' w' ∧ Ext g0 s.h w0 g' s'.h w' ∧ ∀ i, writes (.scope c) i = false → a'.tmps.getD i undef = a0.tmps.getD i undef) n d a w := by
    intro n
    induction n with
    | zero => intro d s' g a w _ h _ _ _; exact h.elim
    | succ n ih =>
      intro d s' g a w hd h hs he hf
      refine wp_mono (h g a w hs) fun x a' w' ⟨s2, g2, q1, q2, q3, q4⟩ => ?_
      cases x with
      | goto l =>
        obtain ⟨rest, hr, hj⟩ := q1
        exact ⟨rest, hr, ih rest s2 g2 a' w' (findLabel_writes hr) hj q2 (he.trans q3) fun i hi => (q4 i (hd i hi)).trans (hf i hi)⟩
      | _ => exact ⟨s2, g2, q1, q2, he.trans q3, fun i hi => (q4 i (hd i hi)).trans (hf i hi)⟩
  exact key n c s g0 a0 w0 (fun _ h => h) h hs0 (Ext.refl _ _ _) fun _ _ => rfl
end
end Go.Abs
namespace Go.Abs
open Go.RowKit
variable [Val]
abbrev Kd := Nat → Option Bool
mutual
def V.on (c : Kd) : V → Bool
  | .d _ | .a _ => true
  | .p k _ _ => c k == some false
  | .t k _ _ _ => (c k).isSome
  | .v k _ _ => c k == some false
  | .m k => c k == some false
  | .it k => c k == some false
  | .g l => V.ons c l
  | .tu l => V.ons c l
  | .f _ x1 y1 => V.ons c x1 && V.ons c y1
def V.ons (c : Kd) : List V → Bool
  | [] => true
  | x :: l => V.on c x && V.ons c l
end
theorem V.ons_mem {c : Kd} : ∀ {l : List V}, V.ons c l = true → ∀ x ∈ l, V.on c x = true
  | [], _, x, hx => by cases hx
  | y :: l, h, x, hx => by
    simp only [V.ons, Bool.and_eq_true] at h
    rcases List.mem_cons.1 hx with rfl | hx
    · exact h.1
    · exact V.ons_mem h.2 x hx
def AObj.on (c : Kd) : AObj → Prop
  | .row _ rows _ => ∀ r ∈ rows, V.ons c r = true
  | .map es => ∀ e ∈ es, V.on c e.1 = true ∧ V.on c e.2 = true
  | _ => True
def AObj.tok? : AObj → Bool
  | .tok _ => true
  | _ => false
structure Same (c : Kd) (g g1 : Gh) (h h1 : Heap) : Prop where
  F : g1.F = g.F
  U : ∀ k, (c k).isSome = true → g.U k = true → g1.U k = true
  σ : ∀ k, c k = some false → g1.σ k = g.σ k
  τ : ∀ k n, (c k).isSome = true → h1 k = some (.tok n) → h k = some (.tok n) ∧ g1.τ k = g.τ k
theorem GV.same {c : Kd} {g g1 : Gh} {h h1 : Heap} {w : World} (hs : Same c g g1 h h1) {x : V} {v : Value} (hv : GV g h w x v) (hl : x.on c = true) : GV g1 h1 w x v := by
  have hp : ∀ k, (c k == some false) = true → c k = some false ∧ (c k).isSome = true := fun k h => by
    have : c k = some false := by simpa using h
    exact ⟨this, by rw [this]; rfl⟩
  induction hv with
  | d x v hx => exact .d x v (hs.F ▸ hx)
  | p k i j b sz hk hσ => have := hp k hl; exact .p k i j b sz (hs.U k this.2 hk) ((hs.σ k this.1).trans hσ)
  | t k e sz rows v hk hx ht =>
    have hl : (c k).isSome = true := hl
    refine .t k e sz rows v (hs.U k hl hk) (hs.F ▸ hx) fun m hm => ?_
    obtain ⟨h0, hτ⟩ := hs.τ k m hl hm
    have h1 := ht m h0
    refine ⟨h1.1, fun he => ?_⟩
    cases h1.2 he with
    | nil => exact .nil _ _
    | full => exact .full _ _
    | here b off n c g1 g2 g3 => exact .here b off n c (hτ.trans g1) (by rw [hs.F]; exact g2) g3
  | vn k hk hσ => have := hp k hl; exact .vn k (hs.U k this.2 hk) ((hs.σ k this.1).trans hσ)
  | ve k lo a hk => have := hp k hl; exact .ve k lo a (hs.U k this.2 hk)
  | v k lo m b sz cap c t fz hk hσ hb hc hm => have := hp k hl; exact .v k lo m b sz cap c t fz (hs.U k this.2 hk) ((hs.σ k this.1).trans hσ) hb hc hm
  | g cells vs hl' ho hx ih =>
    have hl : V.ons c cells = true := by simpa [V.on] using hl
    exact .g cells vs hl' ho fun i x v h1 h2 => ih i x v h1 h2 (V.ons_mem hl x (List.mem_of_getElem? h1))
  | a cells vs hl' ho hx => exact .a cells vs hl' ho (hs.F ▸ hx)
  | tu cells vs hl' hx ih =>
    have hl : V.ons c cells = true := by simpa [V.on] using hl
    exact .tu cells vs hl' fun i x v h1 h2 => ih i x v h1 h2 (V.ons_mem hl x (List.mem_of_getElem? h1))
  | f fn first caps vs us h1 h2 g1 g2 i1 i2 =>
    have hl : V.ons c first = true ∧ V.ons c caps = true := by simpa [V.on] using hl
    exact .f fn first caps vs us h1 h2 (fun i x v a b => i1 i x v a b (V.ons_mem hl.1 x (List.mem_of_getElem? a))) (fun i x v a b => i2 i x v a b (V.ons_mem hl.2 x (List.mem_of_getElem? a)))
  | m k b sz hk hσ => have := hp k hl; exact .m k b sz (hs.U k this.2 hk) ((hs.σ k this.1).trans hσ)
  | it k b sz hk hσ => have := hp k hl; exact .it k b sz (hs.U k this.2 hk) ((hs.σ k this.1).trans hσ)
theorem GL.same {c : Kd} {g g1 : Gh} {h h1 : Heap} {w : World} (hs : Same c g g1 h h1) {xs : List V} {vs : List Value} (hv : GL g h w xs vs) (hl : V.ons c xs = true) : GL g1 h1 w xs vs :=
  ⟨hv.len, fun i x v a b => (hv.at_ i x v a b).same hs (V.ons_mem hl x (List.mem_of_getElem? a))⟩
theorem ObjAt.same {c : Kd} {g g1 : Gh} {h h1 : Heap} {w : World} {k : Nat} {o : AObj} (hs : Same c g g1 h h1) (ho : ObjAt g h w k o) (hk : c k = some (o.tok?)) (hl : o.on c) : ObjAt g1 h1 w k o := by
  cases ho with
  | nilvec sz hσ => exact .nilvec sz ((hs.σ k hk).trans hσ)
  | row sz rows vec b c' t hσ hb hF hr hc hv hone hx => exact .row sz rows vec b c' t ((hs.σ k hk).trans hσ) hb (by rw [hs.F]; exact hF) hr hc hv hone fun i r j x v a1 a2 a3 => (hx i r j x v a1 a2 a3).same hs (V.ons_mem (hl r (List.mem_of_getElem? a1)) x (List.mem_of_getElem? a2))
  | tok m => exact .tok m
  | it s pos b sz bs hσ hb hsr => exact .it s pos b sz bs ((hs.σ k hk).trans hσ) hb hsr
  | map es b sz ents clock hσ hb hl' hx => exact .map es b sz ents clock ((hs.σ k hk).trans hσ) hb hl' fun i x e a1 a2 => ⟨(hx i x e a1 a2).1.same hs (hl x (List.mem_of_getElem? a1)).1, (hx i x e a1 a2).2.same hs (hl x (List.mem_of_getElem? a1)).2⟩
end Go.Abs
namespace Go.Abs
open Go.RowKit
variable [Val]
def Gh.on (g : Gh) (c : Kd) : Gh := ⟨fun k => if c k = some false then g.σ k else none, fun k => if c k = some true then g.τ k else none, g.F, fun k => g.U k && (c k).isSome⟩
def onH (h : Heap) (c : Kd) : Heap := fun k => if (c k).isSome then h k else none
structure KdOk (c : Kd) (h : Heap) : Prop where
  at_ : ∀ k b, c k = some b → ∃ o, h k = some o ∧ o.tok? = b
  on : ∀ k o, (c k).isSome = true → h k = some o → o.on c
theorem KdOk.kind {c : Kd} {h : Heap} (hc : KdOk c h) {k : Nat} {o : AObj} (hk : (c k).isSome = true) (ho : h k = some o) : c k = some o.tok? := by
  cases hb : c k with
  | none => rw [hb] at hk; cases hk
  | some b => obtain ⟨o', h1, h2⟩ := hc.at_ k b hb; rw [ho] at h1; cases h1; rw [h2]
theorem same_on {c : Kd} {g : Gh} {h : Heap} (hc : KdOk c h) : Same c g (g.on c) h (onH h c) where
  F := rfl
  U := fun k h1 h2 => by simp [Gh.on, h1, h2]
  σ := fun k h1 => by simp [Gh.on, h1]
  τ := fun k n h1 h2 => by
    have h2 : h k = some (.tok n) := by simpa [onH, h1] using h2
    refine ⟨h2, ?_⟩
    have := hc.kind h1 h2
    simp [Gh.on, this, AObj.tok?]
theorem blk_of {g : Gh} {h : Heap} {k b : Nat} {o : AObj} (ho : h k = some o) (hb : if o.tok? then g.τ k = some b else ∃ sz, g.σ k = some (b, sz)) : blk g h k = some b := by
  unfold blk
  rw [ho]
  cases o with
  | tok n => simpa [AObj.tok?] using hb
  | _ => obtain ⟨sz, hb⟩ := (by simpa [AObj.tok?] using hb : ∃ sz, g.σ k = some (b, sz)); simp [hb]
theorem blk_inv {g : Gh} {h : Heap} {k b : Nat} (hb : blk g h k = some b) : ∃ o, h k = some o ∧ if o.tok? then g.τ k = some b else ∃ sz, g.σ k = some (b, sz) := by
  unfold blk at hb
  split at hb
  · next n ho => exact ⟨_, ho, by simpa [AObj.tok?] using hb⟩
  · next o hne ho =>
    refine ⟨o, ho, ?_⟩
    have : o.tok? = false := by
      cases o with
      | tok n => exact absurd rfl (hne n)
      | _ => rfl
    rw [this]
    cases hσ : g.σ k with
    | none => rw [hσ] at hb; cases hb
    | some p => rw [hσ] at hb; obtain ⟨b', sz⟩ := p; cases hb; exact ⟨sz, rfl⟩
  · cases hb
theorem blkOwn {g : Gh} {h : Heap} {k b : Nat} (hb : blk g h k = some b) : Own g b := by
  obtain ⟨o, ho, h1⟩ := blk_inv hb
  split at h1
  · exact ⟨k, .inr h1⟩
  · obtain ⟨sz, h1⟩ := h1; exact ⟨k, .inl ⟨sz, h1⟩⟩
theorem own_on {c : Kd} {g : Gh} {h : Heap} (hc : KdOk c h) {b : Nat} (hb : Own (g.on c) b) : ∃ j, (c j).isSome = true ∧ blk g h j = some b := by
  obtain ⟨j, hb⟩ := hb
  rcases hb with ⟨sz, hb⟩ | hb
  · simp only [Gh.on] at hb
    split at hb
    · next e => obtain ⟨o, h1, h2⟩ := hc.at_ j _ e; exact ⟨j, by rw [e]; rfl, blk_of h1 (by rw [h2]; exact ⟨sz, hb⟩)⟩
    · cases hb
  · simp only [Gh.on] at hb
    split at hb
    · next e => obtain ⟨o, h1, h2⟩ := hc.at_ j _ e; exact ⟨j, by rw [e]; rfl, blk_of h1 (by rw [h2]; exact hb)⟩
    · cases hb
theorem Rel.on {c : Kd} {g : Gh} {h : Heap} {w : World} (hr : Rel g h w) (hc : KdOk c h) : Rel (g.on c) (onH h c) w where
  glob := hr.glob
  inj := fun k k' b h1 h2 => by
    have key : ∀ k, blk (g.on c) (onH h c) k = some b → blk g h k = some b := fun k hb => by
      obtain ⟨o, ho, hb⟩ := blk_inv hb
      have hk : (c k).isSome = true ∧ h k = some o := by
        unfold onH at ho
        split at ho
        · next e => exact ⟨e, ho⟩
        · cases ho
      have hkd := hc.kind hk.1 hk.2
      refine blk_of hk.2 ?_
      cases ht : o.tok? with
      | true => rw [ht] at hb hkd; simpa [Gh.on, hkd] using hb
      | false => rw [ht] at hb hkd; simpa [Gh.on, hkd] using hb
    exact hr.inj k k' b (key k h1) (key k' h2)
  lt := fun b hb => by obtain ⟨j, _, h2⟩ := own_on hc hb; exact hr.lt b (blkOwn h2)
  fresh := hr.fresh
  top := fun k hk => by
    by_cases e : (c k).isSome = true
    · have : g.U k = false := by simpa [Gh.on, e] using hk
      have ht := hr.top k this
      cases hb : c k with
      | none => rw [hb] at e; cases e
      | some b => obtain ⟨o, h1, _⟩ := hc.at_ k b hb; rw [ht.1] at h1; cases h1
    · have : c k = none := by simpa using e
      simp [onH, Gh.on, this]
  obj := fun k o ho => by
    unfold onH at ho
    split at ho
    · next e => exact (hr.obj k o ho).same (same_on hc) (hc.kind e ho) (hc.on k o e ho)
    · cases ho
theorem used_on {c : Kd} {g : Gh} {h : Heap} {w : World} (hr : Rel g h w) (hc : KdOk c h) {k : Nat} (hk : (c k).isSome = true) : g.U k = true := by
  cases hu : g.U k with
  | true => rfl
  | false =>
    have ht := hr.top k hu
    cases hb : c k with
    | none => rw [hb] at hk; cases hk
    | some b => obtain ⟨o, h1, _⟩ := hc.at_ k b hb; rw [ht.1] at h1; cases h1
def Gh.mix (g g' : Gh) (c : Kd) (N : Nat → Bool) : Gh :=
  ⟨fun k => if c k = some true then g.σ k else if N k then g'.σ k else g.σ k, fun k => if c k = some false then g.τ k else if N k then g'.τ k else g.τ k, g'.F, fun k => if N k then g'.U k else g.U k⟩
def mixH (h h' : Heap) (N : Nat → Bool) : Heap := fun k => if N k then h' k else h k
structure Mix (c c1 : Kd) (N : Nat → Bool) (g : Gh) (h' : Heap) : Prop where
  old : ∀ k, (c k).isSome = true → N k = true
  new : ∀ k, g.U k = true → N k = true → (c k).isSome = true
  h : ∀ k o, h' k = some o → N k = true ∧ c1 k = some o.tok? ∧ o.on c1
  c1 : ∀ k b, c1 k = some b → ∃ o, h' k = some o ∧ o.tok? = b
  kd : ∀ k o b, h' k = some o → c k = some b → o.tok? = b
section
variable {c c1 : Kd} {N : Nat → Bool} {g g' : Gh} {h h' : Heap} {w w' : World}
theorem same_mix (hm : Mix c c1 N g h') : Same c1 g' (g.mix g' c N) h' (mixH h h' N) where
  F := rfl
  U := fun k h1 h2 => by
    cases hb : c1 k with
    | none => rw [hb] at h1; cases h1
    | some b => obtain ⟨o, h3, _⟩ := hm.c1 k b hb; simp [Gh.mix, (hm.h k o h3).1, h2]
  σ := fun k h1 => by
    obtain ⟨o, h3, h4⟩ := hm.c1 k _ h1
    have : c k ≠ some true := fun e => by have := hm.kd k o _ h3 e; rw [h4] at this; cases this
    simp [Gh.mix, this, (hm.h k o h3).1]
  τ := fun k n h1 h2 => by
    cases hb : c1 k with
    | none => rw [hb] at h1; cases h1
    | some b =>
      obtain ⟨o, h3, h4⟩ := hm.c1 k b hb
      have hN := (hm.h k o h3).1
      have h2 : h' k = some (.tok n) := by simpa [mixH, hN] using h2
      refine ⟨h2, ?_⟩
      have : c k ≠ some false := fun e => by have := hm.kd k _ _ h2 e; cases this
      simp [Gh.mix, this, hN]
theorem Ext.mix (hr : Rel g h w) (hc : KdOk c h) (hm : Mix c c1 N g h') (he : Ext (g.on c) (onH h c) w g' h' w') : Ext g h w (g.mix g' c N) (mixH h h' N) w' where
  n := fun k hk => by
    by_cases e : N k = true
    · have := hm.new k hk e
      have := he.n k (by simp [Gh.on, hk, this])
      simp [Gh.mix, e, this]
    · simp [Gh.mix, e, hk]
  size := he.size
  os := he.os
  tape := he.tape
  output := he.output
  stays := he.stays
  out := fun b hb ho => he.out b hb fun h1 => by obtain ⟨j, _, h2⟩ := own_on hc h1; exact ho (blkOwn h2)
  own := fun b ⟨k, hb⟩ => by
    have old : Own g' b → Own g b ∨ w.heap.size ≤ b := fun h1 => by
      rcases he.own b h1 with h2 | h2
      · obtain ⟨j, _, h3⟩ := own_on hc h2; exact .inl (blkOwn h3)
      · exact .inr h2
    rcases hb with ⟨sz, hb⟩ | hb
    · simp only [Gh.mix] at hb
      split at hb
      · exact .inl ⟨k, .inl ⟨sz, hb⟩⟩
      · split at hb
        · exact old ⟨k, .inl ⟨sz, hb⟩⟩
        · exact .inl ⟨k, .inl ⟨sz, hb⟩⟩
    · simp only [Gh.mix] at hb
      split at hb
      · exact .inl ⟨k, .inr hb⟩
      · split at hb
        · exact old ⟨k, .inr hb⟩
        · exact .inl ⟨k, .inr hb⟩
  sig := fun k hk => by
    simp only [Gh.mix]
    split
    · rfl
    · next e =>
      split
      · next eN =>
        have hcs := hm.new k hk eN
        have := he.sig k (by simp [Gh.on, hk, hcs])
        rw [this]
        cases hb : c k with
        | none => rw [hb] at hcs; cases hcs
        | some b => cases b with
          | true => exact absurd hb e
          | false => simp [Gh.on, hb]
      · rfl
  tok := fun k hk n' hn' => by
    by_cases eN : N k = true
    · have hcs := hm.new k hk eN
      have hn' : h' k = some (.tok n') := by simpa [mixH, eN] using hn'
      obtain ⟨n0, h0, h1⟩ := he.tok k (by simp [Gh.on, hk, hcs]) n' hn'
      have h0 : h k = some (.tok n0) := by simpa [onH, hcs] using h0
      have hkd := hc.kind hcs h0
      have hτ : (g.on c).τ k = g.τ k := by simp [Gh.on, hkd, AObj.tok?]
      have hτ' : (g.mix g' c N).τ k = g'.τ k := by simp [Gh.mix, hkd, AObj.tok?, eN]
      refine ⟨n0, h0, ?_⟩
      rcases h1 with h1 | ⟨h1, h2, h3⟩
      · exact .inl h1
      · exact .inr ⟨h1, by rw [hτ', h2, hτ], fun b hb => h3 b (hτ.trans hb)⟩
    · have hn' : h k = some (.tok n') := by simpa [mixH, eN] using hn'
      have hcn : c k = none := by
        cases hb : c k with
        | none => rfl
        | some b => exact absurd (hm.old k (by rw [hb]; rfl)) eN
      refine ⟨n', hn', .inr ⟨rfl, by simp [Gh.mix, hcn, eN], fun b hb => ?_⟩⟩
      have hbk : blk g h k = some b := blk_of hn' (by simpa [AObj.tok?] using hb)
      have := he.out b (hr.lt b (blkOwn hbk)) fun h1 => by
        obtain ⟨j, hj, h2⟩ := own_on hc h1
        have := hr.inj _ _ _ hbk h2
        subst this; rw [hcn] at hj; cases hj
      exact ⟨this.2, fun ⟨cc, t, hcc⟩ => ⟨cc, t, this.1.trans hcc⟩⟩
end
end Go.Abs
namespace Go.Abs
open Go.RowKit
variable [Val]
section
variable {c c1 : Kd} {N : Nat → Bool} {g g' : Gh} {h h' : Heap} {w w' : World}
theorem not_in (hm : Mix c c1 N g h') {k : Nat} (e : ¬ N k = true) : c k = none := by
  cases hb : c k with
  | none => rfl
  | some b => exact absurd (hm.old k (by rw [hb]; rfl)) e
theorem blk_mix (hm : Mix c c1 N g h') {k b : Nat} (hb : blk (g.mix g' c N) (mixH h h' N) k = some b) : (N k = true ∧ blk g' h' k = some b) ∨ (¬ N k = true ∧ blk g h k = some b) := by
  obtain ⟨o, ho, hb⟩ := blk_inv hb
  by_cases e : N k = true
  · refine .inl ⟨e, ?_⟩
    have ho : h' k = some o := by simpa [mixH, e] using ho
    refine blk_of ho ?_
    cases ht : o.tok? with
    | true =>
      rw [ht] at hb
      have : c k ≠ some false := fun e => by have := hm.kd k _ _ ho e; rw [ht] at this; cases this
      simpa [Gh.mix, this, e] using hb
    | false =>
      rw [ht] at hb
      have : c k ≠ some true := fun e => by have := hm.kd k _ _ ho e; rw [ht] at this; cases this
      simpa [Gh.mix, this, e] using hb
  · refine .inr ⟨e, ?_⟩
    have ho : h k = some o := by simpa [mixH, e] using ho
    have hcn := not_in hm e
    refine blk_of ho ?_
    simpa [Gh.mix, hcn, e] using hb
theorem Rel.mix (hr : Rel g h w) (hc : KdOk c h) (hm : Mix c c1 N g h') (he : Ext (g.on c) (onH h c) w g' h' w') (hr' : Rel g' h' w') : Rel (g.mix g' c N) (mixH h h' N) w' := by
  have hx := Ext.mix hr hc hm he
  have apart : ∀ k k' b, N k = true → blk g' h' k = some b → ¬ N k' = true → blk g h k' = some b → False := fun k k' b h1 h2 h3 h4 => by
    rcases he.own b (blk_own h2) with h5 | h5
    · obtain ⟨j, h6, h7⟩ := own_on hc h5
      have := hr.inj _ _ _ h4 h7
      subst this
      rw [not_in hm h3] at h6; cases h6
    · have := hr.lt b (blk_own h4); omega
  refine ⟨fun k sz rows hk => hr'.glob k sz rows hk, fun k k' b h1 h2 => ?_, fun b ⟨k, hb⟩ => ?_, hr'.fresh, fun k hk => ?_, fun k o ho => ?_⟩
  · rcases blk_mix hm h1 with ⟨a1, a2⟩ | ⟨a1, a2⟩ <;> rcases blk_mix hm h2 with ⟨b1, b2⟩ | ⟨b1, b2⟩
    · exact hr'.inj _ _ _ a2 b2
    · exact (apart k k' b a1 a2 b1 b2).elim
    · exact (apart k' k b b1 b2 a1 a2).elim
    · exact hr.inj _ _ _ a2 b2
  · have old : Own g b → b < w'.heap.size := fun h1 => Nat.lt_of_lt_of_le (hr.lt b h1) he.size
    rcases hb with ⟨sz, hb⟩ | hb
    · simp only [Gh.mix] at hb
      split at hb
      · exact old ⟨k, .inl ⟨sz, hb⟩⟩
      · split at hb
        · exact hr'.lt b ⟨k, .inl ⟨sz, hb⟩⟩
        · exact old ⟨k, .inl ⟨sz, hb⟩⟩
    · simp only [Gh.mix] at hb
      split at hb
      · exact old ⟨k, .inr hb⟩
      · split at hb
        · exact hr'.lt b ⟨k, .inr hb⟩
        · exact old ⟨k, .inr hb⟩
  · by_cases e : N k = true
    · have hu : g'.U k = false := by simpa [Gh.mix, e] using hk
      have ht := hr'.top k hu
      have hcn : c k = none := by
        cases hb : c k with
        | none => rfl
        | some b =>
          have hs : (c k).isSome = true := by rw [hb]; rfl
          have := he.n k (by simp [Gh.on, used_on hr hc hs, hs])
          rw [hu] at this; cases this
      simp [mixH, Gh.mix, e, hcn, ht]
    · have hu : g.U k = false := by simpa [Gh.mix, e] using hk
      have ht := hr.top k hu
      simp [mixH, Gh.mix, e, not_in hm e, ht]
  · by_cases e : N k = true
    · have ho : h' k = some o := by simpa [mixH, e] using ho
      have := hm.h k o ho
      exact (hr'.obj k o ho).same (same_mix hm) this.2.1 this.2.2
    · have ho : h k = some o := by simpa [mixH, e] using ho
      have hcn := not_in hm e
      have hσ : (g.mix g' c N).σ k = g.σ k := by simp [Gh.mix, hcn, e]
      have keep : ∀ b sz, g.σ k = some (b, sz) → o.tok? = false → w'.heap[b]? = w.heap[b]? ∧ g'.F b = g.F b := fun b sz hb ht => by
        have hbk : blk g h k = some b := blk_of ho (by rw [ht]; exact ⟨sz, hb⟩)
        refine he.out b (hr.lt b (blk_own hbk)) fun h1 => ?_
        obtain ⟨j, hj, h2⟩ := own_on hc h1
        have := hr.inj _ _ _ hbk h2
        subst this; rw [hcn] at hj; cases hj
      cases hr.obj k o ho with
      | nilvec sz hs => exact .nilvec sz (hσ.trans hs)
      | row sz rows vec b cc t hs hb' hF hrr hcc hv hone hx' =>
        have := keep b sz hs rfl
        exact .row sz rows vec b cc t (hσ.trans hs) (this.1.trans hb') (this.2.trans hF) hrr hcc hv hone fun i r j x v a1 a2 a3 => (hx' i r j x v a1 a2 a3).ext hx
      | tok m => exact .tok m
      | it s pos b sz bs hs hb' hsr => exact .it s pos b sz bs (hσ.trans hs) ((keep b sz hs rfl).1.trans hb') hsr
      | map es b sz ents clock hs hb' hl' hx' => exact .map es b sz ents clock (hσ.trans hs) ((keep b sz hs rfl).1.trans hb') hl' fun i x e a1 a2 => ⟨(hx' i x e a1 a2).1.ext hx, (hx' i x e a1 a2).2.ext hx⟩
end
end Go.Abs
namespace Go.Abs
open Go.RowKit
variable [Val]
theorem rel_sub {g : Gh} {h h1 : Heap} {w : World} (hr : Rel g h w) (hs : ∀ k, h1 k = h k ∨ h1 k = none) : Rel g h1 w ∧ Ext g h w g h1 w := by
  have up : ∀ k o, h1 k = some o → h k = some o := fun k o ho => by
    rcases hs k with h2 | h2
    · rw [← h2]; exact ho
    · rw [h2] at ho; cases ho
  have he : Ext g h w g h1 w := {
    n := fun _ h => h
    size := Nat.le_refl _
    os := rfl
    tape := rfl
    output := rfl
    stays := Stays.refl _ _
    out := fun _ _ _ => ⟨rfl, rfl⟩
    own := fun _ h => .inl h
    sig := fun _ _ => rfl
    tok := fun j _ n' hn' => ⟨n', up _ _ hn', .inr ⟨rfl, rfl, fun _ _ => ⟨rfl, id⟩⟩⟩ }
  refine ⟨⟨hr.glob, fun k k' b h2 h3 => ?_, hr.lt, hr.fresh, fun k hk => ⟨?_, (hr.top k hk).2⟩, fun k o ho => ?_⟩, he⟩
  · have key : ∀ k, blk g h1 k = some b → blk g h k = some b := fun k hb => by
      obtain ⟨o, ho, hb⟩ := blk_inv hb
      exact blk_of (up k o ho) hb
    exact hr.inj k k' b (key k h2) (key k' h3)
  · cases ho : h1 k with
    | none => rfl
    | some o => have := up k o ho; rw [(hr.top k hk).1] at this; cases this
  · exact (hr.obj k o (up k o ho)).ext he (hr.used (up k o ho)) fun _ _ _ => ⟨rfl, rfl⟩
abbrev HL := List (Nat × AObj)
noncomputable def lko (l : HL) (k : Nat) : Option AObj := List.rec none (fun p _ ih => Prod.rec (fun j o => Bool.rec ih (some o) (Nat.beq j k)) p) l
theorem lko_cons (p : Nat × AObj) (l : HL) (k : Nat) : lko (p :: l) k = if k = p.1 then some p.2 else lko l k := by
  obtain ⟨j, o⟩ := p
  show (Bool.rec (lko l k) (some o) (Nat.beq j k) : Option AObj) = _
  rw [beq_dec]
  by_cases e : j = k
  · simp [e]
  · rw [decide_eq_false e, if_neg (Ne.symm e)]
theorem lko_mem {l : HL} {k : Nat} {o : AObj} (h : lko l k = some o) : (k, o) ∈ l := by
  induction l with
  | nil => cases h
  | cons p l ih =>
    rw [lko_cons] at h
    split at h
    · next e => cases h; subst e; exact List.mem_cons_self
    · exact List.mem_cons_of_mem _ (ih h)
noncomputable def kdL (K : HL) : Kd := fun k => (lko K k).map AObj.tok?
theorem kdL_some {K : HL} {k : Nat} {b : Bool} (h : kdL K k = some b) : ∃ o, lko K k = some o ∧ o.tok? = b := by
  unfold kdL at h
  cases ho : lko K k with
  | none => rw [ho] at h; cases h
  | some o => rw [ho] at h; cases h; exact ⟨o, rfl, rfl⟩
theorem kdL_is {K : HL} {k : Nat} (h : (kdL K k).isSome = true) : ∃ o, lko K k = some o := by
  cases hb : kdL K k with
  | none => rw [hb] at h; cases h
  | some b => obtain ⟨o, h1, _⟩ := kdL_some hb; exact ⟨o, h1⟩
theorem kdL_of {K : HL} {k : Nat} {o : AObj} (h : lko K k = some o) : kdL K k = some o.tok? := by unfold kdL; rw [h]; rfl
noncomputable def inN (K : HL) (n n2 : Nat) (k : Nat) : Bool := Option.rec (Nat.ble n k && Nat.blt k n2) (fun _ => true) (lko K k)
theorem inN_some {K : HL} {n n2 k : Nat} {o : AObj} (h : lko K k = some o) : inN K n n2 k = true := by unfold inN; rw [h]
theorem inN_none {K : HL} {n n2 k : Nat} (h : lko K k = none) : inN K n n2 k = true ↔ n ≤ k ∧ k < n2 := by
  unfold inN; rw [h]; simp
theorem call_frame {P : Program} {f : FuncId} {args : List V} {g : Gh} {h : Heap} {w : World} (hr : Rel g h w) {K K1 : HL} {n n1 n2 : Nat} {r : V} {h1 : Heap}
    (hK : ∀ k o, lko K k = some o → h k = some o) (hcl : ∀ k o, lko K k = some o → o.on (kdL K)) (hargs : V.ons (kdL K) args = true) (hkey : ∀ k o, lko K k = some o → k < n)
    (hfree : ∀ k, n ≤ k → k < n2 → g.U k = false)
    (hac : AC P f args (lko K) n fun x hh nn => x = r ∧ hh = h1 ∧ nn = n1)
    (hK1 : ∀ k, lko K1 k = h1 k ∨ lko K1 k = none) (hcl1 : ∀ k o, lko K1 k = some o → o.on (kdL K1)) (hr1 : V.on (kdL K1) r = true)
    (hin : ∀ k o, lko K1 k = some o → inN K n n2 k = true) (hkd : ∀ k o o', lko K1 k = some o → lko K k = some o' → o.tok? = o'.tok?)
    {vs : List Value} (hvs : GL g h w args vs) :
    Calls P f vs.toArray w fun e w' => ∃ v g', e = .returned v ∧ GV g' (mixH h (lko K1) (inN K n n2)) w' r v ∧ Rel g' (mixH h (lko K1) (inN K n n2)) w' ∧ Ext g h w g' (mixH h (lko K1) (inN K n n2)) w' ∧
      ∀ k, g'.U k = true → g.U k = true ∨ (n ≤ k ∧ k < n2) := by
  have hc : KdOk (kdL K) h := ⟨fun k b hb => by obtain ⟨o, h2, h3⟩ := kdL_some hb; exact ⟨o, hK k o h2, h3⟩, fun k o hk ho => by
    obtain ⟨o', h2⟩ := kdL_is hk
    have := hK k o' h2
    rw [ho] at this; cases this
    exact hcl k o h2⟩
  have hon : onH h (kdL K) = lko K := by
    funext k
    unfold onH
    split
    · next e => obtain ⟨o, h2⟩ := kdL_is e; rw [h2]; exact hK k o h2
    · next e =>
      cases ho : lko K k with
      | none => rfl
      | some o => rw [kdL_of ho] at e; exact absurd rfl e
  have hr0 := hr.on hc
  have hvs0 := hvs.same (same_on (g := g) hc) hargs
  rw [hon] at hr0 hvs0
  refine (hac (g.on (kdL K)) w vs hr0 (fun k hk => ?_) hvs0).mono fun e w' ⟨v, x, hh, nn, g1, e1, ⟨ex, eh, en⟩, k3, k4, k5, k6⟩ => ?_
  · cases hs : (kdL K k).isSome with
    | false => simp [Gh.on, hs]
    | true => obtain ⟨o, h2⟩ := kdL_is hs; have := hkey k o h2; omega
  · subst ex; subst eh; subst en
    obtain ⟨s1, s2⟩ := rel_sub k4 hK1
    have he : Ext (g.on (kdL K)) (onH h (kdL K)) w g1 (lko K1) w' := by rw [hon]; exact k6.trans s2
    have hm : Mix (kdL K) (kdL K1) (inN K n n2) g (lko K1) := {
      old := fun k hk => by obtain ⟨o, h2⟩ := kdL_is hk; exact inN_some h2
      new := fun k h2 h3 => by
        cases ho : lko K k with
        | some o => rw [kdL_of ho]; rfl
        | none => have := (inN_none ho).1 h3; rw [hfree k this.1 this.2] at h2; cases h2
      h := fun k o ho => ⟨hin k o ho, kdL_of ho, hcl1 k o ho⟩
      c1 := fun k b hb => kdL_some hb
      kd := fun k o b ho hb => by obtain ⟨o', h2, h3⟩ := kdL_some hb; rw [hkd k o o' ho h2, h3] }
    refine ⟨v, g.mix g1 (kdL K) (inN K n n2), e1, (k3.ext s2).same (same_mix hm) hr1, hr.mix hc hm he s1, Ext.mix hr hc hm he, fun k hk => ?_⟩
    by_cases hN : inN K n n2 k = true
    · cases ho : lko K k with
      | some o => exact .inl (used_on hr hc (by rw [kdL_of ho]; rfl))
      | none => exact .inr ((inN_none ho).1 hN)
    · have : g.U k = true := by simpa [Gh.mix, hN] using hk
      exact .inl this
end Go.Abs
