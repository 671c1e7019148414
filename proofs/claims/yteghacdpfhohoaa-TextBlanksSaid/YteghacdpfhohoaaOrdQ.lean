/-
  A region that draws its order, walked by a tree of orders: reads AND QUIET CALLS are taken ahead; where two operations stand ready that may not be taken ahead, both ways are walked; the last operation n (if n is one of the region's) may break S.
-/
import Derived.Test.YteghacdpfhohoaaOrdN
namespace Go.Proofs.Yteghacdpfhohoaa
namespace Ord
variable {P : Program} {ops : Array Oper} {Q : Exit → Act → World → Prop} {md : Region.Mode} {S : World → Prop}
/-- in every world that meets S the operation calls a function that answers v and leaves the world as it is. -/
def YieldsCall (P : Program) (ops : Array Oper) (S : World → Prop) (o : Oper) (v : Value) (a : Act) : Prop :=
  Region.wanted o (yielded ops a.tmps) = true ∧ ∃ f args, ∀ w, S w → (execOp a.eval o).run P w = .ok (.enter f args) w ∧ Calls P f args w (fun e w' => e = .returned v ∧ w = w')
def Y (P : Program) (ops : Array Oper) (S : World → Prop) (o : Oper) (v : Value) (a : Act) : Prop := YieldsIf P ops S o v a ∨ YieldsCall P ops S o v a
theorem Y.wpOp {i : Nat} {o : Oper} {v : Value} {a : Act} (hi : ops[i]? = some o) (hy : Y P ops S o v a)
    {K : Act → World → Prop} {w : World} (hS : S w) (h : K (a.put o.dst v) w) : wpOp P ops Q i K a w := by
  rcases hy with hy | ⟨hw, f, args, hc⟩
  · exact hy.wpOp hi hS h
  · unfold Go.wpOp
    simp only [hi]
    obtain ⟨h1, h2⟩ := hc w hS
    simp only [hw, if_true, Oper.wp, h1, Oper.upon]
    refine .inl (h2.mono ?_)
    rintro e w' ⟨rfl, rfl⟩
    exact h
theorem Y.of_same {o : Oper} {v : Value} {a a' : Act} (hy : Y P ops S o v a) (he : execOp a'.eval o = execOp a.eval o)
    (hw : Region.wanted o (yielded ops a'.tmps) = Region.wanted o (yielded ops a.tmps)) : Y P ops S o v a' := by
  rcases hy with hy | hy
  · exact .inl (hy.of_same he hw)
  · right
    unfold YieldsCall at *
    rw [he, hw]
    exact hy
theorem wpOp_putY {j : Nat} {oi oj : Oper} {v : Value} (hj : ops[j]? = some oj) (hap : oi.apart ops oj = true)
    (hsi : ∀ cs b, oi.op ≠ .select cs b) (hsj : ∀ cs b, oj.op ≠ .select cs b)
    (hQ : ∀ c a w, Q (.panic c) (a.put oi.dst v) w → Q (.panic c) a w) {K : Act → World → Prop} {a : Act} {w : World}
    (hy : Y P ops S oi v a) (h : wpOp P ops Q j K (a.put oi.dst v) w) :
    wpOp P ops Q j (fun a' w' => Y P ops S oi v a' ∧ K (a'.put oi.dst v) w') a w := by
  obtain ⟨h1, h2, h3⟩ := Oper.apart_spec hap
  have keep : ∀ (a : Act), Y P ops S oi v a → ∀ u, Y P ops S oi v (a.put oj.dst u) := fun a hy u =>
    hy.of_same (execOp_put oi hsi a oj.dst u h3) (wanted_put oi a oj.dst u h3)
  have keepD : ∀ d, Y P ops S oi v { a with defers := d :: a.defers } := fun d => hy.of_same rfl rfl
  unfold wpOp at *
  simp only [hj] at *
  rw [wanted_put oj a oi.dst v h1] at h
  split
  · rename_i hw
    simp only [hw, if_true] at h
    rcases h with h | ⟨hasks, hlets⟩
    case inr => exact .inr ⟨by unfold Oper.asks at *; rw [execOp_put oj hsj a oi.dst v h1] at hasks; exact hasks, hlets⟩
    refine .inl ?_
    unfold Oper.wp at *
    rw [execOp_put oj hsj a oi.dst v h1] at h
    generalize (execOp a.eval oj).run P w = r at *
    cases r with
    | ok n w' =>
      cases n <;> simp only [Oper.upon] at h ⊢
      case value u => exact ⟨keep a hy u, by rw [← Act.put_comm a v u h2]; exact h⟩
      case skip => exact ⟨keep a hy _, by rw [← Act.put_comm a v undef h2]; exact h⟩
      case defer d =>
        refine ⟨keep _ (keepD d) _, ?_⟩
        rw [← Act.put_comm _ v undef h2, ← Act.put_defers]
        exact h
      case enter f args =>
        refine Calls.mono h fun e w'' he => ?_
        cases e with
        | returned u => exact ⟨keep a hy u, by rw [← Act.put_comm a v u h2]; exact he⟩
        | panicked c => exact hQ _ _ _ he
        | outgrown => exact he
      case row row args => exact Rows.mono h fun u w'' he => ⟨keep a hy u, by rw [← Act.put_comm a v u h2]; exact he⟩
    | halt x w' =>
      cases x <;> simp only [Oper.upon] at h ⊢
      case panic u => exact hQ _ _ _ h
  · rename_i hw
    simp only [hw] at h
    exact ⟨keep a hy _, by rw [← Act.put_comm a v undef h2]; exact h⟩
/-- the last operation cannot come up while i has not. -/
def Behind (md : Region.Mode) (ops : Array Oper) (n i : Nat) (listed : Array Bool) : Prop :=
  ops[n]? = none ∨ Region.waitsFor md ops n i = true ∨ ∃ m, Region.waitsFor md ops n m = true ∧ Region.waitsFor md ops m i = true ∧ listed.getD m true = false
theorem behind_not {n i : Nat} {listed : Array Bool} (hl : Behind md ops n i listed) (hi : listed.getD i true = false) : n ∉ Region.ready md ops listed := by
  rcases hl with h | h
  · intro hn
    obtain ⟨_, o, ho, _⟩ := mem_ready.1 hn
    rw [h] at ho
    cases ho
  · exact not_ready h hi
theorem first_Q {n i : Nat} {oi : Oper} {v : Value} (hin : i ≠ n) (hi : ops[i]? = some oi) (hsel : ∀ (j : Nat) (o : Oper) cs b, ops[j]? = some o → o.op ≠ .select cs b)
    (hQ : ∀ c a w, Q (.panic c) (a.put oi.dst v) w → Q (.panic c) a w) :
    ∀ (fuel : Nat) (listed : Array Bool) (a : Act) (w : World),
      Behind md ops n i listed →
      (∀ j oj, ops[j]? = some oj → j ≠ i → listed.getD j true = false → (∀ e ∈ oj.after, Region.binds md e = true → e.on ≠ i) → oi.apart ops oj = true) →
      i ∈ Region.ready md ops listed → Y P ops S oi v a → S w →
      wpAnyM P md ops Q S n fuel (listed.setIfInBounds i true) (a.put oi.dst v) w → wpAnyM P md ops Q S n (fuel + 1) listed a w := by
  intro fuel
  induction fuel with
  | zero =>
    intro listed a w _ _ hr hy hS H
    refine ⟨fun h => (by rw [h] at hr; cases hr), fun j hj => ?_⟩
    by_cases hji : j = i
    · subst hji; exact hy.wpOp hi hS ⟨fun _ => hS, H⟩
    · have := ready_mono hj hji
      rw [H.1] at this
      cases this
  | succ fuel ih =>
    intro listed a w hl hfree hr hy hS H
    refine ⟨fun h => (by rw [h] at hr; cases hr), fun j hj => ?_⟩
    by_cases hji : j = i
    · subst hji; exact hy.wpOp hi hS ⟨fun _ => hS, H⟩
    · have h1 := H.2 j (ready_mono hj hji)
      obtain ⟨hjun, oj, hoj, hall⟩ := mem_ready.1 hj
      have hnot : ∀ e ∈ oj.after, Region.binds md e = true → e.on ≠ i := fun e he hb heq => by
        have h1 := hall e he hb
        have h0 := (mem_ready.1 hr).1
        rw [heq] at h1
        rcases Nat.lt_or_ge i listed.size with h' | h'
        · simp [h'] at h0 h1; rw [h0] at h1; cases h1
        · simp [Array.getElem?_eq_none h'] at h1
      have hjn : j ≠ n := by
        rintro rfl
        exact behind_not hl (mem_ready.1 hr).1 hj
      have h2 := wpOp_putY hoj (hfree j oj hoj hji hjun hnot) (fun cs b => hsel i oi cs b hi) (fun cs b => hsel j oj cs b hoj) hQ hy h1
      have hfree' : ∀ k ok, ops[k]? = some ok → k ≠ i → (listed.setIfInBounds j true).getD k true = false →
          (∀ e ∈ ok.after, Region.binds md e = true → e.on ≠ i) → oi.apart ops ok = true := fun k ok hk hki hun hno => by
        refine hfree k ok hk hki ?_ hno
        by_cases hjk : j = k
        · subst hjk; exact hjun
        · rw [getD_set_ne true hjk] at hun; exact hun
      have hl' : Behind md ops n i (listed.setIfInBounds j true) := by
        rcases hl with h | h | ⟨m, m1, m2, m3⟩
        · exact .inl h
        · exact .inr (.inl h)
        · refine .inr (.inr ⟨m, m1, m2, ?_⟩)
          have hjm : j ≠ m := by
            rintro rfl
            exact not_ready (.inl m2) (mem_ready.1 hr).1 hj
          rw [getD_set_ne true hjm]
          exact m3
      refine wpOp_mono (fun a' w' h3 => ⟨fun _ => h3.2.1 hjn, ih (listed.setIfInBounds j true) a' w' hl' hfree' (ready_mono hr (Ne.symm hji)) h3.1 (h3.2.1 hjn) ?_⟩) h2
      rw [Array.setIfInBounds_comm _ _ hji]
      exact h3.2.2
/-- the walk by a tree; behind the last operation nothing is asked of the world. -/
def wpQ (P : Program) (ops : Array Oper) (Q : Exit → Act → World → Prop) (S : World → Prop) (n : Nat) : Lay → Act → World → Prop
  | .nil, a, w => Q .normal a w
  | .one _ (some oi) true r, a, w => ∃ v, Y P ops S oi v a ∧ wpQ P ops Q S n r (a.put oi.dst v) w
  | .one i (some _) false r, a, w => wpOp P ops Q i (fun a' w' => (i ≠ n → S w') ∧ wpQ P ops Q S n r a' w') a w
  | .two i (some _) r j (some _) s, a, w => wpOp P ops Q i (fun a' w' => (i ≠ n → S w') ∧ wpQ P ops Q S n r a' w') a w ∧ wpOp P ops Q j (fun a' w' => (j ≠ n → S w') ∧ wpQ P ops Q S n s a' w') a w
  | _, _, _ => False
def okQ (md : Region.Mode) (ops : Array Oper) (n : Nat) : Tree → Array Bool → Bool
  | .nil, listed => Region.ready md ops listed == []
  | .one i true r, listed => i != n && (ops.size ≤ n || lastBehind md ops n listed i) && Region.free md ops listed i && (Region.ready md ops listed).contains i && okQ md ops n r (listed.setIfInBounds i true)
  | .one i false r, listed => (Region.ready md ops listed == [i]) && (i != n || (match r with | .nil => true | _ => false)) && okQ md ops n r (listed.setIfInBounds i true)
  | .two i r j s, listed => i != n && j != n && (Region.ready md ops listed == [i, j]) && okQ md ops n r (listed.setIfInBounds i true) && okQ md ops n s (listed.setIfInBounds j true)
theorem Q_of_tree {n : Nat} {l : List Oper} (hs : Region.noSelect l.toArray = true) (hp : ∀ (c : _) (a : Act) (d : Option Tmp) (v : Value) (w : World), Q (.panic c) (a.put d v) w → Q (.panic c) a w) : ∀ (t : Tree) (fuel : Nat) (listed : Array Bool) (a : Act) (w : World),
    t.depth ≤ fuel → okQ md l.toArray n t listed = true → (S w ∨ t = .nil) → wpQ P l.toArray Q S n (layT l t) a w → wpAnyM P md l.toArray Q S n fuel listed a w := by
  intro t
  induction t with
  | nil =>
    intro fuel listed a w _ ho _ h
    have hr : Region.ready md l.toArray listed = [] := by simpa [okQ] using ho
    cases fuel with
    | zero => exact ⟨hr, h⟩
    | succ fuel => exact ⟨fun _ => h, by rw [hr]; simp⟩
  | one i b r ih =>
    intro fuel listed a w hf ho hS h
    replace hS : S w := by rcases hS with hS | hS; exact hS; cases hS
    cases fuel with
    | zero => simp [Tree.depth] at hf
    | succ fuel =>
      have hf' : r.depth ≤ fuel := by simp [Tree.depth] at hf; omega
      cases hi : l[i]? with
      | none => cases b <;> simp [layT, hi, wpQ] at h
      | some oi =>
        cases b with
        | true =>
          simp only [layT, hi, wpQ] at h
          obtain ⟨v, hy, h⟩ := h
          simp only [okQ, Bool.and_eq_true, bne_iff_ne] at ho
          have hi' : l.toArray[i]? = some oi := by simpa using hi
          have hlb : Behind md l.toArray n i listed := by
            have := ho.1.1.1.2
            rw [Bool.or_eq_true] at this
            rcases this with h1 | h1
            · exact .inl (Array.getElem?_eq_none (by simpa using h1))
            · unfold lastBehind at h1
              rw [Bool.or_eq_true] at h1
              rcases h1 with h1 | h1
              · exact .inr (.inl h1)
              · rw [List.any_eq_true] at h1
                obtain ⟨m, _, hm⟩ := h1
                rw [Bool.and_eq_true, Bool.and_eq_true] at hm
                refine .inr (.inr ⟨m, hm.1.1, hm.1.2, ?_⟩)
                have h3 := hm.2
                cases hx : listed.getD m true
                · rfl
                · rw [hx] at h3; cases h3
          exact first_Q ho.1.1.1.1 hi' (Region.noSelect_spec hs) (fun c a w hq => hp c a _ _ w hq) fuel listed a w hlb (Region.free_spec hi' ho.1.1.2) (by simpa using ho.1.2) hy hS (ih fuel _ _ _ hf' ho.2 (.inl hS) h)
        | false =>
          simp only [layT, hi, wpQ] at h
          simp only [okQ, Bool.and_eq_true, beq_iff_eq] at ho
          refine ⟨fun h0 => (by rw [ho.1.1] at h0; cases h0), fun j hj => ?_⟩
          rw [ho.1.1] at hj
          have : j = i := by simpa using hj
          subst this
          refine wpOp_mono (fun a' w' hh => ⟨hh.1, ih fuel _ _ _ hf' ho.2 ?_ hh.2⟩) h
          by_cases hjn : j = n
          · right
            have h2 := ho.1.2
            simp only [hjn, bne_self_eq_false, Bool.false_or] at h2
            cases r <;> first | rfl | cases h2
          · exact .inl (hh.1 hjn)
  | two i r j s ih1 ih2 =>
    intro fuel listed a w hf ho hS h
    cases fuel with
    | zero => simp [Tree.depth] at hf
    | succ fuel =>
      have hf1 : r.depth ≤ fuel := by simp [Tree.depth] at hf; omega
      have hf2 : s.depth ≤ fuel := by simp [Tree.depth] at hf; omega
      cases hi : l[i]? with
      | none => cases hj : l[j]? <;> simp [layT, hi, hj, wpQ] at h
      | some oi =>
        cases hj : l[j]? with
        | none => simp [layT, hi, hj, wpQ] at h
        | some oj =>
          simp only [layT, hi, hj, wpQ] at h
          simp only [okQ, Bool.and_eq_true, beq_iff_eq, bne_iff_ne] at ho
          obtain ⟨⟨⟨⟨n1, n2⟩, hr⟩, o1⟩, o2⟩ := ho
          refine ⟨fun h0 => (by rw [hr] at h0; cases h0), fun k hk => ?_⟩
          rw [hr] at hk
          have hk' : k = i ∨ k = j := by simpa using hk
          rcases hk' with rfl | rfl
          · exact wpOp_mono (fun a' w' hh => ⟨hh.1, ih1 fuel _ _ _ hf1 o1 (.inl (hh.1 n1)) hh.2⟩) h.1
          · exact wpOp_mono (fun a' w' hh => ⟨hh.1, ih2 fuel _ _ _ hf2 o2 (.inl (hh.1 n2)) hh.2⟩) h.2
/-- the beginning. (n: the last operation, exempt from S; 999: none.) -/
theorem region_Q {id : Nat} {l : List Oper} {a : Act} {w : World} (n : Nat) (t : Tree) (hm : P.follows .mixedOrders = true) (hs : Region.noSelect l.toArray = true)
    (hB : okQ .any l.toArray n t (Array.replicate l.toArray.size false) = true) (hd : t.depth ≤ l.toArray.size) (hp : ∀ (c : _) (a : Act) (d : Option Tmp) (v : Value) (w : World), Q (.panic c) (a.put d v) w → Q (.panic c) a w) (hS : S w.drew)
    (h : S w.drew → wpQ P l.toArray Q S n (layT l t) a w.drew) : (Code.region id l.toArray true).wp P Q a w :=
  wp_region_any hm (any_of_M _ _ _ _ (Q_of_tree hs hp t _ _ _ _ hd hB (.inl hS) (h hS)))
theorem takeQ {n i : Nat} {r : Lay} {a : Act} {w : World} {oi : Oper} {v : Value} (hy : YieldsIf P ops S oi v a) (h : wpQ P ops Q S n r (a.put oi.dst v) w) : wpQ P ops Q S n (.one i (some oi) true r) a w := ⟨v, .inl hy, h⟩
/-- a quiet call. -/
theorem takeC {n i : Nat} {r : Lay} {a : Act} {w : World} {oi : Oper} {v : Value} (f : FuncId) (args : Array Value) (hw : Region.wanted oi (yielded ops a.tmps) = true) (he : ∀ w, S w → (execOp a.eval oi).run P w = .ok (.enter f args) w)
    (hc : ∀ w, S w → Calls P f args w (fun e w' => e = .returned v ∧ w = w')) (h : wpQ P ops Q S n r (a.put oi.dst v) w) : wpQ P ops Q S n (.one i (some oi) true r) a w :=
  ⟨v, .inr ⟨hw, f, args, fun w hS => ⟨he w hS, hc w hS⟩⟩, h⟩
theorem aloneQ {n i : Nat} {r : Lay} {a : Act} {w : World} {o : Oper} (ho : ops[i]? = some o) (hw : Region.wanted o (yielded ops a.tmps) = true)
    (h : ∀ K' : Act → World → Prop, Shut (∀ a w, S w → (S w → wpQ P ops Q S n r a w) → K' a w) → Oper.wp P o a w K' Q) :
    wpQ P ops Q S n (.one i (some o) false r) a w :=
  wpOp_step ho (fun K' hK => by rw [if_pos hw]; exact h K' (fun a w hS hW => hK a w ⟨fun _ => hS, hW hS⟩))
theorem twoQ {n i j : Nat} {r s : Lay} {a : Act} {w : World} {o p : Oper} (ho : ops[i]? = some o) (hw : Region.wanted o (yielded ops a.tmps) = true) (ho' : ops[j]? = some p) (hw' : Region.wanted p (yielded ops a.tmps) = true)
    (h : ∀ K' : Act → World → Prop, Shut (∀ a w, S w → (S w → wpQ P ops Q S n r a w) → K' a w) → Oper.wp P o a w K' Q)
    (h' : ∀ K' : Act → World → Prop, Shut (∀ a w, S w → (S w → wpQ P ops Q S n s a w) → K' a w) → Oper.wp P p a w K' Q) :
    wpQ P ops Q S n (.two i (some o) r j (some p) s) a w :=
  ⟨wpOp_step ho (fun K' hK => by rw [if_pos hw]; exact h K' (fun a w hS hW => hK a w ⟨fun _ => hS, hW hS⟩)), wpOp_step ho' (fun K' hK => by rw [if_pos hw']; exact h' K' (fun a w hS hW => hK a w ⟨fun _ => hS, hW hS⟩))⟩
theorem lastQ {n : Nat} {r : Lay} {a : Act} {w : World} {o : Oper} (ho : ops[n]? = some o) (hw : Region.wanted o (yielded ops a.tmps) = true)
    (h : ∀ K' : Act → World → Prop, Shut (∀ a w, wpQ P ops Q S n r a w → K' a w) → Oper.wp P o a w K' Q) :
    wpQ P ops Q S n (.one n (some o) false r) a w :=
  wpOp_step ho (fun K' hK => by rw [if_pos hw]; exact h K' (fun a w hW => hK a w ⟨fun hne => absurd rfl hne, hW⟩))
theorem doneQ {n : Nat} {a : Act} {w : World} (h : Q .normal a w) : wpQ P ops Q S n .nil a w := h
end Ord
end Go.Proofs.Yteghacdpfhohoaa
