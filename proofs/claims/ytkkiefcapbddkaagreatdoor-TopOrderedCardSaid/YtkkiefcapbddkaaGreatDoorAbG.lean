/-
  the machine: maps, records, arrays, oracles.
-/
import Derived.Test.YtkkiefcapbddkaaGreatDoorAbF
import Derived.MapKept
import Derived.Laws.StructEq
import Derived.Test.YtkkiefcapbddkaaGreatDoorProg
import Derived.Below
import Derived.Lib.Bytealg
import Derived.Laws.Externs
set_option linter.all false
namespace Go.Abs
open Go.RowKit
variable [Val]
section
variable {P : Program} {g : Gh} {h : Heap} {w : World} {tab : Tab}
theorem makeMap_run (hr : Rel g h w) {n : Nat} (hq : g.U n = false) (t : TypeId) : VS P (Instr.makeMap t none) g h w n ⟨.m n, [(n, some (.map []))], n + 1⟩ := by
  have he : Ext g h w { σ := up g.σ n (some (w.heap.size, 0)), τ := g.τ, F := up g.F w.heap.size 0, U := up g.U n true } (up h n (some (.map []))) (w.alloc (.map #[] 0)) :=
    ext_new hr n (.inl hq) (.map #[] 0) (some (w.heap.size, 0)) g.τ 0 _ (.inr ⟨hq, 0, rfl⟩) (fun k b hb => .inl hb) (fun k hk n' hn' => by rw [up_ne _ _ _ (fresh_ne hq hk)] at hn'; exact ⟨n', hn', .inr ⟨rfl, rfl⟩⟩)
  obtain ⟨a1, a2⟩ := rel_new hr hq (.map #[] 0) 0 (.map []) (fun _ => by simp) (.map [] w.heap.size 0 #[] 0 (up_same _ _ _) (heap_alloc_new w _) rfl (fun i x e h => by simp at h))
  refine ⟨_, _, _, ?_, .m n w.heap.size 0 (up_same _ _ _) (up_same _ _ _), a1, a2, fun k hk => up_used (Nat.le_refl _) (Nat.lt_succ_self _) hk⟩
  unfold Instr.makeMap
  simp only [Sem.run_bind, Sem.run_pure]
  rfl
noncomputable def idxS (s : List Sb) (es : List (V × V)) : Option (Option Nat) := List.rec (some none) (fun e _ ih => Prod.rec (fun k _ => Option.rec none (fun y => ob (eqS s y) fun b => Bool.rec (ob ih fun r => some (Option.rec none (fun j => some (Nat.succ j)) r)) (some (some 0)) b) (asS k)) e) es
theorem asS_ok {v : V} {s : List Sb} (h : asS v = some s) : v = .d (.s s) := by
  cases v with
  | d d => cases d with
    | s x => cases h; rfl
    | _ => cases h
  | _ => cases h
def Found (kind : TypeDesc) (key : Value) (es : List (V × V)) (ents : List MapEntry) (i0 : Nat) : Option Nat → Prop
  | none => Instr.findNow kind key ents i0 = some none
  | some j => ∃ e x, ents[j]? = some e ∧ es[j]? = some x ∧ e.key = key ∧ Instr.findNow kind key ents i0 = some (some (i0 + j, e.val))
theorem findNow_str {s : List Sb} {b : ByteArray} (hs : SR s b.data.toList) : ∀ {es : List (V × V)} {ents : List MapEntry} {r : Option Nat} (i0 : Nat), ents.length = es.length →
    (∀ (i : Nat) x e, es[i]? = some x → ents[i]? = some e → GV g h w x.1 e.key) → idxS s es = some r → Found .string (.string b) es ents i0 r
  | [], [], r, i0, hl, hx, hr => by
    have hr : some none = some r := hr
    cases hr
    exact rfl
  | [], _ :: _, r, i0, hl, hx, hr => by cases hl
  | _ :: _, [], r, i0, hl, hx, hr => by cases hl
  | (k, v) :: es, e :: ents, r, i0, hl, hx, hr => by
    have hr : (Option.rec none (fun y => ob (eqS s y) fun b => Bool.rec (ob (idxS s es) fun r => some (Option.rec none (fun j => some (Nat.succ j)) r)) (some (some 0)) b) (asS k) : Option (Option Nat)) = some r := hr
    cases hk : asS k with
    | none => rw [hk] at hr; cases hr
    | some y =>
      rw [hk] at hr
      have hk := asS_ok hk
      subst hk
      have h0 := (hx 0 _ _ rfl rfl).d_inv
      obtain ⟨q, h1, hr⟩ := ob_eq hr
      generalize hek : e.key = ek at h0
      cases h0 with
      | s _ b2 hs2 =>
        have hq : (b == b2) = q := by
          show (b.data == b2.data) = q
          rw [← eqS_ok h1 hs hs2, Bool.eq_iff_iff, beq_iff_eq, beq_iff_eq]
          constructor
          · intro e; rw [e]
          · intro e; exact Array.toList_inj.1 e
        cases q with
        | true =>
          cases hr
          refine ⟨e, _, rfl, rfl, ?_, ?_⟩
          · rw [hek]
            have hq : (b.data == b2.data) = true := hq
            rw [beq_iff_eq] at hq
            cases b; cases b2; cases hq; rfl
          · unfold Instr.findNow
            rw [hek]
            simp only [Instr.sameNow, hq]
            rfl
        | false =>
          obtain ⟨r', h2, hr⟩ := ob_eq hr
          have c2 := findNow_str hs (i0 + 1) (by simpa using hl) (fun i x e a c => hx (i + 1) x e a c) h2
          cases r' with
          | none =>
            cases hr
            show Instr.findNow _ _ _ _ = _
            unfold Instr.findNow
            rw [hek]
            simp only [Instr.sameNow, hq]
            exact c2
          | some j =>
            cases hr
            obtain ⟨e', x', d1, d2, d3, d4⟩ := c2
            refine ⟨e', x', d1, d2, d3, ?_⟩
            unfold Instr.findNow
            rw [hek]
            simp only [Instr.sameNow, hq]
            rw [d4, Nat.add_assoc, Nat.add_comm 1 j]
noncomputable def lookS (tab : Tab) (h : Heap) (n : Nat) (t : TypeId) (m k : V) : Option Out :=
  match tab t, m, k with
  | some ⟨.map kt vt, _, _, _⟩, .m j, .d (.s s) => match h j, tab kt, tab vt with
    | some (.map es), some ⟨.str, _, _, _⟩, some ⟨.int _, _, _, [.i kk z]⟩ => ob (idxS s es) fun r => Option.rec (some (pureO n (.d (.i kk z)))) (fun i => ob (nth es i) fun e => Prod.rec (fun _ v => some (pureO n v)) e) r
    | _, _, _ => none
  | _, _, _ => none
theorem und_map (htab : TabOk P tab) {t kt vt : TypeId} {a b : Nat} {z : List D} (h : tab t = some ⟨.map kt vt, a, b, z⟩) : P.underlying t = some (.map kt vt) := by
  obtain ⟨d, _, hk, hu⟩ := run_und (htab _ _ h) default
  cases d <;> simp [descK] at hk
  obtain ⟨rfl, rfl⟩ := hk
  exact hu
theorem und_str (htab : TabOk P tab) {t : TypeId} {a b : Nat} {z : List D} (h : tab t = some ⟨.str, a, b, z⟩) : P.underlying t = some .string := by
  obtain ⟨d, _, hk, hu⟩ := run_und (htab _ _ h) default
  cases d <;> simp [descK] at hk
  exact hu
theorem lookS_run (htab : TabOk P tab) (hr : Rel g h w) {n : Nat} {t : TypeId} {m k : V} {o : Out} (ho : lookS tab h n t m k = some o) {vm vk : Value} (hm : GV g h w m vm) (hk : GV g h w k vk) : VS P (Instr.lookup t vm vk false) g h w n o := by
  unfold lookS at ho
  split at ho
  · next kt vt _ _ _ j s ht =>
    split at ho
    · next es _ _ _ _ _ _ kk z hj hkt hvt =>
      have h0 := hk.d_inv
      cases h0 with
      | s _ b hs =>
      cases hm with
      | m _ bk sz hn hsg =>
        cases hr.obj j _ hj with
        | map _ bk' sz' ents clock hs' hb hl hx =>
          rw [hsg] at hs'; cases hs'
          obtain ⟨r, h1, ho⟩ := ob_eq ho
          have hf := findNow_str (g := g) (h := h) (w := w) hs (es := es) (ents := ents.toList) 0 (by simpa using hl) (fun i x e a c => (hx i x e a (by simpa using c)).1) h1
          have hum := und_map htab ht
          have huk := und_str htab hkt
          have hik : MapKept.IsKey .string (.string b) := trivial
          cases r with
          | none =>
            cases ho
            obtain ⟨zv, z1, z2, z3, z4⟩ := run_zero (htab _ _ hvt) w
            have hf : Instr.findNow .string (.string b) ents.toList 0 = some none := hf
            have hz : zv = .int kk z := by
              have z3 : isAggV zv = false := z3
              have hc : zv.cells = #[zv] := by cases zv <;> first | rfl | cases z3
              rw [hc] at z2
              have := (mapD_get z2).2 0 zv (.i kk z) rfl rfl
              unfold valD at this
              split at this <;> first | (cases this; rfl) | cases this
            refine VS.pure hr (v := zv) ?_ ?_
            · simp [Instr.lookup, run_underlying hum, MapKept.run_getObj_map hb, MapKept.run_checkKey huk hik, MapKept.run_findKey huk hf, z1, Result.andThen]
            · rw [hz]; exact .d _ _ (.i _ _)
          | some i =>
            obtain ⟨e, x, e1, e2, e3, e4⟩ := hf
            have ho : ob (nth es i) (fun e => Prod.rec (fun _ v => some (pureO n v)) e) = some o := ho
            rw [nth_eq, e2] at ho
            obtain ⟨xk, xv⟩ := x
            cases ho
            refine VS.pure hr (v := e.val) ?_ ?_
            · simp [Instr.lookup, run_underlying hum, MapKept.run_getObj_map hb, MapKept.run_checkKey huk hik, MapKept.run_findKey huk e4, Result.andThen]
            · exact (hx i _ _ e2 (by simpa using e1)).2
    · cases ho
  · cases ho
noncomputable def updS (tab : Tab) (h : Heap) (n : Nat) (t : TypeId) (m k v : V) : Option Out :=
  match tab t, m, k with
  | some ⟨.map kt _, _, _, _⟩, .m j, .d (.s s) => match h j, tab kt with
    | some (.map es), some ⟨.str, _, _, _⟩ => ob (idxS s es) fun r => some ⟨.tu [], [(j, some (.map (Option.rec (appL es [(k, v)]) (fun i => setL es (k, v) i) r)))], n⟩
    | _, _ => none
  | _, _, _ => none
theorem setL_get {α : Type} : ∀ (l : List α) (x : α) (i k : Nat), (setL l x i)[k]? = if k = i ∧ k < l.length then some x else l[k]?
  | [], x, i, k => by show ([] : List α)[k]? = _; simp
  | y :: l, x, 0, k => by
    show (x :: l)[k]? = _
    cases k <;> simp
  | y :: l, x, i + 1, k => by
    show (y :: setL l x i)[k]? = _
    cases k with
    | zero => simp
    | succ k =>
      rw [List.getElem?_cons_succ, setL_get l x i k]
      simp
theorem setL_len {α : Type} : ∀ (l : List α) (x : α) (i : Nat), (setL l x i).length = l.length
  | [], x, i => rfl
  | y :: l, x, 0 => rfl
  | y :: l, x, i + 1 => by show (y :: setL l x i).length = _; simp [setL_len l x i]
theorem map_set (hr : Rel g h w) {j bk sz : Nat} {es : List (V × V)} {ents : Array MapEntry} {clock : Nat} (hsg : g.σ j = some (bk, sz)) (hj : h j = some (.map es)) (hb : w.heap[bk]? = some (.map ents clock)) :
    ∀ (es' : List (V × V)) (ents' : Array MapEntry) (clock' : Nat), ents'.size = es'.length →
      (∀ (i : Nat) x e, es'[i]? = some x → ents'[i]? = some e → GV g h w x.1 e.key ∧ GV g h w x.2 e.val) →
      Rel g (upds h [(j, some (.map es'))]) { w with heap := w.heap.setIfInBounds bk (.map ents' clock') } ∧ Ext g h w g (upds h [(j, some (.map es'))]) { w with heap := w.heap.setIfInBounds bk (.map ents' clock') } := fun es' ents' clock' l1 l2 => by
  have hat : ∀ ob : Obj, At w { w with heap := w.heap.setIfInBounds bk ob } bk := fun ob => ⟨rfl, rfl, rfl, by simp, fun y hy => by simp [Ne.symm hy]⟩
  have hblt : bk < w.heap.size := hr.lt bk (Own.ofσ hsg)
  have he := ext_obj (h' := up h j (some (.map es'))) hr hsg (fun c t fz => by rw [hb]; simp) (hat (.map ents' clock')) (fun q hq => up_ne _ _ _ hq) (fun n => by rw [up_same]; simp)
  refine ⟨rel_own hr hsg hj (fun n => by simp) (fun n => by simp) (hat _) he (.map es' bk sz ents' clock' hsg (by simp [hblt]) l1 fun i x e a c => ?_), he⟩
  exact ⟨((l2 i x e a c).1).ext he, ((l2 i x e a c).2).ext he⟩
theorem map_push {es : List (V × V)} {ents : Array MapEntry} {k v : V} {vk vv : Value} {clock : Nat} (hl : ents.size = es.length)
    (hx : ∀ (i : Nat) x e, es[i]? = some x → ents[i]? = some e → GV g h w x.1 e.key ∧ GV g h w x.2 e.val) (hk : GV g h w k vk) (hv : GV g h w v vv) :
    ∀ (i : Nat) x e, (appL es [(k, v)])[i]? = some x → (ents.push { key := vk, val := vv, born := clock })[i]? = some e → GV g h w x.1 e.key ∧ GV g h w x.2 e.val := fun i x e a c => by
  rw [appL_eq, List.getElem?_append] at a
  rw [Array.getElem?_push] at c
  by_cases hi : i < es.length
  · rw [if_pos hi] at a
    rw [if_neg (by omega)] at c
    exact hx i x e a c
  · rw [if_neg hi] at a
    have hi0 : i = ents.size := by
      by_cases h2 : i = ents.size
      · exact h2
      · rw [if_neg h2] at c
        have := (Array.getElem?_eq_some_iff.1 c).1
        omega
    rw [if_pos hi0] at c
    cases c
    rw [hi0, hl, Nat.sub_self] at a
    cases a
    exact ⟨hk, hv⟩
theorem map_mod {es : List (V × V)} {ents : Array MapEntry} {k v : V} {vk vv : Value} {i : Nat}
    (hx : ∀ (i : Nat) x e, es[i]? = some x → ents[i]? = some e → GV g h w x.1 e.key ∧ GV g h w x.2 e.val) (hk : GV g h w k vk) (hv : GV g h w v vv) :
    ∀ (q : Nat) x e, (setL es (k, v) i)[q]? = some x → (ents.modify i fun e => { e with key := vk, val := vv })[q]? = some e → GV g h w x.1 e.key ∧ GV g h w x.2 e.val := fun q x e a c => by
  rw [setL_get] at a
  rw [Array.getElem?_modify] at c
  split at a
  · next h2 =>
    cases a
    rw [if_pos h2.1.symm] at c
    obtain ⟨e0, _, rfl⟩ := Option.map_eq_some_iff.1 c
    exact ⟨hk, hv⟩
  · next h2 =>
    have hne : ¬ i = q := fun e5 => h2 ⟨e5.symm, (List.getElem?_eq_some_iff.1 a).1⟩
    rw [if_neg hne] at c
    exact hx q x e a c
theorem updS_run (htab : TabOk P tab) (hr : Rel g h w) {n : Nat} {t : TypeId} {m k v : V} {o : Out} (ho : updS tab h n t m k v = some o) {vm vk vv : Value} (hm : GV g h w m vm) (hk : GV g h w k vk) (hv : GV g h w v vv) :
    ∃ w' g', (Instr.mapUpdate t vm vk vv).run P w = .ok () w' ∧ o.x = .tu [] ∧ Rel g' (upds h o.us) w' ∧ Ext g h w g' (upds h o.us) w' ∧ ∀ k, g'.U k = true → g.U k = true := by
  unfold updS at ho
  split at ho
  · next kt vt _ _ _ j s ht =>
    split at ho
    · next es _ _ _ hj hkt =>
      have h0 := hk.d_inv
      cases h0 with
      | s _ b hs =>
      cases hm with
      | m _ bk sz hn hsg =>
        have hgv : ∀ x ∈ es, True := fun _ _ => trivial
        cases hr.obj j _ hj with
        | map _ bk' sz' ents clock hs' hb hl hx =>
          rw [hsg] at hs'; cases hs'
          obtain ⟨r, h1, ho⟩ := ob_eq ho
          cases ho
          have hf := findNow_str (g := g) (h := h) (w := w) hs (es := es) (ents := ents.toList) 0 (by simpa using hl) (fun i x e a c => (hx i x e a (by simpa using c)).1) h1
          have hum := und_map htab ht
          have huk := und_str htab hkt
          have hik : MapKept.IsKey .string (.string b) := trivial
          have hat : ∀ ob : Obj, At w { w with heap := w.heap.setIfInBounds bk ob } bk := fun ob => ⟨rfl, rfl, rfl, by simp, fun y hy => by simp [Array.getElem?_setIfInBounds, Ne.symm hy]⟩
          have hblt : bk < w.heap.size := hr.lt bk (Own.ofσ hsg)
          have fin : ∀ (es' : List (V × V)) (ents' : Array MapEntry) (clock' : Nat), ents'.size = es'.length →
              (∀ (i : Nat) x e, es'[i]? = some x → ents'[i]? = some e → GV g h w x.1 e.key ∧ GV g h w x.2 e.val) →
              Rel g (upds h [(j, some (.map es'))]) { w with heap := w.heap.setIfInBounds bk (.map ents' clock') } ∧ Ext g h w g (upds h [(j, some (.map es'))]) { w with heap := w.heap.setIfInBounds bk (.map ents' clock') } := fun es' ents' clock' l1 l2 => by
            have he := ext_obj (h' := up h j (some (.map es'))) hr hsg (fun c t fz => by rw [hb]; simp) (hat (.map ents' clock')) (fun q hq => up_ne _ _ _ hq) (fun n => by rw [up_same]; simp)
            refine ⟨rel_own hr hsg hj (fun n => by simp) (fun n => by simp) (hat _) he (.map es' bk sz ents' clock' hsg (by simp [hblt]) l1 fun i x e a c => ?_), he⟩
            exact ⟨((l2 i x e a c).1).ext he, ((l2 i x e a c).2).ext he⟩
          cases r with
          | none =>
            have hf : Instr.findNow .string (.string b) ents.toList 0 = some none := hf
            obtain ⟨f1, f2⟩ := fin (appL es [(.d (.s s), v)]) (ents.push { key := .string b, val := vv, born := clock }) (clock + 1) (by rw [appL_eq]; simp [hl]) (fun i x e a c => by
              rw [appL_eq, List.getElem?_append] at a
              rw [Array.getElem?_push] at c
              by_cases hi : i < es.length
              · rw [if_pos hi] at a
                rw [if_neg (by omega)] at c
                exact hx i x e a c
              · rw [if_neg hi] at a
                have hi0 : i = ents.size := by
                  by_cases h2 : i = ents.size
                  · exact h2
                  · rw [if_neg h2] at c
                    have := (Array.getElem?_eq_some_iff.1 c).1
                    omega
                rw [if_pos hi0] at c
                cases c
                rw [hi0, hl, Nat.sub_self] at a
                cases a
                exact ⟨hk, hv⟩)
            refine ⟨_, g, ?_, rfl, f1, f2, fun k hk => hk⟩
            simp [Instr.mapUpdate, run_underlying hum, MapKept.run_getObj_map hb, MapKept.run_checkKey huk hik, MapKept.run_findKey huk hf, MapKept.run_setObj_map _ hb, Result.andThen]
          | some i =>
            obtain ⟨e, x, e1, e2, e3, e4⟩ := hf
            have hi : ents[i]? = some e := by simpa using e1
            have e4 : Instr.findNow .string (.string b) ents.toList 0 = some (some (i, e.val)) := by simpa using e4
            obtain ⟨f1, f2⟩ := fin (setL es (.d (.s s), v) i) (ents.modify i fun e => { e with key := .string b, val := vv }) clock (by rw [setL_len]; simp [hl]) (fun q x e a c => by
              rw [setL_get] at a
              rw [Array.getElem?_modify] at c
              split at a
              · next h2 =>
                cases a
                rw [if_pos h2.1.symm] at c
                obtain ⟨e0, _, rfl⟩ := Option.map_eq_some_iff.1 c
                exact ⟨hk, hv⟩
              · next h2 =>
                have hne : ¬ i = q := fun e5 => h2 ⟨e5.symm, (List.getElem?_eq_some_iff.1 a).1⟩
                rw [if_neg hne] at c
                exact hx q x e a c)
            refine ⟨_, g, ?_, rfl, f1, f2, fun k hk => hk⟩
            simp [Instr.mapUpdate, run_underlying hum, MapKept.run_getObj_map hb, MapKept.run_checkKey huk hik, MapKept.run_findKey huk e4, hi, e3, MapKept.run_keyThatStays hik, MapKept.run_setObj_map _ hb, Result.andThen]
    · cases ho
  · cases ho
end
end Go.Abs
namespace Go.Abs
open Go.RowKit
set_option maxRecDepth 100000
theorem eqPlace (w : World) (a b c d : Int) : (Op.equal 451 (.agg #[.int .i64 a, .int .i64 b]) (.agg #[.int .i64 c, .int .i64 d])).run Go.Proofs.Tryz.prog w = .ok (a == c && b == d) w := by
  unfold Op.equal Op.maxDepth
  rw [run_equalIn_struct w 9999 451 _ _ rfl (by decide +kernel)]
  have hf : ∃ f1 f2 : Field, (Go.Proofs.Tryz.prog.fieldsOf 451).toList = [f1, f2] ∧ f1.name ≠ "_" ∧ f2.name ≠ "_" ∧ f1.type = 3 ∧ f2.type = 3 ∧ f1.offset = 0 ∧ f2.offset = 1 := ⟨_, _, rfl, by decide +kernel, by decide +kernel, rfl, rfl, rfl, rfl⟩
  obtain ⟨f1, f2, e0, e1, e2, e3, e4, e5, e6⟩ := hf
  have p1 : ∀ (x y : Int) (w : World), (part 3 #[.int .i64 x, .int .i64 y] 0).run Go.Proofs.Tryz.prog w = .ok (.int .i64 x) w := fun x y w => rfl
  have p2 : ∀ (x y : Int) (w : World), (part 3 #[.int .i64 x, .int .i64 y] 1).run Go.Proofs.Tryz.prog w = .ok (.int .i64 y) w := fun x y w => rfl
  have hi : Go.Proofs.Tryz.prog.underlying 3 = some (.int .i64) := rfl
  rw [e0]
  simp only [Op.eqFields, if_pos e1, if_pos e2, e3, e4, e5, e6, Sem.run_bind, p1, p2, Result.andThen_ok, run_equalIn_int w 9998 3 .i64 .i64 _ _ hi, Sem.run_ite, Sem.run_pure]
  cases a == c <;> cases b == d <;> rfl
theorem ckPlace (w : World) (e : Bool) (a b : Int) : (Instr.checkKey e 10000 451 (.agg #[.int .i64 a, .int .i64 b])).run Go.Proofs.Tryz.prog w = .ok () w := rfl
variable [Val]
noncomputable def asPl (v : V) : Option (Int × Int) := match v with
  | .a [.i .i64 a, .i .i64 b] => some (a, b)
  | _ => none
theorem asPl_ok {v : V} {p : Int × Int} (h : asPl v = some p) : v = .a [.i .i64 p.1, .i .i64 p.2] := by
  unfold asPl at h
  split at h
  · cases h; rfl
  · cases h
noncomputable def eqPl (p q : Int × Int) : Bool := Bool.rec false (eqI p.2 q.2) (eqI p.1 q.1)
noncomputable def idxP (s : Int × Int) (es : List (V × V)) : Option (Option Nat) := List.rec (some none) (fun e _ ih => Prod.rec (fun k _ => Option.rec none (fun y => Bool.rec (ob ih fun r => some (Option.rec none (fun j => some (Nat.succ j)) r)) (some (some 0)) (eqPl s y)) (asPl k)) e) es
section
variable {g : Gh} {h : Heap} {w : World}
def plV (p : Int × Int) : Value := .agg #[.int .i64 p.1, .int .i64 p.2]
theorem pl_val {p : Int × Int} {v : Value} (hv : GV g h w (.a [.i .i64 p.1, .i .i64 p.2]) v) : v = plV p := by
  cases hv with
  | a cells vs hl ho hx =>
    match vs, hl, hx with
    | [a, b], hl, hx =>
      have h1 := hx 0 _ _ rfl rfl
      have h2 := hx 1 _ _ rfl rfl
      cases h1; cases h2; rfl
theorem eqPl_ok (p q : Int × Int) : eqPl p q = (p.1 == q.1 && p.2 == q.2) := by
  unfold eqPl
  rw [eqI_eq, eqI_eq]
  show (Bool.rec false (p.2 == q.2) (p.1 == q.1) : Bool) = _
  cases p.1 == q.1 <;> rfl
def Asked (key : Value) (es : List (V × V)) (ents : List MapEntry) (i0 : Nat) : Option Nat → Prop
  | none => ∀ w : World, (Instr.findAsking 451 key ents i0).run Go.Proofs.Tryz.prog w = .ok none w
  | some j => ∃ e x, ents[j]? = some e ∧ es[j]? = some x ∧ e.key = key ∧ ∀ w : World, (Instr.findAsking 451 key ents i0).run Go.Proofs.Tryz.prog w = .ok (some (i0 + j, e.val)) w
theorem ask_ok {p : Int × Int} : ∀ {es : List (V × V)} {ents : List MapEntry} {r : Option Nat} (i0 : Nat), ents.length = es.length →
    (∀ (i : Nat) x e, es[i]? = some x → ents[i]? = some e → GV g h w x.1 e.key) → idxP p es = some r → Asked (plV p) es ents i0 r
  | [], [], r, i0, hl, hx, hr => by
    have hr : some none = some r := hr
    cases hr
    exact fun w => rfl
  | [], _ :: _, r, i0, hl, hx, hr => by cases hl
  | _ :: _, [], r, i0, hl, hx, hr => by cases hl
  | (k, v) :: es, e :: ents, r, i0, hl, hx, hr => by
    have hr : (Option.rec none (fun y => Bool.rec (ob (idxP p es) fun r => some (Option.rec none (fun j => some (Nat.succ j)) r)) (some (some 0)) (eqPl p y)) (asPl k) : Option (Option Nat)) = some r := hr
    cases hk : asPl k with
    | none => rw [hk] at hr; cases hr
    | some y =>
      rw [hk] at hr
      have hk := asPl_ok hk
      subst hk
      have hek := pl_val (hx 0 _ _ rfl rfl)
      have hq := eqPl_ok p y
      have hrun : ∀ w : World, (Op.equal 451 (plV p) (plV y)).run Go.Proofs.Tryz.prog w = .ok (eqPl p y) w := fun w => by rw [hq]; exact eqPlace w _ _ _ _
      cases hb : eqPl p y with
      | true =>
        have hr : (Bool.rec (ob (idxP p es) fun r => some (Option.rec none (fun j => some (Nat.succ j)) r)) (some (some 0)) (eqPl p y) : Option (Option Nat)) = some r := hr
        rw [hb] at hr
        cases hr
        rw [hb] at hrun hq
        have hpy : plV p = plV y := by
          have := Eq.symm hq
          rw [Bool.and_eq_true, beq_iff_eq, beq_iff_eq] at this
          unfold plV
          rw [this.1, this.2]
        refine ⟨e, _, rfl, rfl, hek.trans hpy.symm, fun w => ?_⟩
        unfold Instr.findAsking
        rw [hek]
        simp only [Sem.run_bind, hrun, Result.andThen_ok, if_true, Sem.run_pure]
        rfl
      | false =>
        have hr : (Bool.rec (ob (idxP p es) fun r => some (Option.rec none (fun j => some (Nat.succ j)) r)) (some (some 0)) (eqPl p y) : Option (Option Nat)) = some r := hr
        rw [hb] at hr
        rw [hb] at hrun
        obtain ⟨r', h2, hr⟩ := ob_eq hr
        have c2 := ask_ok (i0 + 1) (by simpa using hl) (fun i x e a c => hx (i + 1) x e a c) h2
        cases r' with
        | none =>
          cases hr
          intro w
          unfold Instr.findAsking
          rw [hek]
          simp only [Sem.run_bind, hrun, Result.andThen_ok, Bool.false_eq_true, if_false]
          exact c2 w
        | some j =>
          cases hr
          obtain ⟨e', x', d1, d2, d3, d4⟩ := c2
          refine ⟨e', x', d1, d2, d3, fun w => ?_⟩
          unfold Instr.findAsking
          rw [hek]
          simp only [Sem.run_bind, hrun, Result.andThen_ok, Bool.false_eq_true, if_false]
          rw [d4, Nat.add_assoc, Nat.add_comm 1 j]
theorem run_fk {p : Int × Int} {ents : List MapEntry} {a : Option (Nat × Value)} (hA : ∀ w : World, (Instr.findAsking 451 (plV p) ents 0).run Go.Proofs.Tryz.prog w = .ok a w) (w : World) : (Instr.findKey 451 (plV p) ents).run Go.Proofs.Tryz.prog w = .ok a w := by
  have hu : ∃ fs, Go.Proofs.Tryz.prog.underlying 451 = some (.struct fs) := ⟨_, rfl⟩
  obtain ⟨fs, hu⟩ := hu
  cases ents with
  | nil =>
    have := hA w
    unfold Instr.findAsking at this
    simp only [Sem.run_pure] at this
    simp [Instr.findKey, run_underlying hu, Result.andThen, Instr.findNow]
    cases this; rfl
  | cons e es =>
    have hn : Instr.findNow (.struct fs) (plV p) (e :: es) 0 = none := by
      unfold Instr.findNow
      have : Instr.sameNow (.struct fs) (plV p) e.key = none := rfl
      rw [this]
    simp [Instr.findKey, run_underlying hu, Result.andThen, hn, hA]
noncomputable def lookP' (h : Heap) (n : Nat) (m k : V) : Option Out := match m with
  | .m j => match h j with
    | some (.map es) => ob (asPl k) fun p => ob (idxP p es) fun r => Option.rec (some (pureO n (.d (.i .i64 0)))) (fun i => ob (nth es i) fun e => Prod.rec (fun _ v => some (pureO n v)) e) r
    | _ => none
  | _ => none
noncomputable def lookP (h : Heap) (n : Nat) (t : TypeId) (m k : V) : Option Out := Bool.rec none (lookP' h n m k) (Nat.beq t 446)
theorem lookP_run (hr : Rel g h w) {n : Nat} {t : TypeId} {m k : V} {o : Out} (ho : lookP h n t m k = some o) {vm vk : Value} (hm : GV g h w m vm) (hk : GV g h w k vk) : VS Go.Proofs.Tryz.prog (Instr.lookup t vm vk false) g h w n o := by
  unfold lookP at ho
  cases hb : Nat.beq t 446 with
  | false => rw [hb] at ho; cases ho
  | true =>
    rw [hb] at ho
    have := Nat.eq_of_beq_eq_true hb
    subst this
    have ho : lookP' h n m k = some o := ho
    cases m with
    | m j =>
      unfold lookP' at ho
      simp only at ho
      split at ho
      · next es hj =>
        obtain ⟨p, hp, ho2⟩ := ob_eq ho
        clear ho
        have hp := asPl_ok hp
        subst hp
        have hkv := pl_val hk
        subst hkv
        cases hm with
        | m _ bk sz hn hsg =>
          cases hr.obj j _ hj with
          | map _ bk' sz' ents clock hs' hb hl hx =>
            rw [hsg] at hs'; cases hs'
            obtain ⟨r, h1, ho3⟩ := ob_eq ho2
            have hf := ask_ok (g := g) (h := h) (w := w) (p := p) (es := es) (ents := ents.toList) 0 (by simpa using hl) (fun i x e a c => (hx i x e a (by simpa using c)).1) h1
            have hum : Go.Proofs.Tryz.prog.underlying 446 = some (.map 451 3) := rfl
            have hck : ∀ e : Bool, (Instr.checkKey e 10000 451 (plV p)).run Go.Proofs.Tryz.prog w = .ok () w := fun e => ckPlace w e _ _
            cases r with
            | none =>
              cases ho3
              have hf := run_fk hf w
              have hz : (zeroValue 3).run Go.Proofs.Tryz.prog w = .ok (.int .i64 0) w := rfl
              refine VS.pure hr (v := .int .i64 0) ?_ (.d _ _ (.i _ _))
              simp [Instr.lookup, run_underlying hum, MapKept.run_getObj_map hb, hck, hf, hz, Result.andThen]
            | some i =>
              obtain ⟨e, x, e1, e2, e3, e4⟩ := hf
              have e4 := run_fk e4 w
              have ho4 : ob (nth es i) (fun e => Prod.rec (fun _ v => some (pureO n v)) e) = some o := ho3
              rw [nth_eq, e2] at ho4
              obtain ⟨xk, xv⟩ := x
              cases ho4
              refine VS.pure hr (v := e.val) ?_ ?_
              · simp [Instr.lookup, run_underlying hum, MapKept.run_getObj_map hb, hck, e4, Result.andThen]
              · exact (hx i _ _ e2 (by simpa using e1)).2
      · cases ho
    | _ => cases ho
noncomputable def updP' (h : Heap) (n : Nat) (m k v : V) : Option Out := match m with
  | .m j => match h j with
    | some (.map es) => ob (asPl k) fun p => ob (idxP p es) fun r => some ⟨.tu [], [(j, some (.map (Option.rec (appL es [(k, v)]) (fun i => setL es (k, v) i) r)))], n⟩
    | _ => none
  | _ => none
noncomputable def updP (h : Heap) (n : Nat) (t : TypeId) (m k v : V) : Option Out := Bool.rec none (updP' h n m k v) (Nat.beq t 446)
theorem stay_pl (p : Int × Int) (w : World) : (Instr.keyThatStays (plV p) (plV p)).run Go.Proofs.Tryz.prog w = .ok (plV p) w := by
  have : Instr.sameBits 10000 (plV p) (plV p) = true := by
    unfold plV
    simp [Instr.sameBits]
  unfold Instr.keyThatStays
  rw [if_pos this]
  rfl
theorem updP_run (hr : Rel g h w) {n : Nat} {t : TypeId} {m k v : V} {o : Out} (ho : updP h n t m k v = some o) {vm vk vv : Value} (hm : GV g h w m vm) (hk : GV g h w k vk) (hv : GV g h w v vv) :
    ∃ w' g', (Instr.mapUpdate t vm vk vv).run Go.Proofs.Tryz.prog w = .ok () w' ∧ o.x = .tu [] ∧ Rel g' (upds h o.us) w' ∧ Ext g h w g' (upds h o.us) w' ∧ ∀ k, g'.U k = true → g.U k = true := by
  unfold updP at ho
  cases hb : Nat.beq t 446 with
  | false => rw [hb] at ho; cases ho
  | true =>
    rw [hb] at ho
    have := Nat.eq_of_beq_eq_true hb
    subst this
    have ho : updP' h n m k v = some o := ho
    cases m with
    | m j =>
      unfold updP' at ho
      simp only at ho
      split at ho
      · next es hj =>
        obtain ⟨p, hp, ho2⟩ := ob_eq ho
        clear ho
        have hp := asPl_ok hp
        subst hp
        have hkv := pl_val hk
        subst hkv
        cases hm with
        | m _ bk sz hn hsg =>
          cases hr.obj j _ hj with
          | map _ bk' sz' ents clock hs' hb hl hx =>
            rw [hsg] at hs'; cases hs'
            obtain ⟨r, h1, ho3⟩ := ob_eq ho2
            cases ho3
            have hf := ask_ok (g := g) (h := h) (w := w) (p := p) (es := es) (ents := ents.toList) 0 (by simpa using hl) (fun i x e a c => (hx i x e a (by simpa using c)).1) h1
            have hum : Go.Proofs.Tryz.prog.underlying 446 = some (.map 451 3) := rfl
            have hck : ∀ e : Bool, (Instr.checkKey e 10000 451 (plV p)).run Go.Proofs.Tryz.prog w = .ok () w := fun e => ckPlace w e _ _
            have fin := map_set (h := h) hr hsg hj hb
            cases r with
            | none =>
              have hf := run_fk hf w
              obtain ⟨f1, f2⟩ := fin (appL es [(.a [.i .i64 p.1, .i .i64 p.2], v)]) (ents.push { key := plV p, val := vv, born := clock }) (clock + 1) (by rw [appL_eq]; simp [hl]) (map_push hl hx hk hv)
              refine ⟨_, g, ?_, rfl, f1, f2, fun k hk => hk⟩
              simp [Instr.mapUpdate, run_underlying hum, MapKept.run_getObj_map hb, hck, hf, MapKept.run_setObj_map _ hb, Result.andThen]
            | some i =>
              obtain ⟨e, x, e1, e2, e3, e4⟩ := hf
              have hi : ents[i]? = some e := by simpa using e1
              have e4 := run_fk e4 w
              obtain ⟨f1, f2⟩ := fin (setL es (.a [.i .i64 p.1, .i .i64 p.2], v) i) (ents.modify i fun e => { e with key := plV p, val := vv }) clock (by rw [setL_len]; simp [hl]) (map_mod hx hk hv)
              refine ⟨_, g, ?_, rfl, f1, f2, fun k hk => hk⟩
              simp [Instr.mapUpdate, run_underlying hum, MapKept.run_getObj_map hb, hck, e4, hi, e3, stay_pl, MapKept.run_setObj_map _ hb, Result.andThen]
      · cases ho
    | _ => cases ho
end
end Go.Abs
namespace Go.Abs
open Go.RowKit
set_option maxRecDepth 100000
theorem eq4 (t : TypeId) (ht : Go.Proofs.Tryz.prog.underlying t = some (.struct (Go.Proofs.Tryz.prog.fieldsOf t))) (hs : Go.Proofs.Tryz.prog.stoodInHeld t = false)
    (hf : ∃ f1 f2 f3 f4 : Field, (Go.Proofs.Tryz.prog.fieldsOf t).toList = [f1, f2, f3, f4] ∧ f1.name ≠ "_" ∧ f2.name ≠ "_" ∧ f3.name ≠ "_" ∧ f4.name ≠ "_" ∧ f1.type = 2 ∧ f2.type = 2 ∧ f3.type = 2 ∧ f4.type = 2 ∧ f1.offset = 0 ∧ f2.offset = 1 ∧ f3.offset = 2 ∧ f4.offset = 3)
    (w : World) (a b c d a' b' c' d' : Int) :
    (Op.equalIn 10000 t (.agg #[.int .i64 a, .int .i64 b, .int .i64 c, .int .i64 d]) (.agg #[.int .i64 a', .int .i64 b', .int .i64 c', .int .i64 d'])).run Go.Proofs.Tryz.prog w = .ok (a == a' && b == b' && c == c' && d == d') w := by
  rw [run_equalIn_struct w 9999 t _ _ ht hs]
  obtain ⟨f1, f2, f3, f4, e0, n1, n2, n3, n4, t1, t2, t3, t4, o1, o2, o3, o4⟩ := hf
  have p0 : ∀ (a b c d : Int) (w : World), (part 2 #[.int .i64 a, .int .i64 b, .int .i64 c, .int .i64 d] 0).run Go.Proofs.Tryz.prog w = .ok (.int .i64 a) w := fun a b c d w => rfl
  have p1 : ∀ (a b c d : Int) (w : World), (part 2 #[.int .i64 a, .int .i64 b, .int .i64 c, .int .i64 d] 1).run Go.Proofs.Tryz.prog w = .ok (.int .i64 b) w := fun a b c d w => rfl
  have p2 : ∀ (a b c d : Int) (w : World), (part 2 #[.int .i64 a, .int .i64 b, .int .i64 c, .int .i64 d] 2).run Go.Proofs.Tryz.prog w = .ok (.int .i64 c) w := fun a b c d w => rfl
  have p3 : ∀ (a b c d : Int) (w : World), (part 2 #[.int .i64 a, .int .i64 b, .int .i64 c, .int .i64 d] 3).run Go.Proofs.Tryz.prog w = .ok (.int .i64 d) w := fun a b c d w => rfl
  have hi : Go.Proofs.Tryz.prog.underlying 2 = some (.int .i64) := rfl
  rw [e0]
  simp only [Op.eqFields, if_pos n1, if_pos n2, if_pos n3, if_pos n4, t1, t2, t3, t4, o1, o2, o3, o4, Sem.run_bind, p0, p1, p2, p3, Result.andThen_ok, run_equalIn_int w 9998 2 .i64 .i64 _ _ hi, Sem.run_ite, Sem.run_pure]
  cases a == a' <;> cases b == b' <;> cases c == c' <;> cases d == d' <;> rfl
theorem eqRect (w : World) (a b c d a' b' c' d' : Int) : (Op.equalIn 10000 35 (.agg #[.int .i64 a, .int .i64 b, .int .i64 c, .int .i64 d]) (.agg #[.int .i64 a', .int .i64 b', .int .i64 c', .int .i64 d'])).run Go.Proofs.Tryz.prog w = .ok (a == a' && b == b' && c == c' && d == d') w :=
  eq4 35 rfl (by decide +kernel) ⟨_, _, _, _, rfl, by decide +kernel, by decide +kernel, by decide +kernel, by decide +kernel, rfl, rfl, rfl, rfl, rfl, rfl, rfl, rfl⟩ w a b c d a' b' c' d'
theorem eqSides (w : World) (a b c d a' b' c' d' : Int) : (Op.equalIn 10000 139 (.agg #[.int .i64 a, .int .i64 b, .int .i64 c, .int .i64 d]) (.agg #[.int .i64 a', .int .i64 b', .int .i64 c', .int .i64 d'])).run Go.Proofs.Tryz.prog w = .ok (a == a' && b == b' && c == c' && d == d') w :=
  eq4 139 rfl (by decide +kernel) ⟨_, _, _, _, rfl, by decide +kernel, by decide +kernel, by decide +kernel, by decide +kernel, rfl, rfl, rfl, rfl, rfl, rfl, rfl, rfl⟩ w a b c d a' b' c' d'
end Go.Abs
namespace Go.Abs
open Go.RowKit
set_option maxRecDepth 100000
variable [Val]
noncomputable def x_lookup (tab : Tab) (t : TypeId) (m k : Operand) (ok : Bool) (ev : Operand → Option V) (h : Heap) (n : Nat) : Option Out :=
  Bool.rec (ob (ev m) fun m => ob (ev k) fun k => Option.rec (lookP h n t m k) (fun o => some o) (lookS tab h n t m k)) none ok
noncomputable def x_update (tab : Tab) (t : TypeId) (m k x : Operand) (ev : Operand → Option V) (h : Heap) (n : Nat) : Option Out :=
  ob (ev m) fun m => ob (ev k) fun k => ob (ev x) fun x => Option.rec (updP h n t m k x) (fun o => some o) (updS tab h n t m k x)
noncomputable def x_makeMap (r : Option Operand) (n : Nat) : Option Out := Option.rec (some ⟨.m n, [(n, some (.map []))], n + 1⟩) (fun _ => none) r
section
variable {tab : Tab} {h h' : Heap} {n : Nat} {t : TypeId} {m k v : V}
theorem lookS_agree (hh : ∀ j ∈ tid m, h j = h' j) : lookS tab h n t m k = lookS tab h' n t m k := by
  cases m with
  | m j => have : h j = h' j := hh j (by simp [tid])
           unfold lookS
           cases tab t with
           | none => rfl
           | some ti => obtain ⟨kd, a, b, z⟩ := ti
                        cases kd <;> cases k <;> first | rfl | (rename_i d; cases d <;> first | rfl | simp only [this])
  | _ => unfold lookS
         cases tab t with
         | none => rfl
         | some ti => obtain ⟨kd, a, b, z⟩ := ti; cases kd <;> rfl
theorem lookP_agree (hh : ∀ j ∈ tid m, h j = h' j) : lookP h n t m k = lookP h' n t m k := by
  unfold lookP
  cases m with
  | m j => have : h j = h' j := hh j (by simp [tid])
           unfold lookP'
           simp only [this]
  | _ => rfl
theorem updS_agree (hh : ∀ j ∈ tid m, h j = h' j) : updS tab h n t m k v = updS tab h' n t m k v := by
  cases m with
  | m j => have : h j = h' j := hh j (by simp [tid])
           unfold updS
           cases tab t with
           | none => rfl
           | some ti => obtain ⟨kd, a, b, z⟩ := ti
                        cases kd <;> cases k <;> first | rfl | (rename_i d; cases d <;> first | rfl | simp only [this])
  | _ => unfold updS
         cases tab t with
         | none => rfl
         | some ti => obtain ⟨kd, a, b, z⟩ := ti; cases kd <;> rfl
theorem updP_agree (hh : ∀ j ∈ tid m, h j = h' j) : updP h n t m k v = updP h' n t m k v := by
  unfold updP
  cases m with
  | m j => have : h j = h' j := hh j (by simp [tid])
           unfold updP'
           simp only [this]
  | _ => rfl
end
theorem x_lookup_ok {tab : Tab} (htab : TabOk Go.Proofs.Tryz.prog tab) {t : TypeId} {m k : Operand} {ok : Bool} {ev : Operand → Option V} {h : Heap} {n : Nat} {out : Out} (hs : x_lookup tab t m k ok ev h n = some out) : OpOk Go.Proofs.Tryz.prog (.lookup t m k ok) ev h n out := by
  intro ev' h' h1 h2 g w ρ hr he hq hq1 o ho
  cases ok with
  | true => cases hs
  | false =>
    obtain ⟨vm, a1, hs⟩ := ob_eq hs
    obtain ⟨vk, a2, hs⟩ := ob_eq hs
    have hm : ∀ j ∈ tid vm, h j = h' j := fun j hj => (h2 m (by simp [memOps]) vm a1 j hj).symm
    have b1 := he m vm ((h1 m (by simp [Op.operands])).trans a1)
    have b2 := he k vk ((h1 k (by simp [Op.operands])).trans a2)
    cases hl : lookS tab h n t vm vk with
    | some q =>
      rw [hl] at hs; cases hs
      rw [lookS_agree hm] at hl
      exact Step.ofVS (lookS_run htab hr hl b1 b2) (by rw [execOp, ho])
    | none =>
      rw [hl] at hs
      have hs : lookP h n t vm vk = some out := hs
      rw [lookP_agree hm] at hs
      exact Step.ofVS (lookP_run hr hs b1 b2) (by rw [execOp, ho])
theorem x_update_ok {tab : Tab} (htab : TabOk Go.Proofs.Tryz.prog tab) {t : TypeId} {m k x : Operand} {ev : Operand → Option V} {h : Heap} {n : Nat} {out : Out} (hs : x_update tab t m k x ev h n = some out) : OpOk Go.Proofs.Tryz.prog (.mapUpdate t m k x) ev h n out := by
  intro ev' h' h1 h2 g w ρ hr he hq hq1 o ho
  obtain ⟨vm, a1, hs⟩ := ob_eq hs
  obtain ⟨vk, a2, hs⟩ := ob_eq hs
  obtain ⟨vx, a3, hs⟩ := ob_eq hs
  have hm : ∀ j ∈ tid vm, h j = h' j := fun j hj => (h2 m (by simp [memOps]) vm a1 j hj).symm
  have b1 := he m vm ((h1 m (by simp [Op.operands])).trans a1)
  have b2 := he k vk ((h1 k (by simp [Op.operands])).trans a2)
  have b3 := he x vx ((h1 x (by simp [Op.operands])).trans a3)
  have fin : (∃ w' g', (Instr.mapUpdate t (ρ m) (ρ k) (ρ x)).run Go.Proofs.Tryz.prog w = .ok () w' ∧ out.x = .tu [] ∧ Rel g' (upds h' out.us) w' ∧ Ext g h' w g' (upds h' out.us) w' ∧ ∀ k, g'.U k = true → g.U k = true) → Step Go.Proofs.Tryz.prog g h' w n out ((execOp ρ o).run Go.Proofs.Tryz.prog w) := fun ⟨w', g', c1, c2, c3, c4, c5⟩ => by
    refine ⟨undef, w', g', .inr ⟨?_, rfl⟩, ?_, c3, c4, fun k hk => .inl (c5 k hk)⟩
    · rw [execOp, ho]; simp only [Sem.run_bind, c1]; rfl
    · rw [c2]; exact .tu [] [] rfl GL.nil.at_
  cases hl : updS tab h n t vm vk vx with
  | some q =>
    rw [hl] at hs; cases hs
    rw [updS_agree hm] at hl
    exact fin (updS_run htab hr hl b1 b2 b3)
  | none =>
    rw [hl] at hs
    have hs : updP h n t vm vk vx = some out := hs
    rw [updP_agree hm] at hs
    exact fin (updP_run hr hs b1 b2 b3)
theorem x_makeMap_ok {t : TypeId} {r : Option Operand} {ev : Operand → Option V} {h : Heap} {n : Nat} {out : Out} (hs : x_makeMap r n = some out) : OpOk Go.Proofs.Tryz.prog (.makeMap t r) ev h n out := by
  intro ev' h' h1 h2 g w ρ hr he hq hq1 o ho
  cases r with
  | some _ => cases hs
  | none => cases hs; exact Step.ofVS (makeMap_run hr hq t) (by rw [execOp, ho]; rfl)
end Go.Abs
namespace Go.Abs
open Go.RowKit
set_option maxRecDepth 100000
variable [Val]
noncomputable def eqOp (op : BinOp) (b : Bool) : Option V := match op with
  | .eql => some (.d (.b b))
  | .neq => some (.d (.b (Bool.rec true false b)))
  | _ => none
noncomputable def isN (h : Heap) (v : V) : Bool := match v with
  | .v k _ _ => match h k with
    | some (.row _ (_ :: _) _) => true
    | _ => false
  | _ => false
noncomputable def x_nil (tab : Tab) (op : BinOp) (t : TypeId) (x y : Operand) (ev : Operand → Option V) (h : Heap) (n : Nat) : Option Out := match tab t, y with
  | some ⟨.sl _, _, _, _⟩, .const (.slice none a b) => ob (ev x) fun vx => ob (ev (.const (.slice none a b))) fun vy => match vy with
    | .d .z => Bool.rec none (ob (eqOp op false) fun r => some (pureO n r)) (isN h vx)
    | _ => none
  | _, _ => none
theorem x_nil_ok {tab : Tab} (htab : TabOk Go.Proofs.Tryz.prog tab) {op : BinOp} {t u : TypeId} {x y : Operand} {ev : Operand → Option V} {h : Heap} {n : Nat} {out : Out} (hs : x_nil tab op t x y ev h n = some out) : OpOk Go.Proofs.Tryz.prog (.binOp op t x y u) ev h n out := by
  intro ev' h' h1 h2 g w ρ hr he hq hq1 o ho
  unfold x_nil at hs
  split at hs
  · next e _ _ _ a b ht =>
    obtain ⟨vx, a1, hs⟩ := ob_eq hs
    obtain ⟨vy, a2, hs⟩ := ob_eq hs
    have hm : ∀ j ∈ tid vx, h' j = h j := fun j hj => h2 x (by simp [memOps]) vx a1 j hj
    have b1 := he x vx ((h1 x (by simp [Op.operands])).trans a1)
    have b2 := he _ vy ((h1 _ (by simp [Op.operands])).trans a2)
    split at hs
    · cases hn : isN h vx with
      | false => rw [hn] at hs; cases hs
      | true =>
        rw [hn] at hs
        obtain ⟨r, c1, hs⟩ := ob_eq hs
        cases hs
        have hy : ρ (.const (.slice none a b)) = .slice none 0 0 := by
          have := b2.d_inv
          generalize ρ (.const (.slice none a b)) = q at this
          cases this; rfl
        have hx : ∃ p l c, ρ x = .slice (some p) l c := by
          cases vx with
          | v k lo m =>
            unfold isN at hn
            simp only at hn
            rw [← hm k (by simp [tid])] at hn
            split at hn
            · next sz r rs vec hk =>
              have hsg : ∃ q, g.σ k = some q := by
                cases hr.obj k _ hk with
                | row _ _ _ b c t hk' => exact ⟨_, hk'⟩
              obtain ⟨q, hsg⟩ := hsg
              generalize ρ x = vv at b1
              cases b1 with
              | vn _ _ hk' => rw [hsg] at hk'; cases hk'
              | ve => exact ⟨_, _, _, rfl⟩
              | v => exact ⟨_, _, _, rfl⟩
            · cases hn
          | _ => cases hn
        obtain ⟨p, l, c, hx⟩ := hx
        obtain ⟨d, hd, hk, _⟩ := run_und (htab _ _ ht) w
        cases d <;> simp [descK] at hk
        have heq : (Op.equal t (ρ x) (ρ (.const (.slice none a b)))).run Go.Proofs.Tryz.prog w = .ok false w := by
          rw [hx, hy]
          exact equal_run hd _ _ rfl
        have hg : (eqGuard op t x (.const (.slice none a b)) (ρ x) (ρ (.const (.slice none a b)))).run Go.Proofs.Tryz.prog w = .ok () w := by
          rw [hx]
          exact eqGuard_calm (.inl (by simp)) (by simp)
        unfold eqOp at c1
        split at c1
        · cases c1
          refine Step.ofPure (v := .bool false) (s := do eqGuard .eql t x (.const (.slice none a b)) (ρ x) (ρ (.const (.slice none a b))); binOp .eql t (ρ x) (ρ (.const (.slice none a b)))) hr ?_ (.d _ _ (.b _)) (by rw [execOp, ho])
          simp only [Sem.run_bind, hg, Result.andThen_ok]
          rw [hx, hy] at heq ⊢
          simp only [binOp, Sem.run_bind, heq, Result.andThen_ok]
          rfl
        · cases c1
          refine Step.ofPure (v := .bool true) (s := do eqGuard .neq t x (.const (.slice none a b)) (ρ x) (ρ (.const (.slice none a b))); binOp .neq t (ρ x) (ρ (.const (.slice none a b)))) hr ?_ (.d _ _ (.b _)) (by rw [execOp, ho])
          simp only [Sem.run_bind, hg, Result.andThen_ok]
          rw [hx, hy] at heq ⊢
          simp only [binOp, Sem.run_bind, heq, Result.andThen_ok]
          rfl
        · cases c1
    · cases hs
  · cases hs
end Go.Abs
namespace Go.Abs
open Go.RowKit
set_option maxRecDepth 100000
variable [Val]
noncomputable def as4 (v : V) : Option (Int × Int × Int × Int) := match v with
  | .a [.i .i64 a, .i .i64 b, .i .i64 c, .i .i64 d] => some (a, b, c, d)
  | _ => none
def v4 (p : Int × Int × Int × Int) : Value := .agg #[.int .i64 p.1, .int .i64 p.2.1, .int .i64 p.2.2.1, .int .i64 p.2.2.2]
theorem as4_ok {v : V} {p : Int × Int × Int × Int} (h : as4 v = some p) {g : Gh} {hp : Heap} {w : World} {x : Value} (hv : GV g hp w v x) : x = v4 p := by
  unfold as4 at h
  split at h
  · cases h
    cases hv with
    | a cells vs hl ho hx =>
      match vs, hl, hx with
      | [a, b, c, d], hl, hx =>
        have h1 := hx 0 _ _ rfl rfl
        have h2 := hx 1 _ _ rfl rfl
        have h3 := hx 2 _ _ rfl rfl
        have h4 := hx 3 _ _ rfl rfl
        cases h1; cases h2; cases h3; cases h4; rfl
  · cases h
noncomputable def eq4B (p q : Int × Int × Int × Int) : Bool := Bool.rec false (Bool.rec false (Bool.rec false (eqI p.2.2.2 q.2.2.2) (eqI p.2.2.1 q.2.2.1)) (eqI p.2.1 q.2.1)) (eqI p.1 q.1)
theorem eq4B_ok (p q : Int × Int × Int × Int) : (p.1 == q.1 && p.2.1 == q.2.1 && p.2.2.1 == q.2.2.1 && p.2.2.2 == q.2.2.2) = eq4B p q := by
  unfold eq4B
  rw [eqI_eq, eqI_eq, eqI_eq, eqI_eq]
  show _ = (Bool.rec false (Bool.rec false (Bool.rec false (p.2.2.2 == q.2.2.2) (p.2.2.1 == q.2.2.1)) (p.2.1 == q.2.1)) (p.1 == q.1) : Bool)
  cases p.1 == q.1 <;> cases p.2.1 == q.2.1 <;> cases p.2.2.1 == q.2.2.1 <;> cases p.2.2.2 == q.2.2.2 <;> rfl
noncomputable def x_four (op : BinOp) (t : TypeId) (x y : Operand) (ev : Operand → Option V) (n : Nat) : Option Out := Bool.rec (Bool.rec none (ob (ev x) fun x => ob (ev y) fun y => ob (as4 x) fun p => ob (as4 y) fun q => ob (eqOp op (eq4B p q)) fun r => some (pureO n r)) (Nat.beq t 139))
  (ob (ev x) fun x => ob (ev y) fun y => ob (as4 x) fun p => ob (as4 y) fun q => ob (eqOp op (eq4B p q)) fun r => some (pureO n r)) (Nat.beq t 35)
theorem x_four_ok {op : BinOp} {t u : TypeId} {x y : Operand} {ev : Operand → Option V} {h : Heap} {n : Nat} {out : Out} (hs : x_four op t x y ev n = some out) : OpOk Go.Proofs.Tryz.prog (.binOp op t x y u) ev h n out := by
  have key : ∀ (t : TypeId), Go.Proofs.Tryz.prog.eqGuardType Go.Proofs.Tryz.prog.depth t = false → (∀ (w : World) (p q : Int × Int × Int × Int), (Op.equalIn 10000 t (v4 p) (v4 q)).run Go.Proofs.Tryz.prog w = .ok (eq4B p q) w) →
      (ob (ev x) fun x => ob (ev y) fun y => ob (as4 x) fun p => ob (as4 y) fun q => ob (eqOp op (eq4B p q)) fun r => some (pureO n r)) = some out → OpOk Go.Proofs.Tryz.prog (.binOp op t x y u) ev h n out := fun t hgt heq hs => by
    intro ev' h' h1 h2 g w ρ hr he hq hq1 o ho
    obtain ⟨vx, a1, hs⟩ := ob_eq hs
    obtain ⟨vy, a2, hs⟩ := ob_eq hs
    obtain ⟨p, c1, hs⟩ := ob_eq hs
    obtain ⟨q, c2, hs⟩ := ob_eq hs
    obtain ⟨r, c3, hs⟩ := ob_eq hs
    cases hs
    have b1 := as4_ok c1 (he x vx ((h1 x (by simp [Op.operands])).trans a1))
    have b2 := as4_ok c2 (he y vy ((h1 y (by simp [Op.operands])).trans a2))
    have hg : (eqGuard op t x y (ρ x) (ρ y)).run Go.Proofs.Tryz.prog w = .ok () w := by
      rw [b1, b2]; exact run_eqGuard_agg w op t x y _ _ hgt
    unfold eqOp at c3
    split at c3
    · cases c3
      refine Step.ofPure (v := .bool (eq4B p q)) (s := do eqGuard .eql t x y (ρ x) (ρ y); binOp .eql t (ρ x) (ρ y)) hr ?_ (.d _ _ (.b _)) (by rw [execOp, ho])
      simp only [Sem.run_bind, hg, Result.andThen_ok]
      have := heq w p q
      rw [b1, b2]
      unfold v4 at this ⊢
      rw [run_eql_struct, this]
      rfl
    · cases c3
      refine Step.ofPure (v := .bool (!(eq4B p q))) (s := do eqGuard .neq t x y (ρ x) (ρ y); binOp .neq t (ρ x) (ρ y)) hr ?_ (by cases eq4B p q <;> exact .d _ _ (.b _)) (by rw [execOp, ho])
      simp only [Sem.run_bind, hg, Result.andThen_ok]
      have := heq w p q
      rw [b1, b2]
      unfold v4 at this ⊢
      rw [run_neq_struct, this]
      rfl
    · cases c3
  unfold x_four at hs
  cases h35 : Nat.beq t 35 with
  | true =>
    rw [h35] at hs
    have := Nat.eq_of_beq_eq_true h35
    subst this
    exact key 35 (by decide +kernel) (fun w p q => (eqRect w _ _ _ _ _ _ _ _).trans (by rw [eq4B_ok])) hs
  | false =>
    rw [h35] at hs
    cases h139 : Nat.beq t 139 with
    | true =>
      rw [h139] at hs
      have := Nat.eq_of_beq_eq_true h139
      subst this
      exact key 139 (by decide +kernel) (fun w p q => (eqSides w _ _ _ _ _ _ _ _).trans (by rw [eq4B_ok])) hs
    | false => rw [h139] at hs; cases hs
end Go.Abs
namespace Go.Abs
open Go.RowKit
variable [Val]
noncomputable def x_cap (tab : Tab) (c : Call) (ev : Operand → Option V) (n : Nat) : Option Out := match c with
  | { callee := .builtin .cap, args := ⟨[x]⟩, argTypes := ⟨t :: _⟩ } => match tab t with
    | some ⟨.sl _, _, _, _⟩ => ob (ev x) fun v => match v with
      | .d .z => some (pureO n (.d (.i .i64 0)))
      | _ => none
    | _ => none
  | _ => none
theorem x_cap_ok {tab : Tab} (htab : TabOk Go.Proofs.Tryz.prog tab) {c : Call} {ev : Operand → Option V} {h : Heap} {n : Nat} {out : Out} (hs : x_cap tab c ev n = some out) : OpOk Go.Proofs.Tryz.prog (.call c) ev h n out := by
  intro ev' h' h1 h2 g w ρ hr he hq hq1 o ho
  unfold x_cap at hs
  split at hs
  · next x t ts =>
    split at hs
    · next e _ _ _ ht =>
      obtain ⟨v, a1, hs⟩ := ob_eq hs
      split at hs
      · cases hs
        have b1 := he x _ ((h1 x (by simp [Op.operands, Call.operands])).trans a1)
        have hx : ρ x = .slice none 0 0 := by
          have := b1.d_inv
          generalize ρ x = q at this
          cases this; rfl
        obtain ⟨d, hd, hk, _⟩ := run_und (htab _ _ ht) w
        cases d <;> simp [descK] at hk
        have hcap : (Builtin.cap_ ⟨t :: ts⟩ o.type #[ρ x]).run Go.Proofs.Tryz.prog w = .ok (goInt 0) w := by
          unfold Builtin.cap_
          simp only [hx]
          simp [Sem.run_bind, hd, Result.andThen]
        exact Step.ofPure (v := goInt 0) (s := Builtin.cap_ ⟨t :: ts⟩ o.type #[ρ x]) hr hcap (.d _ _ (.i _ _)) (by rw [execOp, ho]; simp [resolve, invoke, builtin])
      · cases hs
    · cases hs
  · cases hs
noncomputable def extF (tab : Tab) (op : Op) (ev : Operand → Option V) (h : Heap) (n : Nat) : Option Out := match op with
  | .makeMap _ r => x_makeMap r n
  | .call c => x_cap tab c ev n
  | .lookup t m k ok => x_lookup tab t m k ok ev h n
  | .mapUpdate t m k x => x_update tab t m k x ev h n
  | .binOp op t x y _ => Option.rec (x_four op t x y ev n) (fun o => some o) (x_nil tab op t x y ev h n)
  | _ => none
theorem extF_ok {tab : Tab} (htab : TabOk Go.Proofs.Tryz.prog tab) : ExtOk Go.Proofs.Tryz.prog (extF tab) := by
  intro op ev h n out hs
  unfold extF at hs
  split at hs
  · exact x_makeMap_ok hs
  · exact x_cap_ok htab hs
  · exact x_lookup_ok htab hs
  · exact x_update_ok htab hs
  · next op t x y u =>
    cases hq : x_nil tab op t x y ev h n with
    | some o => rw [hq] at hs; cases hs; exact x_nil_ok htab hq
    | none => rw [hq] at hs; exact x_four_ok hs
  · cases hs
theorem x_nil_us {tab : Tab} {op : BinOp} {t : TypeId} {x y : Operand} {ev : Operand → Option V} {h : Heap} {n : Nat} {out : Out} (hs : x_nil tab op t x y ev h n = some out) : out.us = [] := by
  unfold x_nil at hs
  split at hs
  · obtain ⟨vx, _, hs⟩ := ob_eq hs
    obtain ⟨vy, _, hs⟩ := ob_eq hs
    split at hs
    · cases hn : isN h vx with
      | false => rw [hn] at hs; cases hs
      | true => rw [hn] at hs; obtain ⟨r, _, hs⟩ := ob_eq hs; cases hs; rfl
    · cases hs
  · cases hs
theorem x_four_us {op : BinOp} {t : TypeId} {x y : Operand} {ev : Operand → Option V} {n : Nat} {out : Out} (hs : x_four op t x y ev n = some out) : out.us = [] := by
  have key : (ob (ev x) fun x => ob (ev y) fun y => ob (as4 x) fun p => ob (as4 y) fun q => ob (eqOp op (eq4B p q)) fun r => some (pureO n r)) = some out → out.us = [] := fun hs => by
    obtain ⟨_, _, hs⟩ := ob_eq hs
    obtain ⟨_, _, hs⟩ := ob_eq hs
    obtain ⟨_, _, hs⟩ := ob_eq hs
    obtain ⟨_, _, hs⟩ := ob_eq hs
    obtain ⟨_, _, hs⟩ := ob_eq hs
    cases hs; rfl
  unfold x_four at hs
  cases h35 : Nat.beq t 35 with
  | true => rw [h35] at hs; exact key hs
  | false =>
    rw [h35] at hs
    cases h139 : Nat.beq t 139 with
    | true => rw [h139] at hs; exact key hs
    | false => rw [h139] at hs; cases hs
theorem extF_rd (E : En) {tab : Tab} (he : E.ext = extF tab) : XR E := by
  intro op ev h n out hr hs
  rw [he] at hs
  unfold extF at hs
  split at hs
  · cases hr
  · next c =>
    unfold x_cap at hs
    split at hs
    · cases hr
    · cases hs
  · cases hr
  · cases hr
  · next op t x y u =>
    cases hq : x_nil tab op t x y ev h n with
    | some o => rw [hq] at hs; cases hs; exact x_nil_us hq
    | none => rw [hq] at hs; exact x_four_us hs
  · cases hs
end Go.Abs
namespace Go.Abs
open Go.RowKit
variable [Val]
theorem lts_d : ∀ l : List D, V.lts 0 (l.map .d) = true
  | [] => rfl
  | d :: l => by
    show (V.lt 0 (.d d) && V.lts 0 (l.map .d)) = true
    rw [lts_d l]; rfl
theorem PC.of_below {P : Program} {f : FuncId} {args : List D} {r : D}
    (H : ∀ (F : Nat → Nat) (w : World) (vs : List Value), (∀ b, w.heap.size ≤ b → F b = 0) → vs.length = args.length → (∀ (i : Nat) d v, args[i]? = some d → vs[i]? = some v → RD F w d v) →
      Calls P f vs.toArray w fun e w' => ∃ v, e = .returned v ∧ Below w.heap.size w w' ∧ ∃ F' : Nat → Nat, (∀ b, b < w.heap.size → F' b = F b) ∧ (∀ b, w'.heap.size ≤ b → F' b = 0) ∧ RD F' w' r v) :
    PC P f (args.map .d) (.d r) := by
  refine ⟨lts_d _, rfl, ?_⟩
  intro g w vs hr hn hg
  refine (H g.F w vs hr.fresh (by rw [hg.len, List.length_map]) (fun i d v h1 h2 => ?_)).mono fun e w' ⟨v, e1, hb, F', f1, f2, hv⟩ => ?_
  · exact (hg.at_ i (.d d) v (by rw [List.getElem?_map, h1]; rfl) h2).d_inv
  · have hst : Stays g.F w F' w' := by
      refine ⟨fun b => ?_, fun b c t fz hc => ?_⟩
      · rcases Nat.lt_or_ge b w.heap.size with hlt | hge
        · rw [f1 b hlt]; exact Nat.le_refl _
        · rw [hr.fresh b hge]; exact Nat.zero_le _
      · have hlt : b < w.heap.size := (Array.getElem?_eq_some_iff.1 hc).1
        exact ⟨c, t, fz, (hb.block b hlt).trans hc, rfl, by rw [f1 b hlt]; exact Nat.le_max_left _ _, fun _ _ => rfl⟩
    have hno : ∀ k b, blk { σ := g.σ, τ := g.τ, F := F', U := g.U } (fun _ => none) k = some b → False := fun k b hk => by simp [blk] at hk
    refine ⟨v, .d r, fun _ => none, 0, { g with F := F' }, e1, rfl, .d _ _ hv, ⟨fun k sz rows hk => (hr.glob k sz rows hk).stay hst, fun k k' b h1 _ => (hno k b h1).elim, fun b ho => ?_, f2, fun k hk => ⟨rfl, (hr.top k hk).2⟩, fun k o ho => by cases ho⟩, fun k hk => hn k hk, ?_⟩
    · have hlt := hr.lt b ho
      exact Nat.lt_of_lt_of_le hlt hb.size
    · exact {
        n := fun k hk => hk
        size := hb.size
        os := hb.os
        tape := hb.tape
        output := hb.output
        stays := hst
        out := fun b hlt _ => ⟨hb.block b hlt, f1 b hlt⟩
        own := fun b ho => .inl ho
        sig := fun _ _ => rfl
        tok := fun k _ n' hn' => by cases hn' }
noncomputable def idxR (c : Sb) (s : List Sb) : Nat → Option Int := List.rec (fun _ => some (Int.negSucc 0)) (fun x _ ih i => Option.rec none (fun b => Bool.rec (ih (Nat.succ i)) (some (Int.ofNat i)) b) (eqSb x c)) s
noncomputable def idxB (c : Sb) (s : List Sb) : Option Int := idxR c s 0
theorem idxR_go (c : Sb) (u : UInt8) (hc : c.ok u) : ∀ (s : List Sb) (b : List UInt8) (i : Nat) (n : Int), SR s b → idxR c s i = some n →
    (Lib.indexByte b u = -1 ∧ n = -1) ∨ (0 ≤ Lib.indexByte b u ∧ n = i + Lib.indexByte b u)
  | [], b, i, n, hs, h => by
    have : b = [] := List.eq_nil_of_length_eq_zero (by rw [hs.len]; rfl)
    subst this
    cases h
    exact .inl ⟨rfl, rfl⟩
  | x :: s, b, i, n, hs, h => by
    obtain ⟨a, b, rfl⟩ : ∃ a t, b = a :: t := by
      cases b with
      | nil => have := hs.len; simp at this
      | cons a t => exact ⟨a, t, rfl⟩
    have ha : x.ok a := hs.at_ 0 x a rfl rfl
    have hs' : SR s b := ⟨by have := hs.len; simpa using this, fun j y v h1 h2 => hs.at_ (j + 1) y v h1 h2⟩
    have h : (Option.rec none (fun b => Bool.rec (idxR c s (i + 1)) (some (Int.ofNat i)) b) (eqSb x c) : Option Int) = some n := h
    cases hq : eqSb x c with
    | none => rw [hq] at h; cases h
    | some q =>
      rw [hq] at h
      have hab := eqSb_ok hq ha hc
      unfold Lib.indexByte
      rw [hab]
      cases q with
      | true => cases h; right; simp
      | false =>
        have := idxR_go c u hc s b (i + 1) n hs' h
        rcases this with ⟨h1, h2⟩ | ⟨h1, h2⟩
        · left; rw [h1, h2]; simp
        · right
          have h3 : (Lib.indexByte b u == -1) = false := by
            simp; omega
          rw [h3]
          simp
          omega
end Go.Abs
namespace Go.Abs
open Go.RowKit
variable [Val]
noncomputable def kN (k : IntKind) : Nat := IntKind.casesOn k 0 1 2 3 4 5 6 7
theorem kN_inj {a b : IntKind} (h : Nat.beq (kN a) (kN b) = true) : a = b := by
  cases a <;> cases b <;> first | rfl | cases h
mutual
noncomputable def eqX : Ex → Ex → Bool
  | .c a, .c b => eqI a b
  | .v a, .v b => Nat.beq a b
  | .add a b, .add c d => eqX a c && eqX b d
  | .sub a b, .sub c d => eqX a c && eqX b d
  | .mul a b, .mul c d => eqX a c && eqX b d
  | .div a b, .div c d => eqX a c && eqX b d
  | .mod a b, .mod c d => eqX a c && eqX b d
  | .max a b, .max c d => eqX a c && eqX b d
  | .min a b, .min c d => eqX a c && eqX b d
  | .fn f i l, .fn g j m => Nat.beq f g && (Nat.beq i j && eqXs l m)
  | _, _ => false
noncomputable def eqXs : List Ex → List Ex → Bool
  | [], [] => true
  | a :: l, b :: m => eqX a b && eqXs l m
  | _, _ => false
end
theorem eqI_ok {a b : Int} (h : eqI a b = true) : a = b := by rw [eqI_eq] at h; simpa using h
mutual
theorem eqX_ok : ∀ {a b : Ex}, eqX a b = true → a = b
  | .c a, .c b, h => by rw [eqI_ok (show eqI a b = true by simpa [eqX] using h)]
  | .v a, .v b, h => by rw [Nat.eq_of_beq_eq_true (show Nat.beq a b = true by simpa [eqX] using h)]
  | .add a b, .add c d, h => by simp only [eqX, Bool.and_eq_true] at h; rw [eqX_ok h.1, eqX_ok h.2]
  | .sub a b, .sub c d, h => by simp only [eqX, Bool.and_eq_true] at h; rw [eqX_ok h.1, eqX_ok h.2]
  | .mul a b, .mul c d, h => by simp only [eqX, Bool.and_eq_true] at h; rw [eqX_ok h.1, eqX_ok h.2]
  | .div a b, .div c d, h => by simp only [eqX, Bool.and_eq_true] at h; rw [eqX_ok h.1, eqX_ok h.2]
  | .mod a b, .mod c d, h => by simp only [eqX, Bool.and_eq_true] at h; rw [eqX_ok h.1, eqX_ok h.2]
  | .max a b, .max c d, h => by simp only [eqX, Bool.and_eq_true] at h; rw [eqX_ok h.1, eqX_ok h.2]
  | .min a b, .min c d, h => by simp only [eqX, Bool.and_eq_true] at h; rw [eqX_ok h.1, eqX_ok h.2]
  | .fn f i l, .fn g j m, h => by
    simp only [eqX, Bool.and_eq_true] at h
    rw [Nat.eq_of_beq_eq_true h.1, Nat.eq_of_beq_eq_true h.2.1, eqXs_ok h.2.2]
theorem eqXs_ok : ∀ {l m : List Ex}, eqXs l m = true → l = m
  | [], [], _ => rfl
  | a :: l, b :: m, h => by simp only [eqXs, Bool.and_eq_true] at h; rw [eqX_ok h.1, eqXs_ok h.2]
  | [], _ :: _, h => by simp [eqXs] at h
  | _ :: _, [], h => by simp [eqXs] at h
end
noncomputable def eqB : Sb → Sb → Bool
  | .c a, .c b => Nat.beq a b
  | .x e lo hi, .x e' lo' hi' => eqX e e' && (Nat.beq lo lo' && Nat.beq hi hi')
  | _, _ => false
theorem eqB_ok : ∀ {a b : Sb}, eqB a b = true → a = b
  | .c a, .c b, h => by rw [Nat.eq_of_beq_eq_true (show Nat.beq a b = true from h)]
  | .x e lo hi, .x e' lo' hi', h => by
    have h : (eqX e e' && (Nat.beq lo lo' && Nat.beq hi hi')) = true := h
    simp only [Bool.and_eq_true] at h
    rw [eqX_ok h.1, Nat.eq_of_beq_eq_true h.2.1, Nat.eq_of_beq_eq_true h.2.2]
  | .c _, .x _ _ _, h => by cases h
  | .x _ _ _, .c _, h => by cases h
noncomputable def eqBs (a : List Sb) : List Sb → Bool := List.rec (fun b => List.rec true (fun _ _ _ => false) b) (fun x _ ih b => List.rec false (fun y r _ => Bool.rec false (ih r) (eqB x y)) b) a
theorem eqBs_ok : ∀ {a b : List Sb}, eqBs a b = true → a = b
  | [], [], _ => rfl
  | x :: a, y :: b, h => by
    have h : (Bool.rec false (eqBs a b) (eqB x y) : Bool) = true := h
    cases hq : eqB x y with
    | false => rw [hq] at h; cases h
    | true => rw [hq] at h; rw [eqB_ok hq, eqBs_ok h]
  | [], _ :: _, h => by cases h
  | _ :: _, [], h => by cases h
mutual
noncomputable def eqD : D → D → Bool
  | .i k n, .i k' n' => Bool.rec false (eqI n n') (Nat.beq (kN k) (kN k'))
  | .x k e lo hi, .x k' e' lo' hi' => Nat.beq (kN k) (kN k') && (eqX e e' && (eqI lo lo' && eqI hi hi'))
  | .b x, .b y => eqb x y
  | .s x, .s y => eqBs x y
  | .z, .z => true
  | .np, .np => true
  | .nf, .nf => true
  | .nm, .nm => true
  | .o i, .o j => Nat.beq i j
  | .l s r, .l s' r' => Bool.rec false (eqDss r r') (Nat.beq s s')
  | _, _ => false
noncomputable def eqDs : List D → List D → Bool
  | [], [] => true
  | a :: l, b :: m => Bool.rec false (eqDs l m) (eqD a b)
  | _, _ => false
noncomputable def eqDss : List (List D) → List (List D) → Bool
  | [], [] => true
  | a :: l, b :: m => Bool.rec false (eqDss l m) (eqDs a b)
  | _, _ => false
end
theorem brec_ok {a b : Bool} (h : (Bool.rec false a b : Bool) = true) : b = true ∧ a = true := by
  cases b with
  | false => cases h
  | true => exact ⟨rfl, h⟩
mutual
theorem eqD_ok : ∀ {a b : D}, eqD a b = true → a = b
  | .i k n, .i k' n', h => by unfold eqD at h; obtain ⟨h1, h2⟩ := brec_ok h; rw [kN_inj h1, eqI_ok h2]
  | .x k e lo hi, .x k' e' lo' hi', h => by
    unfold eqD at h
    simp only [Bool.and_eq_true] at h
    rw [kN_inj h.1, eqX_ok h.2.1, eqI_ok h.2.2.1, eqI_ok h.2.2.2]
  | .b x, .b y, h => by unfold eqD at h; rw [eqb_eq h]
  | .s x, .s y, h => by unfold eqD at h; rw [eqBs_ok h]
  | .z, .z, _ => rfl
  | .np, .np, _ => rfl
  | .nf, .nf, _ => rfl
  | .nm, .nm, _ => rfl
  | .l s r, .l s' r', h => by unfold eqD at h; obtain ⟨h1, h2⟩ := brec_ok h; rw [Nat.eq_of_beq_eq_true h1, eqDss_ok h2]
  | .o i, .o j, h => by rw [Nat.eq_of_beq_eq_true (show Nat.beq i j = true by simpa [eqD] using h)]
  | .q .., b, h => by cases b <;> simp [eqD] at h
  | .f .., b, h => by cases b <;> simp [eqD] at h
theorem eqDs_ok : ∀ {l m : List D}, eqDs l m = true → l = m
  | [], [], _ => rfl
  | a :: l, b :: m, h => by unfold eqDs at h; obtain ⟨h1, h2⟩ := brec_ok h; rw [eqD_ok h1, eqDs_ok h2]
  | [], _ :: _, h => by simp [eqDs] at h
  | _ :: _, [], h => by simp [eqDs] at h
theorem eqDss_ok : ∀ {l m : List (List D)}, eqDss l m = true → l = m
  | [], [], _ => rfl
  | a :: l, b :: m, h => by unfold eqDss at h; obtain ⟨h1, h2⟩ := brec_ok h; rw [eqDs_ok h1, eqDss_ok h2]
  | [], _ :: _, h => by simp [eqDss] at h
  | _ :: _, [], h => by simp [eqDss] at h
end
noncomputable def eqV1 : V → V → Bool
  | .d x, .d y => eqD x y
  | .a x, .a y => eqDs x y
  | _, _ => false
theorem eqV1_ok : ∀ {a b : V}, eqV1 a b = true → a = b := by
  intro a b h
  unfold eqV1 at h
  split at h
  · rw [eqD_ok h]
  · rw [eqDs_ok h]
  · cases h
noncomputable def eqV1s (a : List V) : List V → Bool := List.rec (fun b => List.rec true (fun _ _ _ => false) b) (fun x _ ih b => List.rec false (fun y r _ => Bool.rec false (ih r) (eqV1 x y)) b) a
theorem eqV1s_ok : ∀ {a b : List V}, eqV1s a b = true → a = b
  | [], [], _ => rfl
  | x :: a, y :: b, h => by
    have h : (Bool.rec false (eqV1s a b) (eqV1 x y) : Bool) = true := h
    obtain ⟨h1, h2⟩ := brec_ok h
    rw [eqV1_ok h1, eqV1s_ok h2]
  | [], _ :: _, h => by cases h
  | _ :: _, [], h => by cases h
noncomputable def eqVV : V → V → Bool
  | .tu x, .tu y => eqV1s x y
  | .d x, .d y => eqD x y
  | .a x, .a y => eqDs x y
  | _, _ => false
theorem eqVV_ok : ∀ {a b : V}, eqVV a b = true → a = b := by
  intro a b h
  unfold eqVV at h
  split at h
  · rw [eqV1s_ok h]
  · rw [eqD_ok h]
  · rw [eqDs_ok h]
  · cases h
noncomputable def pcB (E : En) (k : Nat) (f : FuncId) (args : List V) (y : V) : Bool :=
  Option.rec false (fun a => Bool.rec false (Rs.rec (fun r => Option.rec false (fun p => eqVV p.1 y) (frzY r.2.1 r.1)) (fun _ => false) (runK E k f args [] 0)) (eqV1s a args)) (frzs args)
theorem pcB_ok {P : Program} {E : En} (hE : EnOk P E) (hx : XR E) {k : Nat} {f : FuncId} {args : List V} {y : V} (h : pcB E k f args y = true) : CallOk P f ∧ PC P f args y := by
  unfold pcB at h
  cases ha : frzs args with
  | none => rw [ha] at h; cases h
  | some a =>
    rw [ha] at h
    obtain ⟨h1, h⟩ := brec_ok h
    have h1 := eqV1s_ok h1
    subst h1
    cases hr : runK E k f a [] 0 with
    | no e => rw [hr] at h; cases h
    | ok r =>
      rw [hr] at h
      have h : (Option.rec false (fun p => eqVV p.1 y) (frzY r.2.1 r.1) : Bool) = true := h
      cases hy : frzY r.2.1 r.1 with
      | none => rw [hy] at h; cases h
      | some p =>
        rw [hy] at h
        have h := eqVV_ok (show eqVV p.1 y = true from h)
        subst h
        exact runK_pc hE hx ha hr (h2 := p.2) hy
noncomputable def orc1 (xs : List V) (y : V) (args : List V) : Option V := Bool.rec none (some y) (eqV1s args xs)
theorem orc1_ok {xs : List V} {y : V} {args : List V} {r : V} (h : orc1 xs y args = some r) : args = xs ∧ r = y := by
  unfold orc1 at h
  cases hq : eqV1s args xs with
  | false => rw [hq] at h; cases h
  | true => rw [hq] at h; cases h; exact ⟨eqV1s_ok hq, rfl⟩
end Go.Abs
namespace Go.Abs
open Go.RowKit
variable [Val]
def OrcT (P : Program) (f : FuncId) (o : List V → Option V) : Prop := ∀ args r, o args = some r → (CallOk P f ∧ PC P f args r) ∨ NatOk P f args r
noncomputable def orc2 (a b : List V → Option V) (args : List V) : Option V := Option.rec (b args) (fun r => some r) (a args)
theorem OrcT.or {P : Program} {f : FuncId} {a b : List V → Option V} (ha : OrcT P f a) (hb : OrcT P f b) : OrcT P f (orc2 a b) := by
  intro args r h
  unfold orc2 at h
  cases hq : a args with
  | none => rw [hq] at h; exact hb args r h
  | some x => rw [hq] at h; cases h; exact ha args _ hq
noncomputable def orcL (l : List (FuncId × (List V → Option V))) (f : FuncId) : Option (List V → Option V) := List.rec none (fun p _ ih => Bool.rec ih (Option.rec (some p.2) (fun g => some (orc2 p.2 g)) ih) (Nat.beq f p.1)) l
theorem orcL_ok {P : Program} : ∀ {l : List (FuncId × (List V → Option V))}, (∀ p ∈ l, OrcT P p.1 p.2) → OrcOk P (orcL l)
  | [], _ => fun f g h => by cases h
  | p :: l, hl => fun f g h => by
    have h : (Bool.rec (orcL l f) (Option.rec (some p.2) (fun g => some (orc2 p.2 g)) (orcL l f)) (Nat.beq f p.1) : Option (List V → Option V)) = some g := h
    have ih := orcL_ok (P := P) (l := l) (fun q hq => hl q (.tail _ hq)) f
    cases hq : Nat.beq f p.1 with
    | true =>
      have e := Nat.eq_of_beq_eq_true hq
      subst e
      have h0 := hl p (.head _)
      rw [hq] at h
      cases ho : orcL l p.1 with
      | none => rw [ho] at h; cases h; exact h0
      | some g' => rw [ho] at h; cases h; exact h0.or (ih g' ho)
    | false => rw [hq] at h; exact ih g h
theorem OrcT.one {P : Program} {f : FuncId} {xs : List V} {y : V} (h : CallOk P f ∧ PC P f xs y) : OrcT P f (orc1 xs y) := by
  intro args r hr
  obtain ⟨rfl, rfl⟩ := orc1_ok hr
  exact .inl h
end Go.Abs
namespace Go.Abs
open Go.RowKit Go.Proofs
set_option maxRecDepth 100000
variable [Val]
theorem GL.two {g : Gh} {h : Heap} {w : World} {x y : V} {vs : List Value} (hg : GL g h w [x, y] vs) : ∃ a b, vs = [a, b] ∧ GV g h w x a ∧ GV g h w y b := by
  have hl := hg.len
  match vs, hl with
  | [a, b], _ => exact ⟨a, b, rfl, hg.at_ 0 _ _ rfl rfl, hg.at_ 1 _ _ rfl rfl⟩
noncomputable def orcIdx (args : List V) : Option V := match args with
  | [.d (.s s), .d c] => ob (byteB c) fun c => ob (idxB c s) fun n => some (.d (.i .i64 n))
  | _ => none
theorem orcIdx_ok : OrcT Tryz.prog 247 orcIdx := by
  intro args r h
  unfold orcIdx at h
  split at h
  · next s c =>
    obtain ⟨u, h1, h⟩ := ob_eq h
    obtain ⟨n, h2, h⟩ := ob_eq h
    cases h
    refine .inr ?_
    intro g h w vs hg
    obtain ⟨a, b, rfl, g1, g2⟩ := hg.two
    have e1 := g1.d_inv
    obtain ⟨q, rfl, hq⟩ := byteB_rd h1 g2.d_inv
    cases e1 with
    | s _ bs hs =>
      refine ⟨.int .i64 n, ?_, .d _ _ (.i _ _)⟩
      show (callFunc 247 #[.string bs, .int .u8 q]).run Tryz.prog w = _
      rw [run_callFunc_extern Tryz.func247 (by kernel_rfl) (by kernel_rfl) (by kernel_rfl) (e := Extern.BytealgIndexByte.indexByte) (by kernel_rfl), Lib.run_indexByteString]
      have : Lib.indexByte bs.data.toList q.toNat.toUInt8 = n := by
        rcases idxR_go u _ hq s bs.data.toList 0 n hs h2 with ⟨k1, k2⟩ | ⟨k1, k2⟩
        · exact k1.trans k2.symm
        · rw [k2]; simp
      rw [this]; rfl
  · cases h
end Go.Abs
namespace Go.Abs
open Go.RowKit
set_option maxRecDepth 100000
variable [Val]
theorem brec_ok' {α : Type} {a : Option α} {b : Bool} {y : α} (h : (Bool.rec none a b : Option α) = some y) : b = true ∧ a = some y := by
  cases b with
  | false => cases h
  | true => exact ⟨rfl, h⟩
noncomputable def p00 : V → Option Nat
  | .p k i j => Bool.rec none (some k) (Nat.beq (Nat.add i j) 0)
  | _ => none
theorem p00_eq {v : V} {k : Nat} (h : p00 v = some k) : v = .p k 0 0 := by
  unfold p00 at h
  split at h
  · next k' i j =>
    obtain ⟨h1, h2⟩ := brec_ok' h
    have h1 : i + j = 0 := Nat.eq_of_beq_eq_true h1
    cases h2
    rw [show i = 0 by omega, show j = 0 by omega]
  · cases h
section
variable {P : Program} {tab : Tab}
noncomputable def x_allocA (tab : Tab) (t : TypeId) (n : Nat) : Option Out := ob (tab t) fun ti => match ti.kind with
  | .arr m e => ob (tab e) fun te => Bool.rec none (some ⟨.p n 0 0, [(n, some (.row te.size (chunk te.size m (ti.zero.map .d)) false))], n + 1⟩) (Nat.beq ti.size (Nat.mul m te.size))
  | _ => none
theorem x_allocA_ok (htab : TabOk P tab) {t : TypeId} {ev : Operand → Option V} {h : Heap} {n : Nat} {out : Out} (hs : x_allocA tab t n = some out) : OpOk P (.alloc t) ev h n out := by
  intro ev' h' h1 h2 g w ρ hr he hq hq1 o ho
  unfold x_allocA at hs
  obtain ⟨ti, hti, hs⟩ := ob_eq hs
  split at hs
  · next m e hk =>
    obtain ⟨te, hte, hs⟩ := ob_eq hs
    obtain ⟨hsz, hs⟩ := brec_ok' hs
    have hsz := Nat.eq_of_beq_eq_true hsz
    cases hs
    refine Step.ofVS (s := Instr.alloc t true (.tuple #[])) ?_ (by rw [execOp, ho])
    obtain ⟨z, hz1, hz2, hz3, hz4⟩ := run_zero (htab _ _ hti) w
    have hgl : GL g h' w (ti.zero.map .d) z.cells.toList := zero_gl hz2
    have hlen : (ti.zero.map V.d).length = m * te.size := by rw [← hgl.len, Array.length_toList, hz4, hsz]; rfl
    have := obj_new hr hq t (ti.zero.map .d) z.cells te.size m m false hgl (one_d _) hlen (Nat.le_refl _) (fun _ => rfl)
    refine ⟨.pointer (some ⟨w.heap.size, 0, none⟩), _, _, ?_, ?_, this.1, this.2, fun k hk => up_used (Nat.le_refl _) (Nat.lt_succ_self _) hk⟩
    · unfold Instr.alloc
      simp only [Sem.run_bind, hz1, Result.andThen_ok, newVar, newRow]
      rfl
    · have := GV.p (h := up h' n (some (.row te.size (chunk te.size m (ti.zero.map .d)) false))) (w := w.alloc (.cells z.cells t)) (g := { σ := up g.σ n (some (w.heap.size, te.size)), τ := g.τ, F := up g.F w.heap.size 0, U := up g.U n true }) n 0 0 w.heap.size te.size (up_same _ _ _) (up_same _ _ _)
      simpa [upds] using this
  · cases hs
noncomputable def x_storeA (tab : Tab) (t : TypeId) (a x : Operand) (ev : Operand → Option V) (h : Heap) (n : Nat) : Option Out := ob (tab t) fun ti => match ti.kind with
  | .arr m _ => ob (ev a) fun a => ob (ev x) fun x => ob (p00 a) fun k => match h k with
      | some (.row sz rows vec) => if vec = false ∧ x.notTu = true ∧ x.cells.length = ti.size ∧ rows.length * sz = ti.size ∧ rows.length = m then some ⟨.tu [], [(k, some (.row sz (chunk sz m x.cells) false))], n⟩ else none
      | _ => none
  | _ => none
theorem x_storeA_ok (htab : TabOk P tab) {t : TypeId} {a x : Operand} {ev : Operand → Option V} {h : Heap} {n : Nat} {out : Out} (hs : x_storeA tab t a x ev h n = some out) : OpOk P (.store t a x) ev h n out := by
  intro ev' h' h1 h2 g w ρ hr he hq hq1 o ho
  unfold x_storeA at hs
  obtain ⟨ti, hti, hs⟩ := ob_eq hs
  split at hs
  · next m e hkind =>
    obtain ⟨va, a1, hs⟩ := ob_eq hs
    obtain ⟨vx, a2, hs⟩ := ob_eq hs
    have b1 := he a va ((h1 a (by simp [Op.operands])).trans a1)
    have hx := he x vx ((h1 x (by simp [Op.operands])).trans a2)
    have hm : ∀ j ∈ tid va, h' j = h j := fun j hj => h2 a (by simp [memOps]) va a1 j hj
    obtain ⟨k, a3, hz⟩ := ob_eq hs
    cases p00_eq a3
    · have hk' := hm k (by simp [tid])
      split at hz
      · next sz rows vec hk =>
        split at hz
        · next hc =>
          obtain ⟨rfl, hc1, hc2, hc3, hc4⟩ := hc
          cases hz
          rw [hk] at hk'
          obtain ⟨hgl, hone⟩ := hx.cells hc1
          obtain ⟨hkn, b, sz', hσ, hρ⟩ := b1.p_inv
          have hobj := hr.obj k _ hk'
          have hsz := obj_σ hr hk' hσ
          subst hsz
          cases hobj with
          | row _ _ _ b' c ct hk2 hb hF hrl hcs hcv hone' hcell =>
            rw [hσ] at hk2; cases hk2
            have hvl : (ρ x).cells.toList.length = ti.size := by rw [hgl.len, hc2]
            have hcl : c.toList.length = c.size := Array.length_toList
            have hcz : c.size = ti.size := by rw [hcv rfl, hc3]
            have hst := run_storeCells_at (P := P) b 0 ct (ρ x).cells.toList 0 c w hb (by omega) (fun v hv => by
              obtain ⟨q, hq⟩ := List.getElem?_of_mem hv
              have hqlt := (List.getElem?_eq_some_iff.1 hq).1
              have hxq := List.getElem?_eq_getElem (l := vx.cells) (i := q) (by rw [← hgl.len]; exact hqlt)
              exact (hgl.at_ q _ v hxq hq).one (hone _ (List.mem_of_getElem? hxq)))
            have hsp : c.toList.take (0 + 0) ++ (ρ x).cells.toList ++ c.toList.drop (0 + 0 + (ρ x).cells.toList.length) = (ρ x).cells.toList := by
              rw [hvl, ← hcz, ← hcl]; simp
            rw [hsp] at hst
            have hlen' : (ρ x).cells.toList.length = c.size := by rw [hvl, hcz]
            have hat : At w (w.setRow b (ρ x).cells.toList.toArray) b := ⟨rfl, rfl, rfl, setRow_size _ _ _, fun y hy => setRow_other w b y _ hy⟩
            have hb' := setRow_heap w b c (ρ x).cells.toList.toArray ct (0, 0) hb
            have he' := ext_own (h' := up h' k (some (.row sz' (chunk sz' m vx.cells) false))) hr hσ (by rw [hk']; simp) (fun n => by rw [hk']; simp) hb hF hat hb' (by simpa using hlen') (fun q hq => up_ne _ _ _ hq) (fun n => by rw [up_same]; simp)
            have hml : vx.cells.length = m * sz' := by rw [hc2, ← hc3, hc4]
            refine ⟨undef, w.setRow b (ρ x).cells.toList.toArray, g, .inr ⟨?_, rfl⟩, .tu [] [] rfl GL.nil.at_, ?_, he', fun k hk => .inl hk⟩
            · rw [execOp, ho]
              have hρ' : ρ a = .pointer (some ⟨b, 0, none⟩) := by rw [hρ]; simp
              have b1 : (Instr.storeAt t (ρ a) (ρ x)).run P w = .ok () (w.setRow b (ρ x).cells.toList.toArray) := by
                rw [hρ']
                unfold Instr.storeAt
                have hsure : (Instr.sureAddr (.pointer (some ⟨b, 0, none⟩))).run P w = .ok ⟨b, 0, none⟩ w := rfl
                simp only [Sem.run_bind, hsure, Result.andThen_ok]
                unfold storeVar
                have hcs' : ¬ (ρ x).cells.size ≠ ti.size := by rw [Array.length_toList] at hvl; omega
                simp only [Sem.run_bind, run_size (htab _ _ hti), Result.andThen_ok, if_neg hcs']
                exact hst
              simp only [Sem.run_bind, b1]; rfl
            · refine rel_own hr hσ hk' (fun n => by simp) (fun n => by simp) hat he' ?_
              refine .row sz' _ false b _ ct hσ hb' hF (chunk_len hml) ?_ ?_ ?_ ?_
              · rw [chunk_length]; simp only [List.size_toArray]; rw [hlen', hcz, ← hc3, hc4]; exact Nat.le_refl _
              · intro _; rw [chunk_length]; simp only [List.size_toArray]; rw [hlen', hcz, ← hc3, hc4]
              · intro r' hr' y hy; exact hone y (chunk_mem hr' hy)
              · intro i' r' j' y u hi' hj' hu
                rw [List.getElem?_toArray] at hu
                exact (hgl.at_ _ y u (chunk_cell hi' hj').1 hu).ext he'
        · cases hz
      · cases hz
  · cases hs
noncomputable def x_indexA (tab : Tab) (t : TypeId) (x i : Operand) (ev : Operand → Option V) (h : Heap) (n : Nat) : Option Out := ob (tab t) fun ti => match ti.kind with
  | .arr m e => ob (tab e) fun te => ob (ev x) fun x => ob (ev i) fun i => ob (p00 x) fun k => match i with
    | .d (.i _ i) => match h k with
      | some (.row sz _ _) => if (0 ≤ i ∧ i < m) ∧ te.size = sz then some (pureO n (.p k i.toNat 0)) else none
      | _ => none
    | _ => none
  | _ => none
theorem x_indexA_ok (htab : TabOk P tab) {t : TypeId} {x i : Operand} {ev : Operand → Option V} {h : Heap} {n : Nat} {out : Out} (hs : x_indexA tab t x i ev h n = some out) : OpOk P (.indexAddr t x i) ev h n out := by
  intro ev' h' h1 h2 g w ρ hr he hq hq1 o ho
  unfold x_indexA at hs
  obtain ⟨ti, hti, hs⟩ := ob_eq hs
  split at hs
  · next m e hkind =>
    obtain ⟨te, hte, hs⟩ := ob_eq hs
    obtain ⟨vx, a1, hs⟩ := ob_eq hs
    obtain ⟨vi, a2, hs⟩ := ob_eq hs
    have b1 := he x vx ((h1 x (by simp [Op.operands])).trans a1)
    have b2 := he i vi ((h1 i (by simp [Op.operands])).trans a2)
    have hm : ∀ j ∈ tid vx, h' j = h j := fun j hj => h2 x (by simp [memOps]) vx a1 j hj
    obtain ⟨k, a3, hz⟩ := ob_eq hs
    cases p00_eq a3
    split at hz
    · next kd i0 =>
      have hk' := hm k (by simp [tid])
      split at hz
      · next sz rows vec hk =>
        split at hz
        · next hc =>
          cases hz
          rw [hk] at hk'
          obtain ⟨hkn, b, sz', hσ, hρ⟩ := b1.p_inv
          have hsz := obj_σ hr hk' hσ
          subst hsz
          obtain ⟨d, hd, hkk, hdu⟩ := run_und (htab _ _ hti) w
          clear hdu
          rw [hkind] at hkk
          cases d <;> simp [descK] at hkk
          obtain ⟨e1, e2⟩ := hkk
          subst e1 e2
          have hi : ρ i = .int kd i0 := by
            have := b2.d_inv
            generalize ρ i = q at this
            cases this; rfl
          have hρ' : ρ x = .pointer (some ⟨b, 0, none⟩) := by rw [hρ]; simp
          refine Step.ofPure (s := Instr.indexAt t (ρ x) (ρ i)) (v := .pointer (some ⟨b, i0.toNat * te.size, none⟩)) hr ?_ ?_ (by rw [execOp, ho])
          · rw [hρ', hi]
            unfold Instr.indexAt
            simp only [Sem.run_bind, asIntOf, Sem.run_pure, Result.andThen_ok, hd, Instr.sureAddr, if_pos hc.1, run_size (htab _ _ hte), add_mid, Nat.zero_add]
          · rw [hc.2]; exact .p k i0.toNat 0 b sz' hkn hσ
        · cases hz
      · cases hz
    · cases hz
  · cases hs
noncomputable def x_sliceA (tab : Tab) (t : TypeId) (x : Operand) (lo hi : Option Operand) (ev : Operand → Option V) (h : Heap) (n : Nat) : Option Out := ob (tab t) fun ti => match ti.kind with
  | .arr m e => ob (tab e) fun te => ob (ev x) fun x => ob (evo ev lo) fun lo => ob (evo ev hi) fun hi => ob (p00 x) fun k => match h k with
      | some (.row sz rows _) => ob (bnd lo 0) fun l => ob (bnd hi m) fun u => if ((0 ≤ l ∧ l ≤ u ∧ u ≤ m) ∧ l < m) ∧ te.size = sz ∧ rows.length = m then some (pureO n (.v k l.toNat (u.toNat - l.toNat))) else none
      | _ => none
  | _ => none
theorem x_sliceA_ok (htab : TabOk P tab) {t : TypeId} {x : Operand} {lo hi : Option Operand} {ev : Operand → Option V} {h : Heap} {n : Nat} {out : Out} (hs : x_sliceA tab t x lo hi ev h n = some out) : OpOk P (.slice t x lo hi none) ev h n out := by
  intro ev' h' h1 h2 g w ρ hr he hq hq1 o ho
  unfold x_sliceA at hs
  obtain ⟨ti, hti, hs⟩ := ob_eq hs
  split at hs
  · next m e hkind =>
    obtain ⟨te, hte, hs⟩ := ob_eq hs
    obtain ⟨vx, a1, hs⟩ := ob_eq hs
    obtain ⟨vl, a2, hs⟩ := ob_eq hs
    obtain ⟨vh, a3, hs⟩ := ob_eq hs
    have b1 := he x vx ((h1 x (by simp [Op.operands])).trans a1)
    have r2 : evo ev' lo = some vl := by
      rw [← a2]; cases lo with
      | none => rfl
      | some y => simp only [evo]; rw [h1 y (by simp [Op.operands])]
    have r3 : evo ev' hi = some vh := by
      rw [← a3]; cases hi with
      | none => rfl
      | some y => simp only [evo]; rw [h1 y (by simp [Op.operands])]
    have hm : ∀ j ∈ tid vx, h' j = h j := fun j hj => h2 x (by simp [memOps]) vx a1 j hj
    obtain ⟨k, a4, hz⟩ := ob_eq hs
    cases p00_eq a4
    · have hk' := hm k (by simp [tid])
      split at hz
      · next sz rows vec hk =>
        obtain ⟨l, c1, hz⟩ := ob_eq hz
        obtain ⟨u, c2, hz⟩ := ob_eq hz
        split at hz
        · next hc =>
          cases hz
          rw [hk] at hk'
          obtain ⟨⟨hc1, hlm⟩, hc2, hc3⟩ := hc
          obtain ⟨hkn, b, sz', hσ, hρ⟩ := b1.p_inv
          have hobj := hr.obj k _ hk'
          have hsz := obj_σ hr hk' hσ
          subst hsz
          obtain ⟨d, hd, hkk, hdu⟩ := run_und (htab _ _ hti) w
          clear hdu
          rw [hkind] at hkk
          cases d <;> simp [descK] at hkk
          obtain ⟨e1, e2⟩ := hkk
          rw [e1, e2] at hd
          have hρ' : ρ x = .pointer (some ⟨b, 0, none⟩) := by rw [hρ]; simp
          have hne : ¬ m = l.toNat := by omega
          refine Step.ofPure (s := Instr.sliceAt t (ρ x) (lo.map ρ) (hi.map ρ) none) (v := .slice (some ⟨b, l.toNat * te.size, none⟩) (u.toNat - l.toNat) (m - l.toNat)) hr ?_ ?_ (by rw [execOp, ho]; rfl)
          · rw [hρ']
            have hb := bounds_run (P := P) (w := w) c1 c2 hc1 (Nat.le_refl _) false (evo_bv he r2) (evo_bv he r3)
            unfold Instr.sliceAt
            simp only [Sem.run_bind, hd, Result.andThen_ok, Instr.sureAddr, Sem.run_pure, hb, run_size (htab _ _ hte), if_neg hne, add_mid, Nat.zero_add]
          · cases hobj with
            | nilvec _ _ => simp at hc3; omega
            | row _ _ _ b' c ct hk2 hb hF hrl hcs hcv hone' hcell =>
              rw [hσ] at hk2; cases hk2
              have := GV.v (g := g) (h := h') (w := w) k l.toNat (u.toNat - l.toNat) b sz' (m - l.toNat) c ct (0, 0) hkn hσ hb (by
                have : l.toNat + (m - l.toNat) = rows.length := by omega
                rw [this]; exact hcs) (by omega)
              rw [hc2]; exact this
        · cases hz
      · cases hz
  · cases hs
end
end Go.Abs
namespace Go.Abs
open Go.RowKit
set_option maxRecDepth 100000
variable [Val]
noncomputable def extB (tab : Tab) (op : Op) (ev : Operand → Option V) (h : Heap) (n : Nat) : Option Out := match op with
  | .alloc t => x_allocA tab t n
  | .store t a x => x_storeA tab t a x ev h n
  | .indexAddr t x i => x_indexA tab t x i ev h n
  | .slice t x lo hi none => x_sliceA tab t x lo hi ev h n
  | op => extF tab op ev h n
theorem extB_ok {tab : Tab} (htab : TabOk Go.Proofs.Tryz.prog tab) : ExtOk Go.Proofs.Tryz.prog (extB tab) := by
  intro op ev h n out hs
  unfold extB at hs
  split at hs
  · exact x_allocA_ok htab hs
  · exact x_storeA_ok htab hs
  · exact x_indexA_ok htab hs
  · exact x_sliceA_ok htab hs
  · exact extF_ok htab _ ev h n out hs
theorem extB_rd (E : En) {tab : Tab} (he : E.ext = extB tab) : XR E := by
  intro op ev h n out hr hs
  rw [he] at hs
  unfold extB at hs
  split at hs
  · cases hr
  · cases hr
  · unfold x_indexA at hs
    obtain ⟨_, _, hs⟩ := ob_eq hs
    split at hs
    · obtain ⟨_, _, hs⟩ := ob_eq hs
      obtain ⟨_, _, hs⟩ := ob_eq hs
      obtain ⟨_, _, hs⟩ := ob_eq hs
      obtain ⟨_, _, hs⟩ := ob_eq hs
      split at hs
      · split at hs
        · split at hs
          · cases hs; rfl
          · cases hs
        · cases hs
      · cases hs
    · cases hs
  · unfold x_sliceA at hs
    obtain ⟨_, _, hs⟩ := ob_eq hs
    split at hs
    · obtain ⟨_, _, hs⟩ := ob_eq hs
      obtain ⟨_, _, hs⟩ := ob_eq hs
      obtain ⟨_, _, hs⟩ := ob_eq hs
      obtain ⟨_, _, hs⟩ := ob_eq hs
      obtain ⟨_, _, hs⟩ := ob_eq hs
      split at hs
      · obtain ⟨_, _, hs⟩ := ob_eq hs
        obtain ⟨_, _, hs⟩ := ob_eq hs
        split at hs
        · cases hs; rfl
        · cases hs
      · cases hs
    · cases hs
  · exact extF_rd { E with ext := extF tab } rfl _ ev h n out hr hs
noncomputable def tabNot (tab : Tab) (a : TypeId) : Tab := fun t => Bool.rec (tab t) none (Nat.beq t a)
theorem tabNot_ok {P : Program} {tab : Tab} {a : TypeId} (h : TabOk P tab) : TabOk P (tabNot tab a) := by
  intro t ti ht
  unfold tabNot at ht
  cases hq : Nat.beq t a with
  | true => rw [hq] at ht; cases ht
  | false => rw [hq] at ht; exact h t ti ht
end Go.Abs
