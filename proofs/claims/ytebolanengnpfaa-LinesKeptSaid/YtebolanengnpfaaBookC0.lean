/-
  Books of lists: what their laws share, with no program in sight.
-/
import Derived.Test.YtebolanengnpfaaBookB
import Derived.Test.YtebolanengnpfaaPlainA
import Derived.Test.YtebolanengnpfaaOrdQ
import Derived.Test.YtebolanengnpfaaWhole
import Derived.Test.YtebolanengnpfaaFresh
import Derived.Laws.AppendOwnNone
import Derived.Deep.DeepCutAuto
namespace Go.Proofs.Ytebolanengnpfaa
open Go.RowKit Num Mem
set_option linter.unusedVariables false
namespace Mem
theorem OffRow.grown {w w' : World} {B : Nat} {e : TypeId} {v v2 : Value} {xs : List Value} (h : OffRow w B e v2 xs) (hg : w.grownBy w' v.ownBlock) (ht : Two v2 v) : OffRow w' B e v2 xs :=
  h.map fun k hq hl cs hc => (hg.block k hl (by rcases ht with ht | ht; · rw [ht] at hq; cases hq
                                                · exact fun e => ht (hq.trans e))).trans hc
theorem OffRow.shape {w : World} {B : Nat} {e : TypeId} {v : Value} {xs : List Value} (h : OffRow w B e v xs) : ∃ A m c, v = .slice A m c := by
  obtain ⟨A, c, rfl, _⟩ := h.seg
  exact ⟨A, _, c, rfl⟩
theorem own_base {w : World} {S B n z : Nat} {e : TypeId} {v : Value} {xs : List Value} (h : w.ownsRow S e z v n xs) (hB : B ≤ S) : w.ownsRow B e z v n xs := by
  refine ⟨h.1, ?_⟩
  rcases h.2 with h | ⟨g, cap, cur, e1, h1, rest⟩
  · exact .inl h
  · exact .inr ⟨g, cap, cur, e1, by omega, rest⟩
theorem below_grown0 {w w' : World} (h : w.grownBy w' none) : Below w.heap.size w w' := ⟨h.os, h.tape, h.output, h.size, fun k hk => h.block k hk (by simp)⟩
/-- a copy of a whole row: append(nil, row...). -/
theorem wp_append_rowof {P : Program} (w : World) {o : Oper} {a : Act} {K : Act → World → Prop} {Q : Exit → Act → World → Prop} (s x : Operand) (t : TypeId)
    (ho : o.op = .call { callee := .builtin .append, args := #[s, x], argTypes := #[t, t] })
    (base : Nat) (e : TypeId) (i : TypeInfo) (z : Value) (size bytes : Nat) (ht : P.underlying t = some (.slice e)) (hi : P.info? e = some i) (hz : i.zero = some z)
    (hsize : i.size = size) (hby : i.bytes = bytes) (hzs : z.cells.size = size) (hsz : 0 < size)
    (v : Value) (n S : Nat) (xs : List Value) (hs : a.eval s = .slice none 0 0) (hx : a.eval x = v) (hown : w.ownsRow S e size v n xs) (h1 : ∀ u ∈ xs, u.oneCell' = true)
    (h63 : n ≤ maxLen) (hbytes : n * bytes ≤ 140737488355328) (hbase : base ≤ w.heap.size)
    (h : ∀ v' w', w'.ownsRow base e size v' n xs → w.grownBy w' none → K (a.put o.dst v') w') : o.wp P a w K Q := by
  rcases hown.2 with ⟨rfl, rfl⟩ | ⟨g, cap, cur, rfl, hg, hh, hnc, _⟩
  · have hx0 : xs = [] := List.eq_nil_of_length_eq_zero (by have := hown.1; omega)
    subst hx0
    have hr := run_append_owned_none (P := P) (w := w) base t o.type e i size ht hi (.slice none 0 0) 0 [] (World.ownsRow_nil w base e size)
    unfold Oper.wp execOp
    simp only [ho, resolve, invoke, builtin, Sem.run_bind, Sem.run_pure, Result.andThen_ok, List.map_toArray, List.map_cons, List.map_nil, hs, hx, hr]
    exact h _ _ (World.ownsRow_nil w base e size) (World.grownBy.refl w _)
  · obtain ⟨v', w', hr, h2, h3, h4⟩ := run_append_own (P := P) w base t o.type e i z size bytes ht hi hz hsize hby hzs hsz (.slice none 0 0) 0 [] (World.ownsRow_nil w base e size) ⟨g, 0, none⟩ n cap xs hown.1 (hown.cells (g := g) rfl) h1 (by simpa using h63) (by simpa using hbytes) hbase
    unfold Oper.wp execOp
    simp only [ho, resolve, invoke, builtin, Sem.run_bind, Sem.run_pure, Result.andThen_ok, List.map_toArray, List.map_cons, List.map_nil, hs, hx, hr]
    exact h _ _ (by simpa using h2) h3
theorem wp_execB {P : Program} {o : Oper} {a : Act} {w w' : World} {v : Value} {K : Act → World → Prop} {Q : Exit → Act → World → Prop} (h : (execOp a.eval o).run P w = .ok (.value v) w') (hK : K (a.put o.dst v) w') : o.wp P a w K Q := by
  unfold Oper.wp
  rw [h]
  exact hK
theorem OffRow.segN {w : World} {B N : Nat} {e : TypeId} {v : Value} {xs : List Value} (h : OffRow w B e v xs) (hN : xs.length = N) : ∃ A c, v = .slice A N c ∧ N ≤ c ∧ c ≤ maxLen ∧ (A = none → c = 0) ∧ Seg w w.heap.size A xs := by
  subst hN
  exact h.seg
/-- the box alone has changed. -/
structure Boxed (g : Nat) (w w' : World) : Prop where
  os : w'.os = w.os
  tape : w'.tape = w.tape
  output : w'.output = w.output
  size : w'.heap.size = w.heap.size
  block : ∀ k, k ≠ g → w'.heap[k]? = w.heap[k]?
theorem Boxed.refl (g : Nat) (w : World) : Boxed g w w := ⟨rfl, rfl, rfl, rfl, fun _ _ => rfl⟩
theorem Boxed.drew {g : Nat} {a b : World} (h : Boxed g a b) : Boxed g a b.drew := ⟨h.os, h.tape, h.output, h.size, h.block⟩
theorem Boxed.drawn {g : Nat} {a b c : World} (h : Boxed g a b) (hd : Drawn b c) : Boxed g a c := by
  obtain ⟨n, rfl⟩ := hd
  exact ⟨h.os, h.tape, h.output, h.size, h.block⟩
theorem Boxed.set {g : Nat} {a b : World} (h : Boxed g a b) (i : Nat) (u : Value) : Boxed g a (b.setCell ⟨g, i, none⟩ u) :=
  ⟨h.os, h.tape, h.output, by simpa using h.size, fun k hk => (heap_setCell_other b ⟨g, i, none⟩ k u hk).trans (h.block k hk)⟩
theorem Boxed.blk {g k : Nat} {a b : World} {t : TypeId} {cs : Array Value} (h : Boxed g a b) (hk : k ≠ g) (hb : Blk a k t cs) : Blk b k t cs := (h.block k hk).trans hb
theorem Boxed.keep {g B : Nat} {lt : TypeId} {a b : World} (h : Boxed g a b) : BookKeep lt a b g B :=
  ⟨fun D h1 _ => ⟨h.os, h.tape, h.output, by rw [h.size]; exact Nat.le_refl _, fun k hk => h.block k (by omega)⟩, fun hb h1 _ => h.blk h1 hb, by rw [h.size]; exact Nat.le_refl _⟩
theorem OffRow.boxed {g B : Nat} {e : TypeId} {v : Value} {xs : List Value} {a b : World} (h : OffRow a B e v xs) (hb : Boxed g a b) (hg : g < B) : OffRow b B e v xs :=
  h.map fun k hq _ cs hc => hb.blk (by have := (h.lt k hq).1; omega) hc
theorem BookOf.boxed {α : Type} {bt lt ty : TypeId} {sz : Nat} {fl : α → List Value} {ok : α → Prop} {w w' : World} {g B S : Nat} {Ls Ls' : List (Kept α)} {v1 v2 v1' v2' : Value} {held held' : Int}
    (h : BookOf bt lt ty sz fl ok w g B S Ls v1 v2 held) (hx : Boxed g w w') (hb : Blk w' g bt #[v1', v2', .int .i64 held', .bool false]) (hl : OffRow w B lt v1' (Ls'.map (·.v))) (hw : OffRow w B lt v2' (Ls'.map (·.was))) (hne : Two v1' v2') (hs : Ls'.Sublist Ls) :
    BookOf bt lt ty sz fl ok w' g B S Ls' v1' v2' held' :=
  ⟨hb, hl.boxed hx h.gB, hw.boxed hx h.gB, hne, fun t ht => (h.rows t (hs.subset ht)).map fun k hk _ cs hc => hx.blk (by have := h.gB; omega) hc, h.apart.sublist hs, h.gB, h.BS, by rw [hx.size]; exact h.Sw⟩
theorem OffRow.fresh {w : World} {B : Nat} {e : TypeId} {v v' v2 : Value} {xs : List Value} (h : OffRow w B e v2 xs) (hf : FreshOf w v v') (ht : Two v2 v) : Two v2 v' := by
  rcases hf with hf | ⟨g, hf, hg⟩
  · unfold Two; rw [hf]; exact ht
  · right
    rw [hf]
    intro hq
    have := (h.lt g hq).2
    omega
end Mem
end Go.Proofs.Ytebolanengnpfaa
