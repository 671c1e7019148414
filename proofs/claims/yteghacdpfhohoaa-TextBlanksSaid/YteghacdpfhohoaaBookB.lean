/-
  What a book of lists looks like in memory, with no program in sight.
-/
import Derived.Test.YteghacdpfhohoaaBookA
import Derived.Test.YteghacdpfhohoaaRecs
namespace Go.Proofs.Yteghacdpfhohoaa
open Go.RowKit
set_option linter.unusedVariables false
namespace Mem
/-- two rows lie in two blocks. -/
def Two (a b : Value) : Prop := a.ownBlock = none ∨ a.ownBlock ≠ b.ownBlock
theorem Two.symm {a b : Value} (h : Two a b) : Two b a := by
  rcases h with h | h
  · unfold Two
    by_cases hb : b.ownBlock = none
    · exact .inl hb
    · exact .inr (by rw [h]; exact hb)
  · exact .inr (Ne.symm h)
/-- a list that is kept, what it was, and what it reads. -/
structure Kept (α : Type) where
  v : Value
  was : Value
  row : List α
section
variable {α : Type}
structure KeptAt (T : TypeId) (sz : Nat) (fl : α → List Value) (ok : α → Prop) (w : World) (B S : Nat) (t : Kept α) : Prop where
  list : w.ownsRow B T sz t.v t.row.length (t.row.flatMap fl)
  copy : w.ownsRow B T sz t.was t.row.length (t.row.flatMap fl)
  few : t.row.length ≤ 1000000
  ok : ∀ x ∈ t.row, ok x
  old : ∀ k, t.v.ownBlock = some k → k < S
/-- a book at g that holds these lists. -/
structure BookOf (BT LT T : TypeId) (sz : Nat) (fl : α → List Value) (ok : α → Prop) (w : World) (g B S : Nat) (Ls : List (Kept α)) (v1 v2 : Value) (held : Int) : Prop where
  blk : Blk w g BT #[v1, v2, .int .i64 held, .bool false]
  lists : OffRow w B LT v1 (Ls.map (·.v))
  was : OffRow w B LT v2 (Ls.map (·.was))
  ne : Two v1 v2
  rows : ∀ t ∈ Ls, KeptAt T sz fl ok w B S t
  apart : Ls.Pairwise fun s t => Two s.v t.v
  gB : g < B
  BS : B ≤ S
  Sw : S ≤ w.heap.size
structure BookAt (BT LT T : TypeId) (sz : Nat) (fl : α → List Value) (ok : α → Prop) (w : World) (g B S n : Nat) : Prop where
  ex : ∃ Ls v1 v2 held, Ls.length ≤ n ∧ BookOf BT LT T sz fl ok w g B S Ls v1 v2 held
variable {BT LT T : TypeId} {sz : Nat} {fl : α → List Value} {ok : α → Prop} {w w' : World} {g B S n : Nat} {Ls : List (Kept α)} {v1 v2 : Value} {held : Int}
theorem own_map {base z m : Nat} {e : TypeId} {v : Value} {xs : List Value} (h : w.ownsRow base e z v m xs) (hk : ∀ k, v.ownBlock = some k → k < w.heap.size → ∀ cs, Blk w k e cs → Blk w' k e cs) : w'.ownsRow base e z v m xs := by
  refine ⟨h.1, ?_⟩
  rcases h.2 with hn | ⟨b, cap, cur, rfl, hb, hgg, rest⟩
  · exact .inl hn
  · exact .inr ⟨b, cap, cur, rfl, hb, hk b rfl (Blk.lt (t := e) (cs := cur) hgg) cur hgg, rest⟩
theorem KeptAt.map {t : Kept α} (h : KeptAt T sz fl ok w B S t) (hk : ∀ k, B ≤ k → k < w.heap.size → ∀ cs, Blk w k T cs → Blk w' k T cs) : KeptAt T sz fl ok w' B S t :=
  ⟨own_map h.list fun k hq hl cs hc => hk k (h.list.lt k hq).1 hl cs hc, own_map h.copy fun k hq hl cs hc => hk k (h.copy.lt k hq).1 hl cs hc, h.few, h.ok, h.old⟩
theorem KeptAt.more {t : Kept α} {S' : Nat} (h : KeptAt T sz fl ok w B S t) (hs : S ≤ S') : KeptAt T sz fl ok w B S' t := ⟨h.list, h.copy, h.few, h.ok, fun k hk => by have := h.old k hk; omega⟩
/-- what keeps its blocks keeps a book. -/
theorem BookOf.map (h : BookOf BT LT T sz fl ok w g B S Ls v1 v2 held) (h1 : ∀ cs, Blk w g BT cs → Blk w' g BT cs) (h2 : ∀ k, B ≤ k → k < w.heap.size → ∀ cs, Blk w k LT cs → Blk w' k LT cs)
    (h3 : ∀ k, B ≤ k → k < w.heap.size → ∀ cs, Blk w k T cs → Blk w' k T cs) (hs : w.heap.size ≤ w'.heap.size) : BookOf BT LT T sz fl ok w' g B S Ls v1 v2 held :=
  ⟨h1 _ h.blk, h.lists.map fun k hq hl cs hc => h2 k (h.lists.lt k hq).1 hl cs hc, h.was.map fun k hq hl cs hc => h2 k (h.was.lt k hq).1 hl cs hc, h.ne, fun t ht => (h.rows t ht).map h3, h.apart, h.gB, h.BS, Nat.le_trans h.Sw hs⟩
theorem BookOf.below (h : BookOf BT LT T sz fl ok w g B S Ls v1 v2 held) (hb : Below w.heap.size w w') : BookOf BT LT T sz fl ok w' g B S Ls v1 v2 held :=
  h.map (fun _ hc => hc.below hb hc.lt) (fun _ _ hl _ hc => hc.below hb hl) (fun _ _ hl _ hc => hc.below hb hl) hb.size
theorem BookAt.below (h : BookAt BT LT T sz fl ok w g B S n) (hb : Below w.heap.size w w') : BookAt BT LT T sz fl ok w' g B S n := by
  obtain ⟨Ls, v1, v2, held, hn, hB⟩ := h.ex
  exact ⟨Ls, v1, v2, held, hn, hB.below hb⟩
theorem BookOf.more {S' : Nat} (h : BookOf BT LT T sz fl ok w g B S Ls v1 v2 held) (hs : S ≤ S') (hw : S' ≤ w.heap.size) : BookOf BT LT T sz fl ok w g B S' Ls v1 v2 held :=
  ⟨h.blk, h.lists, h.was, h.ne, fun t ht => (h.rows t ht).more hs, h.apart, h.gB, Nat.le_trans h.BS hs, hw⟩
/-- a new book. -/
theorem BookAt.new (h : Blk w g BT #[.slice none 0 0, .slice none 0 0, .int .i64 0, .bool false]) (hg : g < B) (hB : B ≤ w.heap.size) : BookAt BT LT T sz fl ok w g B B 0 :=
  ⟨[], _, _, 0, Nat.le_refl _, h, OffRow.nil _ _ _, OffRow.nil _ _ _, .inl rfl, by simp, List.Pairwise.nil, hg, Nat.le_refl _, hB⟩
/-- what a Keep changes: the book's box, and blocks of lists. -/
structure BookKeep (LT : TypeId) (w w' : World) (g B : Nat) : Prop where
  below : ∀ D, D ≤ g → D ≤ B → Below D w w'
  blk : ∀ {k : Nat} {t : TypeId} {cs : Array Value}, Blk w k t cs → k ≠ g → t ≠ LT → Blk w' k t cs
  size : w.heap.size ≤ w'.heap.size
theorem BookKeep.of_below (h : Below w.heap.size w w') (hg : g ≤ w.heap.size) : BookKeep LT w w' g B := ⟨fun D h1 h2 => h.mono (by omega), fun hk _ _ => hk.below h hk.lt, h.size⟩
theorem BookKeep.refl (w : World) (g B : Nat) : BookKeep LT w w g B := ⟨fun _ _ _ => Below.refl _ _, fun hk _ _ => hk, Nat.le_refl _⟩
theorem BookKeep.trans {a b c : World} (h : BookKeep LT a b g B) (k : BookKeep LT b c g B) : BookKeep LT a c g B := ⟨fun D h1 h2 => (h.below D h1 h2).trans (k.below D h1 h2), fun hk h1 h2 => k.blk (h.blk hk h1 h2) h1 h2, Nat.le_trans h.size k.size⟩
theorem BookKeep.set (w : World) (g B i : Nat) (u : Value) : BookKeep LT w (w.setCell ⟨g, i, none⟩ u) g B := ⟨fun D h1 _ => (Below.refl _ _).setCell h1 u, fun hk h1 _ => hk.far h1 u, by simp⟩
theorem BookKeep.grown {v : Value} {xs : List Value} (ho : OffRow w B LT v xs) (hg : w.grownBy w' v.ownBlock) (hB : B ≤ w.heap.size) : BookKeep LT w w' g B := by
  refine ⟨fun D _ h2 => ⟨hg.os, hg.tape, hg.output, hg.size, fun k hk => hg.block k (by omega) (fun e => by have := (ho.lt k e.symm).1; omega)⟩, fun hk _ ht => (hg.block _ hk.lt ?_).trans hk, hg.size⟩
  exact fun e => ho.not hk ht e.symm
end
end Mem
end Go.Proofs.Yteghacdpfhohoaa
