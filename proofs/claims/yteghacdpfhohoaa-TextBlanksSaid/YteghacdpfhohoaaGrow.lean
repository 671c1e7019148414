/-
  Rows that grow by append.
-/
import Derived.Test.YteghacdpfhohoaaMem
import Derived.OwnWalk
import Derived.Deep.MidRow
namespace Go.Proofs.Yteghacdpfhohoaa
open Go.RowKit
set_option linter.unusedVariables false
namespace Mem
theorem own_new {B : Nat} (w : World) (e : TypeId) (cur : Array Value) (hb : B ≤ w.heap.size) (hm : cur.size ≤ maxLen) : (w.alloc (.cells cur e)).ownsRow B e 1 (.slice (some ⟨w.heap.size, 0, none⟩) cur.size cur.size) cur.size cur.toList :=
  ⟨by simp, .inr ⟨w.heap.size, cur.size, cur, rfl, hb, heap_alloc_new w _, Nat.le_refl _, hm, by simp, by rw [Nat.mul_one, ← Array.length_toList, List.take_length]⟩⟩
theorem own_not {w : World} {B g size n : Nat} {t e : TypeId} {v : Value} {cs : Array Value} {xs : List Value} (h : Blk w g t cs) (ho : w.ownsRow B e size v n xs) (ht : t ≠ e) : some g ≠ v.ownBlock := by
  rcases ho.2 with ⟨rfl, _⟩ | ⟨g', cap, cur, rfl, _, hg, _⟩
  · simp [Value.ownBlock]
  · intro hh
    simp only [Value.ownBlock, Option.some.injEq] at hh
    subst hh
    rw [h] at hg
    simp only [Option.some.injEq, Obj.cells.injEq] at hg
    exact ht hg.2.1
theorem Blk.grown {w w' : World} {B g size n : Nat} {t e : TypeId} {v : Value} {cs : Array Value} {xs : List Value} (h : Blk w g t cs) (ho : w.ownsRow B e size v n xs) (hg : w.grownBy w' v.ownBlock) (ht : t ≠ e) : Blk w' g t cs :=
  (hg.block g h.lt (own_not h ho ht)).trans h
theorem own_belowB {w w' : World} {B size n : Nat} {e : TypeId} {v : Value} {xs : List Value} (ho : w.ownsRow B e size v n xs) (hg : w.grownBy w' v.ownBlock) (hB : B ≤ w.heap.size) : Below B w w' :=
  ⟨hg.os, hg.tape, hg.output, hg.size, fun k hk => hg.block k (by omega) (fun e => by have := (ho.lt k e.symm).1; omega)⟩
theorem own_drew {w : World} {B size n : Nat} {e : TypeId} {v : Value} {xs : List Value} (ho : w.ownsRow B e size v n xs) : w.drew.ownsRow B e size v n xs := ho
theorem own_seg {w : World} {B n : Nat} {e : TypeId} {v : Value} {xs : List Value} (ho : w.ownsRow B e 1 v n xs) : ∃ A c, v = .slice A n c ∧ Seg w w.heap.size A xs := by
  rcases ho.2 with ⟨rfl, rfl⟩ | ⟨g, cap, cur, rfl, _, hg, _⟩
  · have := ho.1
    simp at this
    subst this
    exact ⟨none, 0, rfl, Seg.nil _ _ _⟩
  · refine ⟨_, _, rfl, fun _ => ⟨g, 0, rfl, (Array.getElem?_eq_some_iff.1 hg).1, fun j hj => ?_⟩⟩
    have hx : xs[j]? = some xs[j] := List.getElem?_eq_getElem hj
    rw [hx]
    have := ho.cells (g := g) rfl j _ hx
    rwa [Addr.add_mid] at this
end Mem
end Go.Proofs.Yteghacdpfhohoaa
