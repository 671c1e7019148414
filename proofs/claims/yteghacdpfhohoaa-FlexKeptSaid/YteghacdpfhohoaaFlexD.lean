/-
  casementlaw18's known.
-/
import Derived.Test.YteghacdpfhohoaaFlexC
import Derived.Test.YteghacdpfhohoaaBook
namespace Go.Proofs.Yteghacdpfhohoaa
open Go.RowKit Num Mem Opn
set_option linter.unusedVariables false
theorem Mem.Recs.blk {α : Type} {w : World} {g B sz : Nat} {t : TypeId} {cs : Array Value} {fl : α → List Value} {l : List α} (hfl : ∀ x, (fl x).length = sz) (h : Blk w g t cs) (hcs : cs.toList = l.flatMap fl) (hB : g < B) : Recs w B (some ⟨g, 0, none⟩) sz fl l := fun _ =>
  ⟨g, 0, rfl, hB, fun i x hx j v hv => by rw [Nat.zero_add, h.cell, ← Array.getElem?_toList, hcs]; exact flat_get hfl hx hv⟩
theorem kn1 : sizes 100 [⟨10, 0, 1, 1⟩, ⟨10, 0, 3, 1⟩] = [30, 70] := by decide
theorem kn2 : sizes 10 [⟨2, 0, 0, 1⟩, ⟨18, 0, 0, 1⟩] = [0, 10] := by decide
set_option maxRecDepth 100000 in
set_option maxHeartbeats 4000000 in
theorem known18 (w : World) : Calls Try.prog 17 #[] w fun e w' => e = .returned (.bool true) ∧ Below w.heap.size w w' := by
  have hX := Blk.new w 30 #[.int .i64 10, .int .i64 0, .int .i64 1, .int .i64 1, .int .i64 10, .int .i64 0, .int .i64 3, .int .i64 1]
  have hB : Below w.heap.size w (w.alloc (.cells #[.int .i64 10, .int .i64 0, .int .i64 1, .int .i64 1, .int .i64 10, .int .i64 0, .int .i64 3, .int .i64 1] 30)) := (Below.refl _ _).alloc (Nat.le_refl _) _
  have hR := Recs.blk (l := ([⟨10, 0, 1, 1⟩, ⟨10, 0, 3, 1⟩] : List It)) (B := (w.alloc (.cells #[.int .i64 10, .int .i64 0, .int .i64 1, .int .i64 1, .int .i64 10, .int .i64 0, .int .i64 3, .int .i64 1] 30)).heap.size) it_length hX rfl hX.lt
  have hS := flex_Sizes 100 [⟨10, 0, 1, 1⟩, ⟨10, 0, 3, 1⟩] _ 2 _ (by decide) ⟨by decide, by decide⟩ hR
  rw [kn1] at hS
  simp only [List.length_cons, List.length_nil, Nat.zero_add, Nat.reduceAdd] at hS
  clear hR
  go_enter Try.func17, Try.ntmps17
  go_wp2_with fail
  refine hS.mono ?_
  clear hS
  rintro e w1 ⟨rfl, hb1, hY⟩
  replace hB := hB.trans (hb1.mono (by simp))
  clear hb1 hX
  generalize (w.alloc _).heap.size = g1 at *
  have hB2 : Below w.heap.size w (w1.alloc (.cells (ints [30, 70]) 2)) := hB.alloc hB.size _
  have hY2 := Ints.ofBlk (hY.alloc (.cells (ints [30, 70]) 2)) (B := (w1.alloc (.cells (ints [30, 70]) 2)).heap.size) (hY.alloc _).lt
  have hZ2 := Ints.ofBlk (Blk.new w1 2 (ints [30, 70])) (B := (w1.alloc (.cells (ints [30, 70]) 2)).heap.size) (Blk.new w1 _ _).lt
  go_wp2_with fail
  refine (book_Same [30, 70] _ _ 2 2 _ _ _ (by decide) hY2 hZ2).mono ?_
  rintro e w2 ⟨rfl, hd2⟩
  replace hB := hB2.trans (hd2.below _)
  clear hY2 hZ2 hd2 hB2 hY
  have hX := Blk.new w2 30 #[.int .i64 2, .int .i64 0, .int .i64 0, .int .i64 1, .int .i64 18, .int .i64 0, .int .i64 0, .int .i64 1]
  have hB2 : Below w.heap.size w (w2.alloc (.cells #[.int .i64 2, .int .i64 0, .int .i64 0, .int .i64 1, .int .i64 18, .int .i64 0, .int .i64 0, .int .i64 1] 30)) := hB.alloc hB.size _
  have hR := Recs.blk (l := ([⟨2, 0, 0, 1⟩, ⟨18, 0, 0, 1⟩] : List It)) (B := (w2.alloc (.cells #[.int .i64 2, .int .i64 0, .int .i64 0, .int .i64 1, .int .i64 18, .int .i64 0, .int .i64 0, .int .i64 1] 30)).heap.size) it_length hX rfl hX.lt
  have hS := flex_Sizes 10 [⟨2, 0, 0, 1⟩, ⟨18, 0, 0, 1⟩] _ 2 _ (by decide) ⟨by decide, by decide⟩ hR
  rw [kn2] at hS
  simp only [List.length_cons, List.length_nil, Nat.zero_add, Nat.reduceAdd] at hS
  clear hR hB
  go_wp2_with fail
  refine hS.mono ?_
  clear hS
  rintro e w3 ⟨rfl, hb1, hY⟩
  have hB := hB2.trans (hb1.mono (by have := hB2.size; omega))
  clear hb1 hX hB2
  generalize (w2.alloc _).heap.size = g2 at *
  have hB2 : Below w.heap.size w (w3.alloc (.cells (ints [0, 10]) 2)) := hB.alloc hB.size _
  have hY2 := Ints.ofBlk (hY.alloc (.cells (ints [0, 10]) 2)) (B := (w3.alloc (.cells (ints [0, 10]) 2)).heap.size) (hY.alloc _).lt
  have hZ2 := Ints.ofBlk (Blk.new w3 2 (ints [0, 10])) (B := (w3.alloc (.cells (ints [0, 10]) 2)).heap.size) (Blk.new w3 _ _).lt
  go_wp2_with fail
  refine (book_Same [0, 10] _ _ 2 2 _ _ _ (by decide) hY2 hZ2).mono ?_
  rintro e w4 ⟨rfl, hd2⟩
  go_wp2_with fail
  go_ret
  exact ⟨rfl, hB2.trans (hd2.below _)⟩
end Go.Proofs.Yteghacdpfhohoaa
