/-
  The walk of TableNumbers.
-/
import Derived.Test.YtkoanijiihnioaaTabE
namespace Go.Proofs.Ytkoanijiihnioaa
open Go.RowKit Num Mem Opn
set_option linter.unusedVariables false
set_option linter.unusedSimpArgs false
def ndl : List Nd := [⟨64, 640⟩, ⟨64, 64⟩]
theorem tn1 : widths 1000 ndl false = [640, 64] := by decide
theorem tn2 : widths 100 ndl true = [64, 64] := by decide
theorem tn3 : widths 200 ndl false = [136, 64] := by decide
theorem tn4 : cols [] = [] := by decide
theorem tn5 : rowsM [[], [3, 5], [-2]] = [0, 5, 0] := by decide
theorem tn6 : cols [[⟨9, 1⟩]] = [⟨9, 9⟩] := by decide
theorem tn7 : widths 9 [] true = [] := by decide
theorem bet_ndl : Bet 70368744177664 ndl := bet_mem (by decide) (by simp [ndl])
theorem le_ndl (i : Nat) : (ndl.getD i nd0).least ≤ (ndl.getD i nd0).most := le_mem (by simp [ndl]) i
theorem ints_own {w : World} {base n : Nat} {e : TypeId} {v : Value} {l : List Int} (ho : w.ownsRow base e 1 v n (l.map (Value.int .i64))) : ∃ A c, v = .slice A n c ∧ Ints w w.heap.size A l := own_seg ho
set_option maxRecDepth 100000 in
set_option maxHeartbeats 8000000 in
theorem walk_TableNumbers (w : World) : Calls Try.prog 11 #[] w fun e w' => e = .returned (.bool true) ∧ Below w.heap.size w w' := by
  have hT := Blk.new w 58 #[.int .i64 64, .int .i64 640, .int .i64 64, .int .i64 64]
  have hB : Below w.heap.size w (w.alloc (.cells #[.int .i64 64, .int .i64 640, .int .i64 64, .int .i64 64] 58)) := (Below.refl _ _).alloc (Nat.le_refl _) _
  go_enter Try.func11, Try.ntmps11
  go_upto_region 2 with fail
  refine wp_forget (fun Z => Blk Z w.heap.size 58 #[.int .i64 64, .int .i64 640, .int .i64 64, .int .i64 64] ∧ Below w.heap.size w Z) ⟨hT, hB⟩ ?_
  clear hT hB
  rintro w1 ⟨hT, hB⟩
  have hR := Recs.blk (l := ndl) (B := w1.heap.size) nd_length hT rfl hT.lt
  have hS := table_Widths 1000 ndl _ 2 false w1 (by decide) bet_ndl le_ndl ⟨by decide, by decide⟩ hR
  rw [tn1] at hS
  simp only [ndl, List.length_cons, List.length_nil, Nat.zero_add, Nat.reduceAdd] at hS
  clear hR
  go_wp2_with fail
  refine hS.mono ?_
  clear hS
  rintro e w1a ⟨g1, hg1, rfl, hb1, hY⟩
  clear hg1
  replace hT := hT.below hb1 hT.lt
  replace hB := hB.trans (hb1.mono hB.size)
  clear hb1
  have hbA : Below w1a.heap.size w1a (w1a.alloc (.cells (ints [640, 64]) 2)) := (Below.refl _ _).alloc (Nat.le_refl _) _
  have hY2 := Ints.ofBlk (hY.alloc (.cells (ints [640, 64]) 2)) (B := (w1a.alloc (.cells (ints [640, 64]) 2)).heap.size) (hY.alloc _).lt
  have hZ2 := Ints.ofBlk (Blk.new w1a 2 (ints [640, 64])) (B := (w1a.alloc (.cells (ints [640, 64]) 2)).heap.size) (Blk.new w1a _ _).lt
  go_wp2_with fail
  refine (book_Same [640, 64] _ _ _ 2 _ _ _ (by decide) hY2 hZ2).mono ?_
  rintro e w2 ⟨rfl, hd2⟩
  have hb2 := hbA.trans (hd2.below _)
  clear hY2 hZ2 hd2 hbA
  clear hY
  replace hT := hT.below hb2 hT.lt
  replace hB := hB.trans (hb2.mono hB.size)
  clear hb2
  have hR := Recs.blk (l := ndl) (B := w2.heap.size) nd_length hT rfl hT.lt
  have hS := table_Widths 100 ndl _ 2 true w2 (by decide) bet_ndl le_ndl ⟨by decide, by decide⟩ hR
  rw [tn2] at hS
  simp only [ndl, List.length_cons, List.length_nil, Nat.zero_add, Nat.reduceAdd] at hS
  clear hR
  go_wp2_with fail
  refine hS.mono ?_
  clear hS
  rintro e w2a ⟨g2, hg2, rfl, hb1, hY⟩
  clear hg2
  replace hT := hT.below hb1 hT.lt
  replace hB := hB.trans (hb1.mono hB.size)
  clear hb1
  have hbA : Below w2a.heap.size w2a (w2a.alloc (.cells (ints [64, 64]) 2)) := (Below.refl _ _).alloc (Nat.le_refl _) _
  have hY2 := Ints.ofBlk (hY.alloc (.cells (ints [64, 64]) 2)) (B := (w2a.alloc (.cells (ints [64, 64]) 2)).heap.size) (hY.alloc _).lt
  have hZ2 := Ints.ofBlk (Blk.new w2a 2 (ints [64, 64])) (B := (w2a.alloc (.cells (ints [64, 64]) 2)).heap.size) (Blk.new w2a _ _).lt
  go_wp2_with fail
  refine (book_Same [64, 64] _ _ _ 2 _ _ _ (by decide) hY2 hZ2).mono ?_
  rintro e w3 ⟨rfl, hd2⟩
  have hb2 := hbA.trans (hd2.below _)
  clear hY2 hZ2 hd2 hbA
  clear hY
  replace hT := hT.below hb2 hT.lt
  replace hB := hB.trans (hb2.mono hB.size)
  clear hb2
  have hR := Recs.blk (l := ndl) (B := w3.heap.size) nd_length hT rfl hT.lt
  have hS := table_Widths 200 ndl _ 2 false w3 (by decide) bet_ndl le_ndl ⟨by decide, by decide⟩ hR
  rw [tn3] at hS
  simp only [ndl, List.length_cons, List.length_nil, Nat.zero_add, Nat.reduceAdd] at hS
  clear hR
  go_wp2_with fail
  refine hS.mono ?_
  clear hS
  rintro e w3a ⟨g3, hg3, rfl, hb1, hY⟩
  clear hg3
  replace hT := hT.below hb1 hT.lt
  replace hB := hB.trans (hb1.mono hB.size)
  clear hb1
  have hbA : Below w3a.heap.size w3a (w3a.alloc (.cells (ints [136, 64]) 2)) := (Below.refl _ _).alloc (Nat.le_refl _) _
  have hY2 := Ints.ofBlk (hY.alloc (.cells (ints [136, 64]) 2)) (B := (w3a.alloc (.cells (ints [136, 64]) 2)).heap.size) (hY.alloc _).lt
  have hZ2 := Ints.ofBlk (Blk.new w3a 2 (ints [136, 64])) (B := (w3a.alloc (.cells (ints [136, 64]) 2)).heap.size) (Blk.new w3a _ _).lt
  go_wp2_with fail
  refine (book_Same [136, 64] _ _ _ 2 _ _ _ (by decide) hY2 hZ2).mono ?_
  rintro e w4 ⟨rfl, hd2⟩
  have hb2 := hbA.trans (hd2.below _)
  clear hY2 hZ2 hd2 hbA
  clear hY
  replace hT := hT.below hb2 hT.lt
  replace hB := hB.trans (hb2.mono hB.size)
  clear hb2
  have hS := table_Columns [] [] none 0 w4 (by decide) ⟨rfl, Seg.nil _ _ _, by simp⟩ (by simp)
  rw [tn4] at hS
  simp only [List.length_nil] at hS
  go_wp2_with fail
  refine hS.mono ?_
  clear hS
  rintro e w5 ⟨v4, rfl, hb1, hY⟩
  obtain ⟨A4, c4, rfl, hc4⟩ := own_some hY
  clear hY
  replace hT := hT.below hb1 hT.lt
  replace hB := hB.trans (hb1.mono hB.size)
  clear hb1
  have hE1 := ((Blk.new (w5.alloc (.cells #[] 2)) 2 #[.int .i64 3, .int .i64 5]).alloc (.cells #[.int .i64 (-2)] 2)).alloc (.cells #[.slice (some ⟨w5.heap.size, 0, none⟩) 0 0, .slice (some ⟨w5.heap.size + 1, 0, none⟩) 2 2, .slice (some ⟨w5.heap.size + 1 + 1, 0, none⟩) 1 1] 55)
  have hE2 := (Blk.new ((w5.alloc (.cells #[] 2)).alloc (.cells #[.int .i64 3, .int .i64 5] 2)) 2 #[.int .i64 (-2)]).alloc (.cells #[.slice (some ⟨w5.heap.size, 0, none⟩) 0 0, .slice (some ⟨w5.heap.size + 1, 0, none⟩) 2 2, .slice (some ⟨w5.heap.size + 1 + 1, 0, none⟩) 1 1] 55)
  have hE3 := Blk.new (((w5.alloc (.cells #[] 2)).alloc (.cells #[.int .i64 3, .int .i64 5] 2)).alloc (.cells #[.int .i64 (-2)] 2)) 55 #[.slice (some ⟨w5.heap.size, 0, none⟩) 0 0, .slice (some ⟨w5.heap.size + 1, 0, none⟩) 2 2, .slice (some ⟨w5.heap.size + 1 + 1, 0, none⟩) 1 1]
  have hb1 : Below w5.heap.size w5 ((((w5.alloc (.cells #[] 2)).alloc (.cells #[.int .i64 3, .int .i64 5] 2)).alloc (.cells #[.int .i64 (-2)] 2)).alloc (.cells #[.slice (some ⟨w5.heap.size, 0, none⟩) 0 0, .slice (some ⟨w5.heap.size + 1, 0, none⟩) 2 2, .slice (some ⟨w5.heap.size + 1 + 1, 0, none⟩) 1 1] 55)) := ((((Below.refl w5.heap.size w5).alloc (Nat.le_refl _) _).alloc (by simp) _).alloc (by simp; omega) _).alloc (by simp; omega) _
  simp only [World.size_alloc] at hE1 hE2 hE3
  go_wp2_with fail
  generalize hwe : (((w5.alloc (.cells #[] 2)).alloc (.cells #[.int .i64 3, .int .i64 5] 2)).alloc (.cells #[.int .i64 (-2)] 2)).alloc (.cells #[.slice (some ⟨w5.heap.size, 0, none⟩) 0 0, .slice (some ⟨w5.heap.size + 1, 0, none⟩) 2 2, .slice (some ⟨w5.heap.size + 1 + 1, 0, none⟩) 1 1] 55) = w5a0 at *
  clear hwe
  have hR : Rows2 w5a0 w5a0.heap.size (some ⟨w5.heap.size + 1 + 1 + 1, 0, none⟩) 1 fl1 [.slice (some ⟨w5.heap.size, 0, none⟩) 0 0, .slice (some ⟨w5.heap.size + 1, 0, none⟩) 2 2, .slice (some ⟨w5.heap.size + 1 + 1, 0, none⟩) 1 1] [[], [3, 5], [-2]] := Rows2.of (Seg.ofBlk hE3 hE3.lt) ⟨⟨_, _, rfl, by decide, Recs.nil _ _ _ _ _⟩, ⟨_, _, rfl, by decide, Recs.blk fl1_length hE1 rfl hE1.lt⟩, ⟨_, _, rfl, by decide, Recs.blk fl1_length hE2 rfl hE2.lt⟩, trivial⟩
  have hS := table_Rows [[], [3, 5], [-2]] _ _ 3 w5a0 (by decide) hR (by simp [I64])
  rw [tn5] at hS
  simp only [List.length_cons, List.length_nil, Nat.zero_add, Nat.reduceAdd] at hS
  clear hR hE1 hE2 hE3
  refine hS.mono ?_
  clear hS
  rintro e w5a ⟨v5, rfl, hb2, hY⟩
  obtain ⟨A5, c5, rfl, hI5⟩ := ints_own hY
  replace hb1 := hb1.trans (hb2.mono hb1.size)
  clear hb2 hY
  replace hT := hT.below hb1 hT.lt
  replace hB := hB.trans (hb1.mono hB.size)
  clear hb1
  have hbA : Below w5a.heap.size w5a (w5a.alloc (.cells (ints [0, 5, 0]) 2)) := (Below.refl _ _).alloc (Nat.le_refl _) _
  have hY2 := hI5.below hbA
  have hZ2 := Ints.ofBlk (Blk.new w5a 2 (ints [0, 5, 0])) (B := (w5a.alloc (.cells (ints [0, 5, 0]) 2)).heap.size) (Blk.new w5a _ _).lt
  go_wp2_with fail
  refine (book_Same [0, 5, 0] _ _ _ 3 _ _ _ (by decide) hY2 hZ2).mono ?_
  rintro e w6 ⟨rfl, hd2⟩
  have hb2 := hbA.trans (hd2.below _)
  clear hY2 hZ2 hd2 hbA
  clear hI5
  replace hT := hT.below hb2 hT.lt
  replace hB := hB.trans (hb2.mono hB.size)
  clear hb2
  have hE1 := (Blk.new w6 58 #[.int .i64 9, .int .i64 1]).alloc (.cells #[.slice (some ⟨w6.heap.size, 0, none⟩) 1 1] 53)
  have hE2 := Blk.new (w6.alloc (.cells #[.int .i64 9, .int .i64 1] 58)) 53 #[.slice (some ⟨w6.heap.size, 0, none⟩) 1 1]
  have hb1 : Below w6.heap.size w6 ((w6.alloc (.cells #[.int .i64 9, .int .i64 1] 58)).alloc (.cells #[.slice (some ⟨w6.heap.size, 0, none⟩) 1 1] 53)) := ((Below.refl w6.heap.size w6).alloc (Nat.le_refl _) _).alloc (by simp) _
  simp only [World.size_alloc] at hE2
  go_wp2_with fail
  generalize hwe : (w6.alloc (.cells #[.int .i64 9, .int .i64 1] 58)).alloc (.cells #[.slice (some ⟨w6.heap.size, 0, none⟩) 1 1] 53) = w6a0 at *
  clear hwe
  have hR : Rows2 w6a0 w6a0.heap.size (some ⟨w6.heap.size + 1, 0, none⟩) 2 Nd.cells [.slice (some ⟨w6.heap.size, 0, none⟩) 1 1] [[⟨9, 1⟩]] := Rows2.of (Seg.ofBlk hE2 hE2.lt) ⟨⟨_, _, rfl, by decide, Recs.blk nd_length hE1 rfl hE1.lt⟩, trivial⟩
  have hS := table_Columns [[⟨9, 1⟩]] _ _ 1 w6a0 (by decide) hR (by simp)
  rw [tn6] at hS
  simp only [List.length_cons, List.length_nil, Nat.zero_add, Nat.reduceAdd] at hS
  clear hR hE1 hE2
  refine hS.mono ?_
  clear hS
  rintro e w6a ⟨v6, rfl, hb2, hY⟩
  obtain ⟨A6, c6, rfl, hc6⟩ := own_some hY
  replace hb1 := hb1.trans (hb2.mono hb1.size)
  clear hb2
  replace hT := hT.below hb1 hT.lt
  replace hB := hB.trans (hb1.mono hB.size)
  clear hb1
  have hbA : Below w6a.heap.size w6a (w6a.alloc (.cells #[.int .i64 9, .int .i64 9] 58)) := (Below.refl _ _).alloc (Nat.le_refl _) _
  have hY2 := (Recs.of_own nd_length (by decide) hY).below hbA
  have hZ2 := Recs.blk (l := ([⟨9, 9⟩] : List Nd)) (B := (w6a.alloc (.cells #[.int .i64 9, .int .i64 9] 58)).heap.size) nd_length (Blk.new w6a 58 #[.int .i64 9, .int .i64 9]) rfl (Blk.new w6a _ _).lt
  go_wp2_with fail
  refine (need_Same [⟨9, 9⟩] _ _ c6 1 _ _ _ (by decide) (by simp [I64]) hY2 hZ2).mono ?_
  rintro e w7 ⟨rfl, hd2⟩
  have hb2 := hbA.trans (hd2.below _)
  clear hY2 hZ2 hd2 hbA hY
  replace hT := hT.below hb2 hT.lt
  replace hB := hB.trans (hb2.mono hB.size)
  clear hb2
  have hS := table_Widths 9 [] none 0 true w7 (by decide) (bet_mem (by decide) (by simp)) (le_mem (by simp)) ⟨by decide, by decide⟩ (Recs.nil _ _ _ _ _)
  simp only [List.length_nil] at hS
  go_wp2_with fail
  refine hS.mono ?_
  clear hS
  rintro e w8 ⟨g9, hg9, rfl, hb1, -⟩
  clear hg9
  replace hT := hT.below hb1 hT.lt
  replace hB := hB.trans (hb1.mono hB.size)
  clear hb1
  go_wp2_with fail
  refine (known19 _).mono ?_
  rintro e w9 ⟨rfl, hb9⟩
  go_wp2_with fail
  go_ret
  exact ⟨rfl, hB.trans (hb9.mono hB.size)⟩
end Go.Proofs.Ytkoanijiihnioaa
