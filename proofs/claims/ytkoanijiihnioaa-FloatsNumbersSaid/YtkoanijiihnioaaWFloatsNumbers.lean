/-
  The walk of FloatsNumbers.
-/
import Derived.Test.YtkoanijiihnioaaFloatG
namespace Go.Proofs.Ytkoanijiihnioaa
open Go.RowKit Num Mem Opn
set_option linter.unusedVariables false
set_option linter.unusedSimpArgs false
theorem fn3 : place [⟨false, 0, 0, 60, 10⟩, ⟨false, 0, 10, 60, 10⟩, ⟨true, 70, 10, 30, 5⟩] 0 100 false 500 4 0 = ⟨false, 0, 20, 500, 4⟩ := by decide
theorem fn4 : place [⟨false, 0, 0, 60, 10⟩, ⟨false, 0, 10, 60, 10⟩, ⟨true, 70, 10, 30, 5⟩, ⟨false, 0, 20, 500, 4⟩] 0 100 false 1 0 0 = ⟨false, 0, 24, 1, 0⟩ := by decide
theorem fn5 : next 12 [⟨false, 0, 0, 60, 10⟩, ⟨false, 0, 10, 60, 10⟩, ⟨true, 70, 10, 30, 5⟩] 0 false = (15, true) := by decide
theorem fn6 : clear_ 3 [⟨false, 0, 0, 60, 10⟩, ⟨false, 0, 10, 60, 10⟩, ⟨true, 70, 10, 30, 5⟩, ⟨false, 0, 20, 500, 4⟩, ⟨false, 0, 24, 1, 0⟩] 0 = 24 := by decide
theorem fn7 : clear_ 0 [⟨false, 0, 0, 60, 10⟩, ⟨false, 0, 10, 60, 10⟩, ⟨true, 70, 10, 30, 5⟩, ⟨false, 0, 20, 500, 4⟩, ⟨false, 0, 24, 1, 0⟩] 0 = 0 := by decide
theorem fn8 : clear_ 2 [⟨false, 0, 0, 60, 10⟩, ⟨false, 0, 10, 60, 10⟩, ⟨true, 70, 10, 30, 5⟩, ⟨false, 0, 20, 500, 4⟩, ⟨false, 0, 24, 1, 0⟩] 0 = 15 := by decide
set_option maxRecDepth 100000 in
set_option maxHeartbeats 4000000 in
theorem walk_FloatsNumbers (w : World) : Calls Try.prog 8 #[] w fun e w' => e = .returned (.bool true) ∧ Below w.heap.size w w' := by
  go_enter Try.func8, Try.ntmps8
  go_wp2_with fail
  refine (room_New 0 100 _).mono ?_
  rintro e w1 ⟨rfl, hB, hs, hR⟩
  rw [show add (sat 0) (max 100 0) = 100 from by decide, kn4] at hR
  have hsz := hB.size
  go_wp2_with fail
  refine (room_New 5 (-3) _).mono ?_
  rintro e w2 ⟨rfl, hb, hs2, hS⟩
  rw [show add (sat 5) (max (-3) 0) = 5 from by decide, show sat 5 = 5 from by decide] at hS
  replace hR := hR.below hb
  replace hB := hB.trans (hb.mono hsz)
  obtain ⟨g2, hg2⟩ : ∃ g2, w1.heap.size = g2 := ⟨_, rfl⟩
  rw [hg2] at hS hs2 ⊢
  have hg : w.heap.size + 1 ≤ g2 := by omega
  have hbs : g2 + 1 ≤ w2.heap.size := by omega
  clear hs hsz hb hs2 hg2
  have he : (binOp .eql 23 (.pointer (some ⟨w.heap.size, 0, none⟩)) (.pointer none)).run Try.prog w2 = .ok (.bool false) w2 := by kernel_rfl
  have he2 : (binOp .eql 23 (.pointer (some ⟨g2, 0, none⟩)) (.pointer none)).run Try.prog w2 = .ok (.bool false) w2 := by kernel_rfl
  go_wp2_with fail
  refine (room_Next w.heap.size (w.heap.size + 1) 0 100 [] _ 0 _ (by decide) hR).mono ?_
  rintro e w5 ⟨rfl, hb⟩
  rw [show next 0 [] 0 false = (0, false) from rfl]
  replace hR := hR.below hb
  replace hS := hS.below hb
  replace hB := hB.trans (hb.mono (by omega))
  replace hbs : g2 + 1 ≤ w5.heap.size := by have := hb.size; omega
  clear hb
  go_wp2_with fail
  refine (room_Bottom w.heap.size (w.heap.size + 1) 0 100 [] _ _ (by decide) hR).mono ?_
  rintro e w5 ⟨rfl, hb⟩
  rw [show clear_ 3 [] (-70368744177664) = -70368744177664 from rfl]
  replace hR := hR.below hb
  replace hS := hS.below hb
  replace hB := hB.trans (hb.mono (by omega))
  replace hbs : g2 + 1 ≤ w5.heap.size := by have := hb.size; omega
  clear hb
  go_wp2_with fail
  refine (room_Put w.heap.size (w.heap.size + 1) 0 100 [] _ false 60 10 0 _ (by decide) (by omega) hR).mono ?_
  clear hR
  rintro e w5 ⟨rfl, ⟨v2, hR⟩, hk⟩
  rw [kn0] at hR ⊢
  simp only [rect4, List.cons_append, List.nil_append] at hR ⊢
  replace hB := hB.trans (hk.below _ (Nat.le_refl _) (by omega) hB.size)
  have hks := hk.size
  replace hbs : g2 + 1 ≤ w5.heap.size := by omega
  replace hS : RoomAt w5 g2 (g2 + 1) 5 5 [] (.slice none 0 0) := ⟨hk.blk hS.blk (by omega) (by decide), own_nil _ _ _ _⟩
  clear hk hks
  go_wp2_with fail
  refine (room_Put w.heap.size (w.heap.size + 1) 0 100 [⟨false, 0, 0, 60, 10⟩] _ false 60 10 0 _ (by decide) (by omega) hR).mono ?_
  clear hR
  rintro e w5 ⟨rfl, ⟨v2, hR⟩, hk⟩
  rw [kn1] at hR ⊢
  simp only [rect4, List.cons_append, List.nil_append] at hR ⊢
  replace hB := hB.trans (hk.below _ (Nat.le_refl _) (by omega) hB.size)
  have hks := hk.size
  replace hbs : g2 + 1 ≤ w5.heap.size := by omega
  replace hS : RoomAt w5 g2 (g2 + 1) 5 5 [] (.slice none 0 0) := ⟨hk.blk hS.blk (by omega) (by decide), own_nil _ _ _ _⟩
  clear hk hks
  go_wp2_with fail
  refine (room_Put w.heap.size (w.heap.size + 1) 0 100 [⟨false, 0, 0, 60, 10⟩, ⟨false, 0, 10, 60, 10⟩] _ true 30 5 0 _ (by decide) (by omega) hR).mono ?_
  clear hR
  rintro e w5 ⟨rfl, ⟨v2, hR⟩, hk⟩
  rw [kn2] at hR ⊢
  simp only [rect4, List.cons_append, List.nil_append] at hR ⊢
  replace hB := hB.trans (hk.below _ (Nat.le_refl _) (by omega) hB.size)
  have hks := hk.size
  replace hbs : g2 + 1 ≤ w5.heap.size := by omega
  replace hS : RoomAt w5 g2 (g2 + 1) 5 5 [] (.slice none 0 0) := ⟨hk.blk hS.blk (by omega) (by decide), own_nil _ _ _ _⟩
  clear hk hks
  go_wp2_with fail
  refine (room_Next w.heap.size (w.heap.size + 1) 0 100 [⟨false, 0, 0, 60, 10⟩, ⟨false, 0, 10, 60, 10⟩, ⟨true, 70, 10, 30, 5⟩] _ 12 _ (by decide) hR).mono ?_
  rintro e w5 ⟨rfl, hb⟩
  rw [fn5]
  replace hR := hR.below hb
  replace hS := hS.below hb
  replace hB := hB.trans (hb.mono (by omega))
  replace hbs : g2 + 1 ≤ w5.heap.size := by have := hb.size; omega
  clear hb
  go_wp2_with fail
  refine (room_Band g2 (g2 + 1) 5 5 [] _ 9 _ (by decide) hS).mono ?_
  rintro e w5 ⟨rfl, hb⟩
  rw [show band 9 [] 5 5 = (5, 5) from by decide]
  replace hR := hR.below hb
  replace hS := hS.below hb
  replace hB := hB.trans (hb.mono (by omega))
  replace hbs : g2 + 1 ≤ w5.heap.size := by have := hb.size; omega
  clear hb
  clear hS
  go_wp2_with fail
  refine (room_Put w.heap.size (w.heap.size + 1) 0 100 [⟨false, 0, 0, 60, 10⟩, ⟨false, 0, 10, 60, 10⟩, ⟨true, 70, 10, 30, 5⟩] _ false 500 4 0 _ (by decide) (by omega) hR).mono ?_
  clear hR
  rintro e w5 ⟨rfl, ⟨v2, hR⟩, hk⟩
  rw [fn3] at hR ⊢
  simp only [rect4, List.cons_append, List.nil_append] at hR ⊢
  replace hB := hB.trans (hk.below _ (Nat.le_refl _) (by omega) hB.size)
  have hks := hk.size
  replace hbs : g2 + 1 ≤ w5.heap.size := by omega
  have hX3 : Blk (w5.alloc (.cells #[.int .i64 0, .int .i64 20, .int .i64 500, .int .i64 4] 27)) w5.heap.size 27 #[.int .i64 0, .int .i64 20, .int .i64 500, .int .i64 4] := Blk.new _ _ _
  have hk2 : Below w5.heap.size w5 (w5.alloc (.cells #[.int .i64 0, .int .i64 20, .int .i64 500, .int .i64 4] 27)) := (Below.refl _ _).alloc (Nat.le_refl _) _
  replace hR := hR.below hk2
  replace hB := hB.trans (hk2.mono (by omega))
  have hg3 : g2 + 1 ≤ w5.heap.size := by omega
  replace hbs : g2 + 1 ≤ (w5.alloc (.cells #[.int .i64 0, .int .i64 20, .int .i64 500, .int .i64 4] 27)).heap.size := by simp; omega
  go_wp2_with fail
  clear hk hk2 hks
  generalize w5.heap.size = b3 at *
  generalize w5.alloc _ = w5 at *
  refine (room_Put w.heap.size (w.heap.size + 1) 0 100 [⟨false, 0, 0, 60, 10⟩, ⟨false, 0, 10, 60, 10⟩, ⟨true, 70, 10, 30, 5⟩, ⟨false, 0, 20, 500, 4⟩] _ false 1 0 0 _ (by decide) (by omega) hR).mono ?_
  clear hR
  rintro e w5 ⟨rfl, ⟨v2, hR⟩, hk⟩
  rw [fn4] at hR ⊢
  simp only [rect4, List.cons_append, List.nil_append] at hR ⊢
  replace hB := hB.trans (hk.below _ (Nat.le_refl _) (by omega) hB.size)
  have hks := hk.size
  replace hbs : g2 + 1 ≤ w5.heap.size := by omega
  replace hX3 := hk.blk hX3 (by omega) (by decide)
  have hX4 : Blk (w5.alloc (.cells #[.int .i64 0, .int .i64 24, .int .i64 1, .int .i64 0] 27)) w5.heap.size 27 #[.int .i64 0, .int .i64 24, .int .i64 1, .int .i64 0] := Blk.new _ _ _
  have hk2 : Below w5.heap.size w5 (w5.alloc (.cells #[.int .i64 0, .int .i64 24, .int .i64 1, .int .i64 0] 27)) := (Below.refl _ _).alloc (Nat.le_refl _) _
  replace hR := hR.below hk2
  replace hX3 := hX3.below hk2 hX3.lt
  replace hB := hB.trans (hk2.mono (by omega))
  have hg4 : g2 + 1 ≤ w5.heap.size := by omega
  replace hbs : g2 + 1 ≤ (w5.alloc (.cells #[.int .i64 0, .int .i64 24, .int .i64 1, .int .i64 0] 27)).heap.size := by simp; omega
  go_wp2_with fail
  clear hk hk2 hks
  generalize w5.heap.size = b4 at *
  generalize w5.alloc _ = w5 at *
  refine (room_All w.heap.size (w.heap.size + 1) 0 100 [⟨false, 0, 0, 60, 10⟩, ⟨false, 0, 10, 60, 10⟩, ⟨true, 70, 10, 30, 5⟩, ⟨false, 0, 20, 500, 4⟩, ⟨false, 0, 24, 1, 0⟩] _ _ (by decide) hR).mono ?_
  rintro e w5 ⟨v9, rfl, ho, hb⟩
  replace hR := hR.below hb
  replace hX3 := hX3.below hb hX3.lt
  replace hX4 := hX4.below hb hX4.lt
  replace hB := hB.trans (hb.mono (by omega))
  replace hbs : g2 + 1 ≤ w5.heap.size := by have := hb.size; omega
  clear hb
  obtain ⟨A9, c9, rfl, hc9⟩ := own_some ho
  go_wp2_with fail
  refine (room_Clear w.heap.size (w.heap.size + 1) 0 100 [⟨false, 0, 0, 60, 10⟩, ⟨false, 0, 10, 60, 10⟩, ⟨true, 70, 10, 30, 5⟩, ⟨false, 0, 20, 500, 4⟩, ⟨false, 0, 24, 1, 0⟩] _ 0 3 _ (by decide) hR).mono ?_
  rintro e w5 ⟨rfl, hb⟩
  rw [fn6]
  replace hR := hR.below hb
  replace ho := own_below ho hb
  replace hX3 := hX3.below hb hX3.lt
  replace hX4 := hX4.below hb hX4.lt
  replace hB := hB.trans (hb.mono (by omega))
  replace hbs : g2 + 1 ≤ w5.heap.size := by have := hb.size; omega
  clear hb
  have hRec := Recs.of_own fl_length (by decide) ho
  obtain ⟨b9, o9, f9, rfl, hb9, hf9, -⟩ := hRec.at_ (k := 2) (by decide)
  obtain rfl : (⟨true, 70, 10, 30, 5⟩ : Fl) = f9 := Option.some.inj hf9.out
  have f0 := (floats_at hRec hf9.out).1
  simp only [Nat.reduceMul] at f0
  clear hRec hf9
  have x30 : w5.cell? ⟨b3, 0, none⟩ = some (.int .i64 0) := hX3.cell 0
  have x31 : w5.cell? ⟨b3, 1, none⟩ = some (.int .i64 20) := hX3.cell 1
  have x32 : w5.cell? ⟨b3, 2, none⟩ = some (.int .i64 500) := hX3.cell 2
  have x33 : w5.cell? ⟨b3, 3, none⟩ = some (.int .i64 4) := hX3.cell 3
  have x40 : w5.cell? ⟨b4, 0, none⟩ = some (.int .i64 0) := hX4.cell 0
  have x41 : w5.cell? ⟨b4, 1, none⟩ = some (.int .i64 24) := hX4.cell 1
  have x42 : w5.cell? ⟨b4, 2, none⟩ = some (.int .i64 1) := hX4.cell 2
  have x43 : w5.cell? ⟨b4, 3, none⟩ = some (.int .i64 0) := hX4.cell 3
  go_wp2_with fail
  clear x30
  clear x31
  clear x32
  clear x33
  clear x40
  clear x41
  clear x42
  clear x43
  refine (room_Clear w.heap.size (w.heap.size + 1) 0 100 [⟨false, 0, 0, 60, 10⟩, ⟨false, 0, 10, 60, 10⟩, ⟨true, 70, 10, 30, 5⟩, ⟨false, 0, 20, 500, 4⟩, ⟨false, 0, 24, 1, 0⟩] _ 0 0 _ (by decide) hR).mono ?_
  rintro e w5 ⟨rfl, hb⟩
  rw [fn7]
  replace hR := hR.below hb
  replace ho := own_below ho hb
  replace hX3 := hX3.below hb hX3.lt
  replace hX4 := hX4.below hb hX4.lt
  replace hB := hB.trans (hb.mono (by omega))
  replace hbs : g2 + 1 ≤ w5.heap.size := by have := hb.size; omega
  clear hb
  go_wp2_with fail
  refine (room_Clear w.heap.size (w.heap.size + 1) 0 100 [⟨false, 0, 0, 60, 10⟩, ⟨false, 0, 10, 60, 10⟩, ⟨true, 70, 10, 30, 5⟩, ⟨false, 0, 20, 500, 4⟩, ⟨false, 0, 24, 1, 0⟩] _ 0 2 _ (by decide) hR).mono ?_
  rintro e w5 ⟨rfl, hb⟩
  rw [fn8]
  replace hR := hR.below hb
  replace ho := own_below ho hb
  replace hX3 := hX3.below hb hX3.lt
  replace hX4 := hX4.below hb hX4.lt
  replace hB := hB.trans (hb.mono (by omega))
  replace hbs : g2 + 1 ≤ w5.heap.size := by have := hb.size; omega
  clear hb
  go_wp2_with fail
  refine (known17 _).mono ?_
  rintro e w8 ⟨rfl, hb⟩
  go_wp2_with fail
  go_ret
  exact ⟨rfl, hB.trans (hb.mono hB.size)⟩
end Go.Proofs.Ytkoanijiihnioaa
