/-
  casementlaw17's known.
-/
import Derived.Test.YtkoanijiihnioaaFloatF
namespace Go.Proofs.Ytkoanijiihnioaa
open Go.RowKit Num Mem Opn
set_option linter.unusedVariables false
set_option linter.unusedSimpArgs false
theorem kn0 : place [] 0 100 false 60 10 0 = ⟨false, 0, 0, 60, 10⟩ := by decide
theorem kn1 : place [⟨false, 0, 0, 60, 10⟩] 0 100 false 60 10 0 = ⟨false, 0, 10, 60, 10⟩ := by decide
theorem kn2 : place [⟨false, 0, 0, 60, 10⟩, ⟨false, 0, 10, 60, 10⟩] 0 100 true 30 5 0 = ⟨true, 70, 10, 30, 5⟩ := by decide
theorem kn3 : band 12 [⟨false, 0, 0, 60, 10⟩, ⟨false, 0, 10, 60, 10⟩, ⟨true, 70, 10, 30, 5⟩] 0 100 = (60, 70) := by decide
theorem kn4 : sat 0 = 0 := by decide
theorem kn5 : add (sat 0) (max 100 (sat 0)) = 100 := by decide
set_option maxRecDepth 100000 in
set_option maxHeartbeats 4000000 in
theorem known17 (w : World) : Calls Try.prog 19 #[] w fun e w' => e = .returned (.bool true) ∧ Below w.heap.size w w' := by
  go_enter Try.func19, Try.ntmps19
  go_wp2_with fail
  refine (room_New 0 100 _).mono ?_
  rintro e w1 ⟨rfl, hb, hs, hr⟩
  have kk : (0 : Int) = sat 0 := by decide
  rw [show add (sat 0) (max 100 0) = 100 from by decide, kn4] at hr
  clear kk
  have hsz := hb.size
  have hbs : w.heap.size + 1 ≤ w1.heap.size := by omega
  have he : (binOp .eql 23 (.pointer (some ⟨w.heap.size, 0, none⟩)) (.pointer none)).run Try.prog w1 = .ok (.bool false) w1 := by kernel_rfl
  go_wp2_with fail
  refine (room_Put w.heap.size (w.heap.size + 1) 0 100 [] _ false 60 10 0 _ (by decide) hbs hr).mono ?_
  clear hr
  rintro e w2 ⟨rfl, ⟨v2, hr⟩, hk⟩
  rw [kn0] at hr ⊢
  simp only [rect4, List.cons_append, List.nil_append] at hr ⊢
  replace hb := hb.trans (hk.below _ (Nat.le_refl _) (by omega) hb.size)
  have hs2 := hk.size
  have hX0 : Blk (w2.alloc (.cells #[.int .i64 0, .int .i64 0, .int .i64 60, .int .i64 10] 27)) w2.heap.size 27 #[.int .i64 0, .int .i64 0, .int .i64 60, .int .i64 10] := Blk.new _ _ _
  have hk2 : Below w2.heap.size w2 (w2.alloc (.cells #[.int .i64 0, .int .i64 0, .int .i64 60, .int .i64 10] 27)) := (Below.refl _ _).alloc (Nat.le_refl _) _
  replace hr := hr.below hk2
  replace hb := hb.trans (hk2.mono (by omega))
  have hg0 : w.heap.size + 1 ≤ w2.heap.size := by omega
  replace hbs : w.heap.size + 1 ≤ (w2.alloc (.cells #[.int .i64 0, .int .i64 0, .int .i64 60, .int .i64 10] 27)).heap.size := by simp; omega
  go_wp2_with fail
  clear hk hk2 hs2
  generalize w2.heap.size = g0 at *
  generalize w2.alloc _ = w2 at *
  refine (room_Put w.heap.size (w.heap.size + 1) 0 100 [⟨false, 0, 0, 60, 10⟩] _ false 60 10 0 _ (by decide) hbs hr).mono ?_
  clear hr
  rintro e w2 ⟨rfl, ⟨v2, hr⟩, hk⟩
  rw [kn1] at hr ⊢
  simp only [rect4, List.cons_append, List.nil_append] at hr ⊢
  replace hb := hb.trans (hk.below _ (Nat.le_refl _) (by omega) hb.size)
  have hs2 := hk.size
  have hX1 : Blk (w2.alloc (.cells #[.int .i64 0, .int .i64 10, .int .i64 60, .int .i64 10] 27)) w2.heap.size 27 #[.int .i64 0, .int .i64 10, .int .i64 60, .int .i64 10] := Blk.new _ _ _
  have hk2 : Below w2.heap.size w2 (w2.alloc (.cells #[.int .i64 0, .int .i64 10, .int .i64 60, .int .i64 10] 27)) := (Below.refl _ _).alloc (Nat.le_refl _) _
  replace hr := hr.below hk2
  replace hb := hb.trans (hk2.mono (by omega))
  have hg1 : w.heap.size + 1 ≤ w2.heap.size := by omega
  replace hbs : w.heap.size + 1 ≤ (w2.alloc (.cells #[.int .i64 0, .int .i64 10, .int .i64 60, .int .i64 10] 27)).heap.size := by simp; omega
  replace hX0 := (hk.blk hX0 (by omega) (by decide)).below hk2 (hk.blk hX0 (by omega) (by decide)).lt
  go_wp2_with fail
  clear hk hk2 hs2
  generalize w2.heap.size = g1 at *
  generalize w2.alloc _ = w2 at *
  refine (room_Put w.heap.size (w.heap.size + 1) 0 100 [⟨false, 0, 0, 60, 10⟩, ⟨false, 0, 10, 60, 10⟩] _ true 30 5 0 _ (by decide) hbs hr).mono ?_
  clear hr
  rintro e w2 ⟨rfl, ⟨v2, hr⟩, hk⟩
  rw [kn2] at hr ⊢
  simp only [rect4, List.cons_append, List.nil_append] at hr ⊢
  replace hb := hb.trans (hk.below _ (Nat.le_refl _) (by omega) hb.size)
  have hs2 := hk.size
  have hX2 : Blk (w2.alloc (.cells #[.int .i64 70, .int .i64 10, .int .i64 30, .int .i64 5] 27)) w2.heap.size 27 #[.int .i64 70, .int .i64 10, .int .i64 30, .int .i64 5] := Blk.new _ _ _
  have hk2 : Below w2.heap.size w2 (w2.alloc (.cells #[.int .i64 70, .int .i64 10, .int .i64 30, .int .i64 5] 27)) := (Below.refl _ _).alloc (Nat.le_refl _) _
  replace hr := hr.below hk2
  replace hb := hb.trans (hk2.mono (by omega))
  have hg2 : w.heap.size + 1 ≤ w2.heap.size := by omega
  replace hbs : w.heap.size + 1 ≤ (w2.alloc (.cells #[.int .i64 70, .int .i64 10, .int .i64 30, .int .i64 5] 27)).heap.size := by simp; omega
  replace hX0 := (hk.blk hX0 (by omega) (by decide)).below hk2 (hk.blk hX0 (by omega) (by decide)).lt
  replace hX1 := (hk.blk hX1 (by omega) (by decide)).below hk2 (hk.blk hX1 (by omega) (by decide)).lt
  go_wp2_with fail
  clear hk hk2 hs2
  generalize w2.heap.size = g2 at *
  generalize w2.alloc _ = w2 at *
  refine (room_Band w.heap.size (w.heap.size + 1) 0 100 [⟨false, 0, 0, 60, 10⟩, ⟨false, 0, 10, 60, 10⟩, ⟨true, 70, 10, 30, 5⟩] _ 12 _ (by decide) hr).mono ?_
  rintro e w3 ⟨rfl, hb3⟩
  rw [kn3]
  replace hX0 := hX0.below hb3 hX0.lt
  replace hX1 := hX1.below hb3 hX1.lt
  replace hX2 := hX2.below hb3 hX2.lt
  replace hb := hb.trans (hb3.mono (by omega))
  clear hb3 hr
  have x00 : w3.cell? ⟨g0, 0, none⟩ = some (.int .i64 0) := hX0.cell 0
  have x01 : w3.cell? ⟨g0, 1, none⟩ = some (.int .i64 0) := hX0.cell 1
  have x02 : w3.cell? ⟨g0, 2, none⟩ = some (.int .i64 60) := hX0.cell 2
  have x03 : w3.cell? ⟨g0, 3, none⟩ = some (.int .i64 10) := hX0.cell 3
  have x10 : w3.cell? ⟨g1, 0, none⟩ = some (.int .i64 0) := hX1.cell 0
  have x11 : w3.cell? ⟨g1, 1, none⟩ = some (.int .i64 10) := hX1.cell 1
  have x12 : w3.cell? ⟨g1, 2, none⟩ = some (.int .i64 60) := hX1.cell 2
  have x13 : w3.cell? ⟨g1, 3, none⟩ = some (.int .i64 10) := hX1.cell 3
  have x20 : w3.cell? ⟨g2, 0, none⟩ = some (.int .i64 70) := hX2.cell 0
  have x21 : w3.cell? ⟨g2, 1, none⟩ = some (.int .i64 10) := hX2.cell 1
  have x22 : w3.cell? ⟨g2, 2, none⟩ = some (.int .i64 30) := hX2.cell 2
  have x23 : w3.cell? ⟨g2, 3, none⟩ = some (.int .i64 5) := hX2.cell 3
  go_wp2_with fail
  go_ret
  exact ⟨rfl, hb⟩
end Go.Proofs.Ytkoanijiihnioaa
