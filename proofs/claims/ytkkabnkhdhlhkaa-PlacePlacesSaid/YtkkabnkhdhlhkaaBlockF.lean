/-
  The walk of block's Inner, left.
-/
import Derived.Test.YtkkabnkhdhlhkaaBlockE
namespace Go.Proofs.Ytkkabnkhdhlhkaa
open Go.RowKit Num Mem Opn
set_option linter.unusedVariables false
set_option maxRecDepth 100000 in
set_option maxHeartbeats 2000000 in
theorem block_Inner (f : Fr) (w : World) : Calls Try.prog 16 #[.agg f.arr] w fun e w' => e = .returned (.tuple #[.int .i64 f.across, .int .i64 f.down]) ∧ Below w.heap.size w w' := by
  unfold Fr.arr
  go_enter Try.func16, Try.ntmps16
  go_wp2_with fail
  go_region_held3 (fun w' => Blk w' w.heap.size 35 f.arr ∧ w'.cell? ⟨w.heap.size, 0, none⟩ = some (.int .i64 f.m.t) ∧ w'.cell? ⟨w.heap.size, 1, none⟩ = some (.int .i64 f.m.r) ∧ w'.cell? ⟨w.heap.size, 2, none⟩ = some (.int .i64 f.m.b) ∧ w'.cell? ⟨w.heap.size, 3, none⟩ = some (.int .i64 f.m.l) ∧
    w'.cell? ⟨w.heap.size, 4, none⟩ = some (.int .i64 f.p.t) ∧ w'.cell? ⟨w.heap.size, 5, none⟩ = some (.int .i64 f.p.r) ∧ w'.cell? ⟨w.heap.size, 6, none⟩ = some (.int .i64 f.p.b) ∧ w'.cell? ⟨w.heap.size, 7, none⟩ = some (.int .i64 f.p.l) ∧ w'.cell? ⟨w.heap.size, 8, none⟩ = some (.int .i64 f.b.t) ∧ w'.cell? ⟨w.heap.size, 9, none⟩ = some (.int .i64 f.b.r) ∧ w'.cell? ⟨w.heap.size, 10, none⟩ = some (.int .i64 f.b.b) ∧ w'.cell? ⟨w.heap.size, 11, none⟩ = some (.int .i64 f.b.l) ∧ w'.cell? ⟨w.heap.size, 12, none⟩ = some (.int .i64 f.w))
    (refine frame_cells ?_ <;> (repeat (first | with_reducible assumption | (with_reducible refine Blk.drew ?_) | (refine Blk.newAt _ _ _ ?_; simp; done) | (with_reducible refine Blk.alloc ?_ _))))
    (first | (go_at_call 37; refine (block_asked f _ (by decide) _).mono ?_; rintro e w' ⟨rfl, rfl⟩))
  go_wp2_with fail
  go_returns
  exact ⟨rfl, by go_grown⟩
set_option maxRecDepth 100000 in
set_option maxHeartbeats 2000000 in
theorem block_left (f : Fr) (room : Int) (w : World) : Calls Try.prog 34 #[.agg f.arr, .int .i64 room] w fun e w' => e = .returned (.int .i64 (f.left room)) ∧ Below w.heap.size w w' := by
  have hB := Blk.new w 35 f.arr
  have hg : Below w.heap.size w (w.alloc (.cells f.arr 35)) := by go_grown
  unfold Fr.arr
  go_enter Try.func34, Try.ntmps34
  go_wp2_with fail
  refine (block_Inner f _).mono ?_
  rintro e w1 ⟨rfl, hb⟩
  obtain ⟨hB1, c0, c1, c2, c3, _⟩ := frame_cells (hB.below hb (by simp))
  have hB2 : Below w.heap.size w w1 := hg.trans (hb.mono hg.size)
  clear hB hg hb hB1
  have hz := hB2.size
  go_wp2_with fail
  refine (block_across f.m _).mono ?_
  rintro e w2 ⟨rfl, rfl⟩
  go_wp2_with fail
  refine (fixed_Sub _ _ _).mono ?_
  rintro e w2 ⟨rfl, rfl⟩
  go_wp2_with fail
  refine (fixed_Sub _ _ _).mono ?_
  rintro e w2 ⟨rfl, rfl⟩
  go_wp2_with fail
  go_ret
  exact ⟨rfl, by go_grown⟩
end Go.Proofs.Ytkkabnkhdhlhkaa
