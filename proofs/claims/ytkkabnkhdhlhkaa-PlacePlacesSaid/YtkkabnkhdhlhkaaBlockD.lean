/-
  The walks of block.Border, across, down, asked, Inner, left.
-/
import Derived.Test.YtkkabnkhdhlhkaaBlockC
namespace Go.Proofs.Ytkkabnkhdhlhkaa
open Go.RowKit Num Mem Opn
set_option linter.unusedVariables false
theorem border_cells {w' : World} {b : Nat} {s : Sty} (h : Blk w' b 28 s.arr) : Blk w' b 28 s.arr ∧ w'.cell? ⟨b, 32, none⟩ = some (.int .i64 s.b0) ∧ w'.cell? ⟨b, 33, none⟩ = some (.int .i64 s.b1) ∧ w'.cell? ⟨b, 34, none⟩ = some (.int .i64 s.b2) ∧ w'.cell? ⟨b, 35, none⟩ = some (.int .i64 s.b3) :=
  ⟨h, h.cell 32, h.cell 33, h.cell 34, h.cell 35⟩
set_option maxRecDepth 100000 in
set_option maxHeartbeats 2000000 in
theorem block_Border (s : Sty) (w : World) : Calls Try.prog 44 #[.agg s.arr] w fun e w' => e = .returned s.border.val ∧ Below w.heap.size w w' := by
  unfold Sty.arr
  go_enter Try.func44, Try.ntmps44
  go_wp2_with fail
  go_region_held3 (fun w' => Blk w' w.heap.size 28 s.arr ∧ w'.cell? ⟨w.heap.size, 32, none⟩ = some (.int .i64 s.b0) ∧ w'.cell? ⟨w.heap.size, 33, none⟩ = some (.int .i64 s.b1) ∧ w'.cell? ⟨w.heap.size, 34, none⟩ = some (.int .i64 s.b2) ∧ w'.cell? ⟨w.heap.size, 35, none⟩ = some (.int .i64 s.b3))
    (refine border_cells ?_ <;> (repeat (first | with_reducible assumption | (with_reducible refine Blk.drew ?_) | (refine Blk.newAt _ _ _ ?_; simp; done) | (with_reducible refine Blk.alloc ?_ _))))
    (first | (go_at_call 65; refine (block_one _ _).mono ?_; rintro e w' ⟨rfl, rfl⟩))
  go_wp2_with fail
  go_returns
  exact ⟨rfl, by go_grown⟩
theorem block_across (x : Sd) (w : World) : Calls Try.prog 38 #[x.val] w fun e w' => e = .returned (.int .i64 (add x.l x.r)) ∧ w.alloc (.cells #[.int .i64 x.t, .int .i64 x.r, .int .i64 x.b, .int .i64 x.l] 33) = w' := by
  unfold Sd.val
  go_enter Try.func38, Try.ntmps38
  go_wp2_with fail
  refine (fixed_Add _ _ _).mono ?_
  rintro e w' ⟨rfl, rfl⟩
  go_wp2_with fail
  go_ret
  exact ⟨rfl, rfl⟩
theorem block_down (x : Sd) (w : World) : Calls Try.prog 39 #[x.val] w fun e w' => e = .returned (.int .i64 (add x.t x.b)) ∧ w.alloc (.cells #[.int .i64 x.t, .int .i64 x.r, .int .i64 x.b, .int .i64 x.l] 33) = w' := by
  unfold Sd.val
  go_enter Try.func39, Try.ntmps39
  go_wp2_with fail
  refine (fixed_Add _ _ _).mono ?_
  rintro e w' ⟨rfl, rfl⟩
  go_wp2_with fail
  go_ret
  exact ⟨rfl, rfl⟩
end Go.Proofs.Ytkkabnkhdhlhkaa
