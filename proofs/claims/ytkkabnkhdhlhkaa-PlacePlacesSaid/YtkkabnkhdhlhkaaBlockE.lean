/-
  The walks of block's asked, Inner, left.
-/
import Derived.Test.YtkkabnkhdhlhkaaBlockD
namespace Go.Proofs.Ytkkabnkhdhlhkaa
open Go.RowKit Num Mem Opn
set_option linter.unusedVariables false
namespace Num
structure Fr where
  m : Sd
  p : Sd
  b : Sd
  w : Int
deriving DecidableEq
def Fr.arr (f : Fr) : Array Value := #[.int .i64 f.m.t, .int .i64 f.m.r, .int .i64 f.m.b, .int .i64 f.m.l, .int .i64 f.p.t, .int .i64 f.p.r, .int .i64 f.p.b, .int .i64 f.p.l, .int .i64 f.b.t, .int .i64 f.b.r, .int .i64 f.b.b, .int .i64 f.b.l, .int .i64 f.w]
def Fr.across (f : Fr) : Int := add (add f.p.l f.p.r) (add f.b.l f.b.r)
def Fr.down (f : Fr) : Int := add (add f.p.t f.p.b) (add f.b.t f.b.b)
def Fr.left (f : Fr) (room : Int) : Int := sub (sub room (add f.m.l f.m.r)) f.across
end Num
theorem frame_cells {w' : World} {b : Nat} {f : Fr} (h : Blk w' b 35 f.arr) : Blk w' b 35 f.arr ∧ w'.cell? ⟨b, 0, none⟩ = some (.int .i64 f.m.t) ∧ w'.cell? ⟨b, 1, none⟩ = some (.int .i64 f.m.r) ∧ w'.cell? ⟨b, 2, none⟩ = some (.int .i64 f.m.b) ∧ w'.cell? ⟨b, 3, none⟩ = some (.int .i64 f.m.l) ∧
    w'.cell? ⟨b, 4, none⟩ = some (.int .i64 f.p.t) ∧ w'.cell? ⟨b, 5, none⟩ = some (.int .i64 f.p.r) ∧ w'.cell? ⟨b, 6, none⟩ = some (.int .i64 f.p.b) ∧ w'.cell? ⟨b, 7, none⟩ = some (.int .i64 f.p.l) ∧ w'.cell? ⟨b, 8, none⟩ = some (.int .i64 f.b.t) ∧ w'.cell? ⟨b, 9, none⟩ = some (.int .i64 f.b.r) ∧ w'.cell? ⟨b, 10, none⟩ = some (.int .i64 f.b.b) ∧ w'.cell? ⟨b, 11, none⟩ = some (.int .i64 f.b.l) ∧ w'.cell? ⟨b, 12, none⟩ = some (.int .i64 f.w) :=
  ⟨h, h.cell 0, h.cell 1, h.cell 2, h.cell 3, h.cell 4, h.cell 5, h.cell 6, h.cell 7, h.cell 8, h.cell 9, h.cell 10, h.cell 11, h.cell 12⟩
set_option maxRecDepth 100000 in
set_option maxHeartbeats 2000000 in
theorem block_asked_across (f : Fr) (w : World) : Calls Try.prog 37 #[.agg f.arr, .func (.func 38) #[] #[]] w fun e w' => e = .returned (.int .i64 f.across) ∧ (((w.alloc (.cells f.arr 35)).alloc (.cells #[.int .i64 f.p.t, .int .i64 f.p.r, .int .i64 f.p.b, .int .i64 f.p.l] 33)).alloc (.cells #[.int .i64 f.b.t, .int .i64 f.b.r, .int .i64 f.b.b, .int .i64 f.b.l] 33)).drew = w' := by
  unfold Fr.arr
  go_enter Try.func37, Try.ntmps37
  go_wp2_with fail
  go_region_held3 (fun w' => Blk w' w.heap.size 35 f.arr ∧ w'.cell? ⟨w.heap.size, 0, none⟩ = some (.int .i64 f.m.t) ∧ w'.cell? ⟨w.heap.size, 1, none⟩ = some (.int .i64 f.m.r) ∧ w'.cell? ⟨w.heap.size, 2, none⟩ = some (.int .i64 f.m.b) ∧ w'.cell? ⟨w.heap.size, 3, none⟩ = some (.int .i64 f.m.l) ∧
    w'.cell? ⟨w.heap.size, 4, none⟩ = some (.int .i64 f.p.t) ∧ w'.cell? ⟨w.heap.size, 5, none⟩ = some (.int .i64 f.p.r) ∧ w'.cell? ⟨w.heap.size, 6, none⟩ = some (.int .i64 f.p.b) ∧ w'.cell? ⟨w.heap.size, 7, none⟩ = some (.int .i64 f.p.l) ∧ w'.cell? ⟨w.heap.size, 8, none⟩ = some (.int .i64 f.b.t) ∧ w'.cell? ⟨w.heap.size, 9, none⟩ = some (.int .i64 f.b.r) ∧ w'.cell? ⟨w.heap.size, 10, none⟩ = some (.int .i64 f.b.b) ∧ w'.cell? ⟨w.heap.size, 11, none⟩ = some (.int .i64 f.b.l) ∧ w'.cell? ⟨w.heap.size, 12, none⟩ = some (.int .i64 f.w))
    (refine frame_cells ?_ <;> (repeat (first | with_reducible assumption | (with_reducible refine Blk.drew ?_) | (refine Blk.newAt _ _ _ ?_; simp; done) | (with_reducible refine Blk.alloc ?_ _))))
    (first | (go_at_call 38; first | (refine (block_across f.p _).mono ?_; rintro e w' ⟨rfl, rfl⟩) | (refine (block_across f.b _).mono ?_; rintro e w' ⟨rfl, rfl⟩)) | (go_at_call 40; refine (fixed_Add _ _ _).mono ?_; rintro e w' ⟨rfl, rfl⟩))
  go_wp2_with fail
  go_ret
  exact ⟨rfl, rfl⟩
set_option maxRecDepth 100000 in
set_option maxHeartbeats 2000000 in
theorem block_asked_down (f : Fr) (w : World) : Calls Try.prog 37 #[.agg f.arr, .func (.func 39) #[] #[]] w fun e w' => e = .returned (.int .i64 f.down) ∧ (((w.alloc (.cells f.arr 35)).alloc (.cells #[.int .i64 f.p.t, .int .i64 f.p.r, .int .i64 f.p.b, .int .i64 f.p.l] 33)).alloc (.cells #[.int .i64 f.b.t, .int .i64 f.b.r, .int .i64 f.b.b, .int .i64 f.b.l] 33)).drew = w' := by
  unfold Fr.arr
  go_enter Try.func37, Try.ntmps37
  go_wp2_with fail
  go_region_held3 (fun w' => Blk w' w.heap.size 35 f.arr ∧ w'.cell? ⟨w.heap.size, 0, none⟩ = some (.int .i64 f.m.t) ∧ w'.cell? ⟨w.heap.size, 1, none⟩ = some (.int .i64 f.m.r) ∧ w'.cell? ⟨w.heap.size, 2, none⟩ = some (.int .i64 f.m.b) ∧ w'.cell? ⟨w.heap.size, 3, none⟩ = some (.int .i64 f.m.l) ∧
    w'.cell? ⟨w.heap.size, 4, none⟩ = some (.int .i64 f.p.t) ∧ w'.cell? ⟨w.heap.size, 5, none⟩ = some (.int .i64 f.p.r) ∧ w'.cell? ⟨w.heap.size, 6, none⟩ = some (.int .i64 f.p.b) ∧ w'.cell? ⟨w.heap.size, 7, none⟩ = some (.int .i64 f.p.l) ∧ w'.cell? ⟨w.heap.size, 8, none⟩ = some (.int .i64 f.b.t) ∧ w'.cell? ⟨w.heap.size, 9, none⟩ = some (.int .i64 f.b.r) ∧ w'.cell? ⟨w.heap.size, 10, none⟩ = some (.int .i64 f.b.b) ∧ w'.cell? ⟨w.heap.size, 11, none⟩ = some (.int .i64 f.b.l) ∧ w'.cell? ⟨w.heap.size, 12, none⟩ = some (.int .i64 f.w))
    (refine frame_cells ?_ <;> (repeat (first | with_reducible assumption | (with_reducible refine Blk.drew ?_) | (refine Blk.newAt _ _ _ ?_; simp; done) | (with_reducible refine Blk.alloc ?_ _))))
    (first | (go_at_call 39; first | (refine (block_down f.p _).mono ?_; rintro e w' ⟨rfl, rfl⟩) | (refine (block_down f.b _).mono ?_; rintro e w' ⟨rfl, rfl⟩)) | (go_at_call 40; refine (fixed_Add _ _ _).mono ?_; rintro e w' ⟨rfl, rfl⟩))
  go_wp2_with fail
  go_ret
  exact ⟨rfl, rfl⟩
def askedOf (f : Fr) (n : Nat) : Int := if n = 38 then f.across else f.down
theorem block_asked (f : Fr) (n : Nat) (h : n = 38 ∨ n = 39) (w : World) : Calls Try.prog 37 #[.agg f.arr, .func (.func n) #[] #[]] w fun e w' => e = .returned (.int .i64 (askedOf f n)) ∧ (((w.alloc (.cells f.arr 35)).alloc (.cells #[.int .i64 f.p.t, .int .i64 f.p.r, .int .i64 f.p.b, .int .i64 f.p.l] 33)).alloc (.cells #[.int .i64 f.b.t, .int .i64 f.b.r, .int .i64 f.b.b, .int .i64 f.b.l] 33)).drew = w' := by
  rcases h with rfl | rfl
  · exact block_asked_across f w
  · exact block_asked_down f w
end Go.Proofs.Ytkkabnkhdhlhkaa
