/-
  The walks of block.sides, Margin, Padding, Border.
-/
import Derived.Test.YtkkabnkhdhlhkaaBlockA
namespace Go.Proofs.Ytkkabnkhdhlhkaa
open Go.RowKit Num Mem Opn
set_option linter.unusedVariables false
theorem sides_cells {b : Nat} {x0 x1 x2 x3 x4 x5 x6 x7 r l : Value} {w' : World} (h0 : Blk w' b 24 #[x0, x1, x2, x3, x4, x5, x6, x7]) (h1 : Blk w' (b + 1) 2 #[r]) (h2 : Blk w' (b + 1 + 1) 2 #[l]) :
    Blk w' b 24 #[x0, x1, x2, x3, x4, x5, x6, x7] ∧ Blk w' (b + 1) 2 #[r] ∧ Blk w' (b + 1 + 1) 2 #[l] ∧
    w'.cell? ⟨b, 0, none⟩ = some x0 ∧ w'.cell? ⟨b, 1, none⟩ = some x1 ∧ w'.cell? ⟨b, 2, none⟩ = some x2 ∧ w'.cell? ⟨b, 3, none⟩ = some x3 ∧ w'.cell? ⟨b, 4, none⟩ = some x4 ∧ w'.cell? ⟨b, 5, none⟩ = some x5 ∧ w'.cell? ⟨b, 6, none⟩ = some x6 ∧ w'.cell? ⟨b, 7, none⟩ = some x7 ∧ w'.cell? ⟨b + 1, 0, none⟩ = some r ∧ w'.cell? ⟨b + 1 + 1, 0, none⟩ = some l :=
  ⟨h0, h1, h2, h0.cell 0, h0.cell 1, h0.cell 2, h0.cell 3, h0.cell 4, h0.cell 5, h0.cell 6, h0.cell 7, h1.cell 0, h2.cell 0⟩
set_option maxRecDepth 100000 in
set_option maxHeartbeats 2000000 in
theorem block_sides (k0 n0 k1 n1 k2 n2 k3 n3 room least : Int) (w : World) : Calls Try.prog 64 #[.agg #[.int .i64 k0, .int .i64 n0, .int .i64 k1, .int .i64 n1, .int .i64 k2, .int .i64 n2, .int .i64 k3, .int .i64 n3], .int .i64 room, .int .i64 least] w fun e w' =>
    e = .returned (.agg #[.int .i64 (max (len k0 n0 room) least), .int .i64 (max (len k1 n1 room) least), .int .i64 (max (len k2 n2 room) least), .int .i64 (max (len k3 n3 room) least)]) ∧ Below w.heap.size w w' := by
  have hmf : ∀ (fn : Fn) (first cap : Array Value) (w : World), (Instr.makeFunc fn first cap).run Try.prog w = .ok (.func fn first cap) w := fun _ _ _ _ => rfl
  go_enter Try.func64, Try.ntmps64
  go_wp2_with fail
  go_region_held3 (fun w' => Blk w' w.heap.size 24 #[.int .i64 k0, .int .i64 n0, .int .i64 k1, .int .i64 n1, .int .i64 k2, .int .i64 n2, .int .i64 k3, .int .i64 n3] ∧ Blk w' (w.heap.size + 1) 2 #[.int .i64 room] ∧ Blk w' (w.heap.size + 1 + 1) 2 #[.int .i64 least] ∧
    w'.cell? ⟨w.heap.size, 0, none⟩ = some (.int .i64 k0) ∧ w'.cell? ⟨w.heap.size, 1, none⟩ = some (.int .i64 n0) ∧ w'.cell? ⟨w.heap.size, 2, none⟩ = some (.int .i64 k1) ∧ w'.cell? ⟨w.heap.size, 3, none⟩ = some (.int .i64 n1) ∧ w'.cell? ⟨w.heap.size, 4, none⟩ = some (.int .i64 k2) ∧ w'.cell? ⟨w.heap.size, 5, none⟩ = some (.int .i64 n2) ∧ w'.cell? ⟨w.heap.size, 6, none⟩ = some (.int .i64 k3) ∧ w'.cell? ⟨w.heap.size, 7, none⟩ = some (.int .i64 n3) ∧ w'.cell? ⟨w.heap.size + 1, 0, none⟩ = some (.int .i64 room) ∧ w'.cell? ⟨w.heap.size + 1 + 1, 0, none⟩ = some (.int .i64 least))
    (refine sides_cells ?_ ?_ ?_ <;> (repeat (first | with_reducible assumption | (with_reducible refine Blk.drew ?_) | (with_reducible refine Blk.newAt _ _ _ ?_; simp; done) | (with_reducible refine Blk.alloc ?_ _))))
    (first | (go_at_call 71; go_split_ands; refine (block_sides1 _ _ _ _ ⟨w.heap.size + 1, 0, none⟩ ⟨w.heap.size + 1 + 1, 0, none⟩ _ (by assumption) (by assumption)).mono ?_; rintro e w' ⟨rfl, rfl⟩))
  go_wp2_with fail
  go_returns
  exact ⟨rfl, by go_grown⟩
end Go.Proofs.Ytkkabnkhdhlhkaa
