/-
  closed facts of the row and the witness.
-/
import Derived.Test.YtkkiefcapbddkaaGreatDoorCardA
set_option linter.all false
namespace Go.Proofs.YtkkiefcapbddkaaGreatDoor.topOrdered
open Go.ChangeShapes Go.WideShapes Go.ChangeAt Go.RowKit Mem Opn
set_option maxRecDepth 100000
theorem f_hw : Rows.topOrderedRow.wfByText (OpenSpec.ofChange Rows.topOrderedSpec) = true := by kernel_rfl
end Go.Proofs.YtkkiefcapbddkaaGreatDoor.topOrdered
namespace Go.Proofs.YtkkiefcapbddkaaGreatDoor.topOrdered
open Go.ChangeShapes Go.WideShapes Go.ChangeAt Go.RowKit Mem Opn
set_option maxRecDepth 100000
theorem f_hm : Tryz.pinned.checked.prog.mainIs = some (true, "a82048598bdb44953602d76ee421eb5b60200ed997e55fe6edeaa66ea3890d2b".toList) := by kernel_rfl
end Go.Proofs.YtkkiefcapbddkaaGreatDoor.topOrdered
namespace Go.Proofs.YtkkiefcapbddkaaGreatDoor.topOrdered
open Go.ChangeShapes Go.WideShapes Go.ChangeAt Go.RowKit Mem Opn
set_option maxRecDepth 100000
theorem f_looks : false = Tryz.pinned.checked.prog.looks [] := by kernel_rfl
theorem f_w22 : Tryz.prog.wantsStandIn 22 = false := by kernel_rfl
theorem f_w25 : Tryz.prog.wantsStandIn 25 = false := by kernel_rfl
end Go.Proofs.YtkkiefcapbddkaaGreatDoor.topOrdered
namespace Go.Proofs.YtkkiefcapbddkaaGreatDoor.topOrdered
open Go.ChangeShapes Go.WideShapes Go.ChangeAt Go.RowKit Mem Opn
set_option maxRecDepth 100000
theorem f_hv (os : Os) : ((laidWorld os).forCall (fun _ _ => 0) ⟨#[], #[.slice none 0 0, .agg #[.int .i64 0, .int .i64 0, .slice none 0 0]], []⟩).variablesRefB Tryz.prog = true := by kernel_rfl
end Go.Proofs.YtkkiefcapbddkaaGreatDoor.topOrdered
namespace Go.Proofs.YtkkiefcapbddkaaGreatDoor.topOrdered
open Go.ChangeShapes Go.WideShapes Go.ChangeAt Go.RowKit Mem Opn
set_option maxRecDepth 100000
theorem f_hr (os : Os) : (((laidWorld os).forCall (fun _ _ => 0) ⟨#[], #[.slice none 0 0, .agg #[.int .i64 0, .int .i64 0, .slice none 0 0]], []⟩).heap.toList.drop Tryz.prog.globals.size).take ((begin Tryz.prog (fun _ _ => 0) default).world.heap.size - Tryz.prog.globals.size) = (begin Tryz.prog (fun _ _ => 0) default).world.heap.toList.drop Tryz.prog.globals.size := by kernel_rfl
end Go.Proofs.YtkkiefcapbddkaaGreatDoor.topOrdered
namespace Go.Proofs.YtkkiefcapbddkaaGreatDoor.topOrdered
open Go.ChangeShapes Go.WideShapes Go.ChangeAt Go.RowKit Mem Opn
set_option maxRecDepth 100000
theorem f_hok (os : Os) : Input.okWideB Tryz.prog ((laidWorld os).forCall (fun _ _ => 0) ⟨#[], #[.slice none 0 0, .agg #[.int .i64 0, .int .i64 0, .slice none 0 0]], []⟩) 3 ⟨#[], #[.slice none 0 0, .agg #[.int .i64 0, .int .i64 0, .slice none 0 0]], []⟩ = true := by kernel_rfl
end Go.Proofs.YtkkiefcapbddkaaGreatDoor.topOrdered
namespace Go.Proofs.YtkkiefcapbddkaaGreatDoor.topOrdered
open Go.ChangeShapes Go.WideShapes Go.ChangeAt Go.RowKit Mem Opn
set_option maxRecDepth 100000
theorem reads (os : Os) {H : Type} (enc : TypeId × Value → H) : ∃ x places, DataW.whole enc Tryz.prog ((laidWorld os).forCall (fun _ _ => 0) ⟨#[], #[.slice none 0 0, .agg #[.int .i64 0, .int .i64 0, .slice none 0 0]], []⟩).memory Tryz.f3.params.toList Rows.topOrderedSpec.vars false #[Value.slice none 0 0, .agg #[.int .i64 0, .int .i64 0, .slice none 0 0]].toList 8 = some (x, [], places) :=
  ⟨[.nil, .agg [.lit (.int .i64 0), .lit (.int .i64 0), .nil]], [], by kernel_rfl⟩

theorem f_ni : Tryz.prog.inits.idxOf? 3 = none := by kernel_rfl
theorem f_fn : Tryz.checked.prog.inits.idxOf? 3 = none := by kernel_rfl
end Go.Proofs.YtkkiefcapbddkaaGreatDoor.topOrdered
