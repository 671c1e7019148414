/- part of topCells.proved -/
import Derived.Test.YtkkiefcapbddkaaGreatDoorPa
set_option linter.all false
set_option maxRecDepth 1000000
set_option maxHeartbeats 0
noncomputable section
namespace Go.Proofs.YtkkiefcapbddkaaGreatDoor.topCells
open Go.ChangeShapes Go.WideShapes Go.ChangeAt Go.RowKit Mem Opn
def acK:false=Rows.topCellsRow.goesBy Tryz.pinned.checked.prog:=by kernel_rfl
