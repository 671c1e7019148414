/-
  a closed fact of the card.
-/
import Derived.Test.YtkkiefcapbddkaaGreatDoorCardA
set_option linter.all false
namespace Go.Proofs.YtkkiefcapbddkaaGreatDoor.topOrdered
open Go.ChangeShapes Go.WideShapes Go.ChangeAt Go.RowKit Mem Opn
set_option maxRecDepth 100000
theorem f_hg : false = Rows.topOrderedRow.goesBy Tryz.pinned.checked.prog := by kernel_rfl
end Go.Proofs.YtkkiefcapbddkaaGreatDoor.topOrdered
