/-
  closed facts of the row, together.
-/
import Derived.Test.YtkkiefcapbddkaaGreatDoorCardE
import Derived.JoinedCond
set_option linter.all false
namespace Go.Proofs.YtkkiefcapbddkaaGreatDoor.topOrdered
open Go.ChangeShapes Go.WideShapes Go.ChangeAt Go.RowKit Mem Opn
set_option maxRecDepth 100000
theorem band2 {a b : Bool} (h1 : a = true) (h2 : b = true) : (a && b) = true := by rw [h1, h2]; rfl
theorem closed : joinedFacts Tryz.pinned.checked.prog 3 Tryz.f3 (OpenSpec.ofChange Rows.topOrderedSpec).bare Rows.topOrderedRow = true := by
  unfold joinedFacts
  exact band2 (band2 (band2 (band2 (band2 (band2 (band2 (band2 (band2 (band2 (band2 (band2 (band2 (band2 (band2 (band2 (band2 (band2 (band2 (band2 (band2 (band2 (band2 (band2 (band2 (band2 (band2 (band2 (band2 (band2 (band2 j0 j1) j2) j3) j4) j5) j6) j7) j8) j9) j10) j11) j12) j13) j14) j15) j16) j17) j18) j19) j20) j21) j22) j23) j24) j25) j26) j27) j28) j29) j30) j31
theorem f_name : Tryz.pinned.checked.prog.funcNamed Rows.topOrderedRow.func = some 3 := by kernel_rfl
theorem f_wrap : Tryz.f3.isWrapper Tryz.pinned.checked.prog Rows.topOrderedRow.wrapper Rows.topOrderedRow.mainSum := by
  unfold Func.isWrapper; first | (rw [if_pos (by decide +kernel)]; kernel_rfl) | (rw [if_neg (by decide +kernel)]; exact ⟨rfl, rfl⟩)
theorem f_inst : Tryz.f3.isInstance Tryz.pinned.checked.prog Rows.topOrderedRow.origin Rows.topOrderedRow.targs := of_decide_eq_true (by kernel_rfl)
end Go.Proofs.YtkkiefcapbddkaaGreatDoor.topOrdered
