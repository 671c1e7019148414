/-
  runs of the program in the machine.
-/
import Derived.Test.YtkkiefcapbddkaaGreatDoorLayJ
set_option linter.all false
namespace Go.Abs
open Go Go.Proofs
set_option maxRecDepth 1000000
theorem q_sty_20 : qStyM 20 = true := by decide +kernel
theorem q_lay_9 : qLay 9 = true := by decide +kernel
theorem q_sty_6 : qStyM 6 = true := by decide +kernel
theorem q_sty_3 : qStyM 3 = true := by decide +kernel
theorem q_lst_14 : qLst 14 = true := by decide +kernel
theorem q_lst_11 : qLst 11 = true := by decide +kernel
theorem q_lay_0 : qLay 0 = true := by decide +kernel
theorem q_tree_7 : qTree 7 = true := by decide +kernel
theorem q_tok_11 : qTok 11 = true := by decide +kernel
theorem q_all_15 : qAll 15 = true := by decide +kernel
theorem q_all_7 : qAll 7 = true := by decide +kernel
theorem q_box_1 : qBox 1 = true := by decide +kernel
theorem q_own_9 : qOwnA 9 = true := by decide +kernel
theorem q_own_6 : qOwnA 6 = true := by decide +kernel
end Go.Abs
