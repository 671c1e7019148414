/-
  runs of the program in the machine.
-/
import Derived.Test.YtkkiefcapbddkaaGreatDoorLayJ
set_option linter.all false
namespace Go.Abs
open Go Go.Proofs
set_option maxRecDepth 1000000
theorem q_lay_15 : qLay 15 = true := by decide +kernel
theorem q_sty_11 : qStyM 11 = true := by decide +kernel
theorem q_lay_5 : qLay 5 = true := by decide +kernel
theorem q_tree_18 : qTree 18 = true := by decide +kernel
theorem q_lst_13 : qLst 13 = true := by decide +kernel
theorem q_lay_1 : qLay 1 = true := by decide +kernel
theorem q_tree_9 : qTree 9 = true := by decide +kernel
theorem q_mean_5 : qMeanA 5 = true := by decide +kernel
theorem q_lst_4 : qLst 4 = true := by decide +kernel
theorem q_box_4 : qBox 4 = true := by decide +kernel
theorem q_all_6 : qAll 6 = true := by decide +kernel
theorem q_tok_4 : qTok 4 = true := by decide +kernel
theorem q_own_12 : qOwnA 12 = true := by decide +kernel
theorem q_own_0 : qOwnA 0 = true := by decide +kernel
end Go.Abs
