/-
  runs of the program in the machine.
-/
import Derived.Test.YtkkiefcapbddkaaGreatDoorLayJ
set_option linter.all false
namespace Go.Abs
open Go Go.Proofs
set_option maxRecDepth 1000000
theorem q_lay_18 : qLay 18 = true := by decide +kernel
theorem q_mean_20 : qMeanA 20 = true := by decide +kernel
theorem q_sty_4 : qStyM 4 = true := by decide +kernel
theorem q_lst_15 : qLst 15 = true := by decide +kernel
theorem q_tree_14 : qTree 14 = true := by decide +kernel
theorem q_tree_11 : qTree 11 = true := by decide +kernel
theorem q_tree_8 : qTree 8 = true := by decide +kernel
theorem q_lst_5 : qLst 5 = true := by decide +kernel
theorem q_all_20 : qAll 20 = true := by decide +kernel
theorem q_tok_9 : qTok 9 = true := by decide +kernel
theorem q_all_8 : qAll 8 = true := by decide +kernel
theorem q_own_18 : qOwnA 18 = true := by decide +kernel
theorem q_box_0 : qBox 0 = true := by decide +kernel
theorem q_own_1 : qOwnA 1 = true := by decide +kernel
end Go.Abs
