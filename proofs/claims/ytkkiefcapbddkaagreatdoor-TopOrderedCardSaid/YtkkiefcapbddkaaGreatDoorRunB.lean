/-
  runs of the program in the machine.
-/
import Derived.Test.YtkkiefcapbddkaaGreatDoorLayJ
set_option linter.all false
namespace Go.Abs
open Go Go.Proofs
set_option maxRecDepth 1000000
theorem q_lay_19 : qLay 19 = true := by decide +kernel
theorem q_sty_9 : qStyM 9 = true := by decide +kernel
theorem q_mean_15 : qMeanA 15 = true := by decide +kernel
theorem q_tree_17 : qTree 17 = true := by decide +kernel
theorem q_box_17 : qBox 17 = true := by decide +kernel
theorem q_mean_8 : qMeanA 8 = true := by decide +kernel
theorem q_lst_7 : qLst 7 = true := by decide +kernel
theorem q_mean_4 : qMeanA 4 = true := by decide +kernel
theorem q_tree_4 : qTree 4 = true := by decide +kernel
theorem q_tok_8 : qTok 8 = true := by decide +kernel
theorem q_all_3 : qAll 3 = true := by decide +kernel
theorem q_tok_5 : qTok 5 = true := by decide +kernel
theorem q_own_8 : qOwnA 8 = true := by decide +kernel
theorem q_own_7 : qOwnA 7 = true := by decide +kernel
end Go.Abs
