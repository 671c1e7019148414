/-
  runs of the program in the machine.
-/
import Derived.Test.YtkkiefcapbddkaaGreatDoorLayJ
set_option linter.all false
namespace Go.Abs
open Go Go.Proofs
set_option maxRecDepth 1000000
theorem q_sty_19 : qStyM 19 = true := by decide +kernel
theorem q_sty_14 : qStyM 14 = true := by decide +kernel
theorem q_sty_8 : qStyM 8 = true := by decide +kernel
theorem q_sty_2 : qStyM 2 = true := by decide +kernel
theorem q_mean_11 : qMeanA 11 = true := by decide +kernel
theorem q_lst_12 : qLst 12 = true := by decide +kernel
theorem q_mean_6 : qMeanA 6 = true := by decide +kernel
theorem q_box_9 : qBox 9 = true := by decide +kernel
theorem q_box_6 : qBox 6 = true := by decide +kernel
theorem q_tree_3 : qTree 3 = true := by decide +kernel
theorem q_tok_7 : qTok 7 = true := by decide +kernel
theorem q_own_20 : qOwnA 20 = true := by decide +kernel
theorem q_own_15 : qOwnA 15 = true := by decide +kernel
end Go.Abs
