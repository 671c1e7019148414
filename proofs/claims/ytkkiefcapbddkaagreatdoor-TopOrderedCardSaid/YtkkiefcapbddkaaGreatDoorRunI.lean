/-
  runs of the program in the machine.
-/
import Derived.Test.YtkkiefcapbddkaaGreatDoorLayJ
set_option linter.all false
namespace Go.Abs
open Go Go.Proofs
set_option maxRecDepth 1000000
theorem q_lay_12 : qLay 12 = true := by decide +kernel
theorem q_sty_13 : qStyM 13 = true := by decide +kernel
theorem q_mean_18 : qMeanA 18 = true := by decide +kernel
theorem q_tree_19 : qTree 19 = true := by decide +kernel
theorem q_mean_12 : qMeanA 12 = true := by decide +kernel
theorem q_tree_12 : qTree 12 = true := by decide +kernel
theorem q_tree_10 : qTree 10 = true := by decide +kernel
theorem q_tree_6 : qTree 6 = true := by decide +kernel
theorem q_tree_5 : qTree 5 = true := by decide +kernel
theorem q_all_12 : qAll 12 = true := by decide +kernel
theorem q_box_2 : qBox 2 = true := by decide +kernel
theorem q_all_2 : qAll 2 = true := by decide +kernel
theorem q_own_10 : qOwnA 10 = true := by decide +kernel
theorem q_own_5 : qOwnA 5 = true := by decide +kernel
end Go.Abs
