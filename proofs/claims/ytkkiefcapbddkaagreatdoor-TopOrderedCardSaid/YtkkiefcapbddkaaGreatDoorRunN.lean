/-
  runs of the program in the machine.
-/
import Derived.Test.YtkkiefcapbddkaaGreatDoorLayJ
set_option linter.all false
namespace Go.Abs
open Go Go.Proofs
set_option maxRecDepth 1000000
theorem q_sty_17 : qStyM 17 = true := by decide +kernel
theorem q_lay_10 : qLay 10 = true := by decide +kernel
theorem q_lay_6 : qLay 6 = true := by decide +kernel
theorem q_mean_14 : qMeanA 14 = true := by decide +kernel
theorem q_sty_0 : qStyM 0 = true := by decide +kernel
theorem q_box_15 : qBox 15 = true := by decide +kernel
theorem q_mean_7 : qMeanA 7 = true := by decide +kernel
theorem q_box_8 : qBox 8 = true := by decide +kernel
theorem q_all_18 : qAll 18 = true := by decide +kernel
theorem q_all_14 : qAll 14 = true := by decide +kernel
theorem q_all_9 : qAll 9 = true := by decide +kernel
theorem q_own_16 : qOwnA 16 = true := by decide +kernel
theorem q_tree_0 : qTree 0 = true := by decide +kernel
theorem q_own_4 : qOwnA 4 = true := by decide +kernel
end Go.Abs
