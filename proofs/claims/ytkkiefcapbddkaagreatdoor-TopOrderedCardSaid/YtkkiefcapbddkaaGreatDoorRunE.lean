/-
  runs of the program in the machine.
-/
import Derived.Test.YtkkiefcapbddkaaGreatDoorLayJ
set_option linter.all false
namespace Go.Abs
open Go Go.Proofs
set_option maxRecDepth 1000000
theorem q_lay_16 : qLay 16 = true := by decide +kernel
theorem q_sty_10 : qStyM 10 = true := by decide +kernel
theorem q_mean_16 : qMeanA 16 = true := by decide +kernel
theorem q_mean_13 : qMeanA 13 = true := by decide +kernel
theorem q_box_18 : qBox 18 = true := by decide +kernel
theorem q_box_14 : qBox 14 = true := by decide +kernel
theorem q_box_10 : qBox 10 = true := by decide +kernel
theorem q_tok_18 : qTok 18 = true := by decide +kernel
theorem q_all_19 : qAll 19 = true := by decide +kernel
theorem q_lst_3 : qLst 3 = true := by decide +kernel
theorem q_tree_2 : qTree 2 = true := by decide +kernel
theorem q_all_0 : qAll 0 = true := by decide +kernel
theorem q_own_13 : qOwnA 13 = true := by decide +kernel
end Go.Abs
