/-
  runs of the program in the machine.
-/
import Derived.Test.YtkkiefcapbddkaaGreatDoorLayJ
set_option linter.all false
namespace Go.Abs
open Go Go.Proofs
set_option maxRecDepth 1000000
theorem q_lay_17 : qLay 17 = true := by decide +kernel
theorem q_lay_7 : qLay 7 = true := by decide +kernel
theorem q_lst_19 : qLst 19 = true := by decide +kernel
theorem q_sty_1 : qStyM 1 = true := by decide +kernel
theorem q_lay_2 : qLay 2 = true := by decide +kernel
theorem q_lst_10 : qLst 10 = true := by decide +kernel
theorem q_tok_20 : qTok 20 = true := by decide +kernel
theorem q_box_7 : qBox 7 = true := by decide +kernel
theorem q_cssR : pcB (enQ []) 40 46 [cssOT] cssOR = true := by decide +kernel
theorem q_mean_2 : qMeanA 2 = true := by decide +kernel
theorem q_tok_6 : qTok 6 = true := by decide +kernel
theorem q_tree_1 : qTree 1 = true := by decide +kernel
theorem q_own_14 : qOwnA 14 = true := by decide +kernel
end Go.Abs
