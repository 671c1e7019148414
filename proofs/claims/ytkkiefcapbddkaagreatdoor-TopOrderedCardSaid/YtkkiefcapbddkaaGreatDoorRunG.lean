/-
  runs of the program in the machine.
-/
import Derived.Test.YtkkiefcapbddkaaGreatDoorLayJ
set_option linter.all false
namespace Go.Abs
open Go Go.Proofs
set_option maxRecDepth 1000000
theorem q_lay_14 : qLay 14 = true := by decide +kernel
theorem q_lay_8 : qLay 8 = true := by decide +kernel
theorem q_sty_5 : qStyM 5 = true := by decide +kernel
theorem q_lst_16 : qLst 16 = true := by decide +kernel
theorem q_tree_15 : qTree 15 = true := by decide +kernel
theorem q_box_16 : qBox 16 = true := by decide +kernel
theorem q_lst_8 : qLst 8 = true := by decide +kernel
theorem q_lst_6 : qLst 6 = true := by decide +kernel
theorem q_mean_3 : qMeanA 3 = true := by decide +kernel
theorem q_all_16 : qAll 16 = true := by decide +kernel
theorem q_all_4 : qAll 4 = true := by decide +kernel
theorem q_lst_1 : qLst 1 = true := by decide +kernel
theorem q_tok_1 : qTok 1 = true := by decide +kernel
theorem q_tok_0 : qTok 0 = true := by decide +kernel
end Go.Abs
