/-
  runs of the program in the machine.
-/
import Derived.Test.YtkkiefcapbddkaaGreatDoorLayJ
set_option linter.all false
namespace Go.Abs
open Go Go.Proofs
set_option maxRecDepth 1000000
theorem q_lay_11 : qLay 11 = true := by decide +kernel
theorem q_sty_15 : qStyM 15 = true := by decide +kernel
theorem q_sty_7 : qStyM 7 = true := by decide +kernel
theorem q_lst_17 : qLst 17 = true := by decide +kernel
theorem q_tree_16 : qTree 16 = true := by decide +kernel
theorem q_mean_9 : qMeanA 9 = true := by decide +kernel
theorem q_box_12 : qBox 12 = true := by decide +kernel
theorem q_tok_16 : qTok 16 = true := by decide +kernel
theorem q_tok_12 : qTok 12 = true := by decide +kernel
theorem q_all_13 : qAll 13 = true := by decide +kernel
theorem q_all_5 : qAll 5 = true := by decide +kernel
theorem q_all_1 : qAll 1 = true := by decide +kernel
theorem q_own_11 : qOwnA 11 = true := by decide +kernel
theorem q_own_2 : qOwnA 2 = true := by decide +kernel
end Go.Abs
