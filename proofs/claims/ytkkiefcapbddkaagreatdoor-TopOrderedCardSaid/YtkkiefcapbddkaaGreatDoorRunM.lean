/-
  runs of the program in the machine.
-/
import Derived.Test.YtkkiefcapbddkaaGreatDoorLayJ
set_option linter.all false
namespace Go.Abs
open Go Go.Proofs
set_option maxRecDepth 1000000
theorem q_sty_18 : qStyM 18 = true := by decide +kernel
theorem q_sty_16 : qStyM 16 = true := by decide +kernel
theorem q_mean_17 : qMeanA 17 = true := by decide +kernel
theorem q_tree_20 : qTree 20 = true := by decide +kernel
theorem q_box_20 : qBox 20 = true := by decide +kernel
theorem q_cssT : pcB (enQ []) 40 47 [runesN cssO] cssOT = true := by decide +kernel
theorem q_lst_9 : qLst 9 = true := by decide +kernel
theorem q_tok_15 : qTok 15 = true := by decide +kernel
theorem q_tok_13 : qTok 13 = true := by decide +kernel
theorem q_all_11 : qAll 11 = true := by decide +kernel
theorem q_box_3 : qBox 3 = true := by decide +kernel
theorem q_own_17 : qOwnA 17 = true := by decide +kernel
theorem q_mean_0 : qMeanA 0 = true := by decide +kernel
theorem q_own_3 : qOwnA 3 = true := by decide +kernel
end Go.Abs
