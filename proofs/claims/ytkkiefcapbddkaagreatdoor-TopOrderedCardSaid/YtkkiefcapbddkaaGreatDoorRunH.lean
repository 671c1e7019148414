/-
  runs of the program in the machine.
-/
import Derived.Test.YtkkiefcapbddkaaGreatDoorLayJ
set_option linter.all false
namespace Go.Abs
open Go Go.Proofs
set_option maxRecDepth 1000000
theorem q_lay_13 : qLay 13 = true := by decide +kernel
theorem q_sty_12 : qStyM 12 = true := by decide +kernel
theorem q_lst_20 : qLst 20 = true := by decide +kernel
theorem q_lay_4 : qLay 4 = true := by decide +kernel
theorem q_box_19 : qBox 19 = true := by decide +kernel
theorem q_tree_13 : qTree 13 = true := by decide +kernel
theorem q_box_11 : qBox 11 = true := by decide +kernel
theorem q_tok_17 : qTok 17 = true := by decide +kernel
theorem q_box_5 : qBox 5 = true := by decide +kernel
theorem q_tok_10 : qTok 10 = true := by decide +kernel
theorem q_lst_2 : qLst 2 = true := by decide +kernel
theorem q_tok_3 : qTok 3 = true := by decide +kernel
theorem q_tok_2 : qTok 2 = true := by decide +kernel
end Go.Abs
