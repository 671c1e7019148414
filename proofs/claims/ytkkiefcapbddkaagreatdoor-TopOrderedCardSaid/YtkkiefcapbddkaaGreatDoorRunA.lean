/-
  runs of the program in the machine.
-/
import Derived.Test.YtkkiefcapbddkaaGreatDoorLayJ
set_option linter.all false
namespace Go.Abs
open Go Go.Proofs
set_option maxRecDepth 1000000
theorem q_lay_20 : qLay 20 = true := by decide +kernel
theorem q_mean_19 : qMeanA 19 = true := by decide +kernel
theorem q_lst_18 : qLst 18 = true := by decide +kernel
theorem q_lay_3 : qLay 3 = true := by decide +kernel
theorem q_mean_10 : qMeanA 10 = true := by decide +kernel
theorem q_box_13 : qBox 13 = true := by decide +kernel
theorem q_tok_19 : qTok 19 = true := by decide +kernel
theorem q_tok_14 : qTok 14 = true := by decide +kernel
theorem q_all_17 : qAll 17 = true := by decide +kernel
theorem q_all_10 : qAll 10 = true := by decide +kernel
theorem q_mean_1 : qMeanA 1 = true := by decide +kernel
theorem q_own_19 : qOwnA 19 = true := by decide +kernel
theorem q_lst_0 : qLst 0 = true := by decide +kernel
end Go.Abs
