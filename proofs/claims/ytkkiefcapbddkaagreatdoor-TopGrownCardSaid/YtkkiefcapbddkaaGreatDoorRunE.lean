/-
  runs of the program in the machine.
-/
import Derived.Test.YtkkiefcapbddkaaGreatDoorLayE
set_option linter.all false
namespace Go.Abs
open Go Go.Proofs
set_option maxRecDepth 1000000
theorem rBox_0 : rBox 0 = true := by decide +kernel
theorem rBox_1 : rBox 1 = true := by decide +kernel
theorem rBox_2 : rBox 2 = true := by decide +kernel
theorem rBox_3 : rBox 3 = true := by decide +kernel
theorem rBox_4 : rBox 4 = true := by decide +kernel
theorem rBox_5 : rBox 5 = true := by decide +kernel
theorem rBox_6 : rBox 6 = true := by decide +kernel
theorem rBox_7 : rBox 7 = true := by decide +kernel
theorem rBox_8 : rBox 8 = true := by decide +kernel
theorem rBox_9 : rBox 9 = true := by decide +kernel
theorem rBox_10 : rBox 10 = true := by decide +kernel
theorem rBox_11 : rBox 11 = true := by decide +kernel
theorem rBox_12 : rBox 12 = true := by decide +kernel
theorem rLst_0 : rLst 0 = true := by decide +kernel
theorem rLst_1 : rLst 1 = true := by decide +kernel
theorem rLst_2 : rLst 2 = true := by decide +kernel
theorem rLst_3 : rLst 3 = true := by decide +kernel
theorem rLst_4 : rLst 4 = true := by decide +kernel
theorem rLst_5 : rLst 5 = true := by decide +kernel
theorem rLst_6 : rLst 6 = true := by decide +kernel
theorem rLst_7 : rLst 7 = true := by decide +kernel
theorem rLst_8 : rLst 8 = true := by decide +kernel
theorem rLst_9 : rLst 9 = true := by decide +kernel
theorem rLst_10 : rLst 10 = true := by decide +kernel
theorem rLst_11 : rLst 11 = true := by decide +kernel
theorem rLst_12 : rLst 12 = true := by decide +kernel
end Go.Abs
