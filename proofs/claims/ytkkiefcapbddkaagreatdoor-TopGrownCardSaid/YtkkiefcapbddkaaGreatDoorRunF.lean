/-
  runs of the program in the machine.
-/
import Derived.Test.YtkkiefcapbddkaaGreatDoorLayE
set_option linter.all false
namespace Go.Abs
open Go Go.Proofs
set_option maxRecDepth 1000000
theorem rLay_0 : rLay 0 = true := by decide +kernel
theorem rLay_1 : rLay 1 = true := by decide +kernel
theorem rLay_2 : rLay 2 = true := by decide +kernel
theorem rLay_3 : rLay 3 = true := by decide +kernel
theorem rLay_4 : rLay 4 = true := by decide +kernel
theorem rLay_5 : rLay 5 = true := by decide +kernel
theorem rLay_6 : rLay 6 = true := by decide +kernel
theorem rLay_7 : rLay 7 = true := by decide +kernel
theorem rLay_8 : rLay 8 = true := by decide +kernel
end Go.Abs
