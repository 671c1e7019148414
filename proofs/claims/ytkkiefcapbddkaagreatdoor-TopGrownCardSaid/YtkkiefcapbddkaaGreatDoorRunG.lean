/-
  runs of the program in the machine.
-/
import Derived.Test.YtkkiefcapbddkaaGreatDoorLayE
set_option linter.all false
namespace Go.Abs
open Go Go.Proofs
set_option maxRecDepth 1000000
theorem rLay_9 : rLay 9 = true := by decide +kernel
theorem rLay_10 : rLay 10 = true := by decide +kernel
theorem rLay_11 : rLay 11 = true := by decide +kernel
theorem rLay_12 : rLay 12 = true := by decide +kernel
end Go.Abs
