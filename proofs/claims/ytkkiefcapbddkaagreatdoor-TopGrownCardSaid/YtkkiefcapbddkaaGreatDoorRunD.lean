/-
  runs of the program in the machine.
-/
import Derived.Test.YtkkiefcapbddkaaGreatDoorLayE
set_option linter.all false
namespace Go.Abs
open Go Go.Proofs
set_option maxRecDepth 1000000
theorem rSty_10 : rSty 10 = true := by decide +kernel
theorem rSty_11 : rSty 11 = true := by decide +kernel
theorem rSty_12 : rSty 12 = true := by decide +kernel
end Go.Abs
