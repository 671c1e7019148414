/-
  runs of the program in the machine.
-/
import Derived.Test.YtkkiefcapbddkaaGreatDoorLayE
set_option linter.all false
namespace Go.Abs
open Go Go.Proofs
set_option maxRecDepth 1000000
theorem rSty_7 : rSty 7 = true := by decide +kernel
theorem rSty_8 : rSty 8 = true := by decide +kernel
theorem rSty_9 : rSty 9 = true := by decide +kernel
end Go.Abs
