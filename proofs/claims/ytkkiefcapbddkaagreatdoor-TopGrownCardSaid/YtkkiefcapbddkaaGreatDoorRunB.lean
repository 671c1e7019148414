/-
  runs of the program in the machine.
-/
import Derived.Test.YtkkiefcapbddkaaGreatDoorLayE
set_option linter.all false
namespace Go.Abs
open Go Go.Proofs
set_option maxRecDepth 1000000
theorem rSty_0 : rSty 0 = true := by decide +kernel
theorem rSty_1 : rSty 1 = true := by decide +kernel
theorem rSty_2 : rSty 2 = true := by decide +kernel
theorem rSty_3 : rSty 3 = true := by decide +kernel
theorem rSty_4 : rSty 4 = true := by decide +kernel
theorem rSty_5 : rSty 5 = true := by decide +kernel
theorem rSty_6 : rSty 6 = true := by decide +kernel
theorem rTree_0 : rTree 0 = true := by decide +kernel
theorem rTree_1 : rTree 1 = true := by decide +kernel
theorem rTree_2 : rTree 2 = true := by decide +kernel
theorem rTree_3 : rTree 3 = true := by decide +kernel
theorem rTree_4 : rTree 4 = true := by decide +kernel
theorem rTree_5 : rTree 5 = true := by decide +kernel
theorem rTree_6 : rTree 6 = true := by decide +kernel
theorem rTree_7 : rTree 7 = true := by decide +kernel
theorem rTree_8 : rTree 8 = true := by decide +kernel
theorem rTree_9 : rTree 9 = true := by decide +kernel
theorem rTree_10 : rTree 10 = true := by decide +kernel
theorem rTree_11 : rTree 11 = true := by decide +kernel
theorem rTree_12 : rTree 12 = true := by decide +kernel
end Go.Abs
