/-
  runs of the program in the machine.
-/
import Derived.Test.YtkkiefcapbddkaaGreatDoorLayE
set_option linter.all false
namespace Go.Abs
open Go Go.Proofs
set_option maxRecDepth 1000000
theorem rAll_0 : rAll 0 = true := by decide +kernel
theorem rAll_1 : rAll 1 = true := by decide +kernel
theorem rAll_2 : rAll 2 = true := by decide +kernel
theorem rAll_3 : rAll 3 = true := by decide +kernel
theorem rAll_4 : rAll 4 = true := by decide +kernel
theorem rAll_5 : rAll 5 = true := by decide +kernel
theorem rAll_6 : rAll 6 = true := by decide +kernel
theorem rAll_7 : rAll 7 = true := by decide +kernel
theorem rAll_8 : rAll 8 = true := by decide +kernel
theorem rAll_9 : rAll 9 = true := by decide +kernel
theorem rAll_10 : rAll 10 = true := by decide +kernel
theorem rAll_11 : rAll 11 = true := by decide +kernel
theorem rAll_12 : rAll 12 = true := by decide +kernel
end Go.Abs
