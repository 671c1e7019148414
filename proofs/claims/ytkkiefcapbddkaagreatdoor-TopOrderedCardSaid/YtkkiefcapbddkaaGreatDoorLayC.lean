/-
  the house stylesheet, read.
-/
import Derived.Test.YtkkiefcapbddkaaGreatDoorLayA
set_option linter.all false
namespace Go.Abs
open Go Go.Proofs
set_option maxRecDepth 1000000
theorem house_rules0 : pcB (enQ []) 40 46 [houseTok] houseR = true := by decide +kernel
end Go.Abs
