/-
  the house stylesheet, cut into tokens.
-/
import Derived.Test.YtkkiefcapbddkaaGreatDoorLayA
set_option linter.all false
namespace Go.Abs
open Go Go.Proofs
set_option maxRecDepth 1000000
theorem house_tok0 : pcB (enQ []) 40 47 [runesN houseN] houseTok = true := by decide +kernel
end Go.Abs
