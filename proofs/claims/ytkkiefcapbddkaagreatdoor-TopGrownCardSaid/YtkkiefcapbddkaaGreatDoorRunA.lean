/-
  runs of the program in the machine.
-/
import Derived.Test.YtkkiefcapbddkaaGreatDoorLayE
set_option linter.all false
namespace Go.Abs
open Go Go.Proofs
set_option maxRecDepth 1000000
theorem rTok_0 : rTok 0 = true := by decide +kernel
theorem rTok_1 : rTok 1 = true := by decide +kernel
theorem rTok_2 : rTok 2 = true := by decide +kernel
theorem rTok_3 : rTok 3 = true := by decide +kernel
theorem rTok_4 : rTok 4 = true := by decide +kernel
theorem rTok_5 : rTok 5 = true := by decide +kernel
theorem rTok_6 : rTok 6 = true := by decide +kernel
theorem rTok_7 : rTok 7 = true := by decide +kernel
theorem rTok_8 : rTok 8 = true := by decide +kernel
theorem rTok_9 : rTok 9 = true := by decide +kernel
theorem rTok_10 : rTok 10 = true := by decide +kernel
theorem rTok_11 : rTok 11 = true := by decide +kernel
theorem rTok_12 : rTok 12 = true := by decide +kernel
theorem rCssT : pcB (enQ []) 40 47 [runesB cssB] cssTok = true := by decide +kernel
theorem rCssR : pcB (enQ []) 40 46 [cssTok] cssR = true := by decide +kernel
end Go.Abs
