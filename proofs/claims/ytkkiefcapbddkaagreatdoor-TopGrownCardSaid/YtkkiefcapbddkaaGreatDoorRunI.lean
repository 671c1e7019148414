/-
  runs of the program in the machine.
-/
import Derived.Test.YtkkiefcapbddkaaGreatDoorLayE
set_option linter.all false
namespace Go.Abs
open Go Go.Proofs
set_option maxRecDepth 1000000
def awH : List Nat := [60, 112, 62, 97]
def awC : List Nat := [112, 32, 123, 32, 99, 111, 108, 111, 114, 58, 32, 114, 101, 100, 32, 125]
def awRow : List D := [iN 3, iN 2, iN 0, iN 1024, iN 512, iN 1280, .i .u32 4278190335, .s [.c 97], iN 1024, .b false, iN 0, iN 0, iN 0, iN 0]
theorem rAwake : pcB (enH []) 40 9 [bytesN awH, bytesN awC, envV] (.tu [.d (.l 14 [awRow]), .d (iN 0)]) = true := by decide +kernel
end Go.Abs
