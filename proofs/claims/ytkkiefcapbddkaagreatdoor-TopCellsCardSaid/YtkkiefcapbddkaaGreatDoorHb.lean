/- part of topCells.proved -/
import Derived.Test.YtkkiefcapbddkaaGreatDoorQe
set_option linter.all false
set_option maxRecDepth 1000000
set_option maxHeartbeats 0
noncomputable section
namespace Go.Abs
open Go Go.Proofs
def zl:ij (XM []) 40 47 [zj jh] nW=true:=by decide+kernel
