/- part of topCells.proved -/
import Derived.Test.YtkkiefcapbddkaaGreatDoorQe
set_option linter.all false
set_option maxRecDepth 1000000
set_option maxHeartbeats 0
noncomputable section
namespace Go.Abs
open Go Go.Proofs
def ul:ij (XM []) 40 46 [nW] eE=true:=by decide+kernel
