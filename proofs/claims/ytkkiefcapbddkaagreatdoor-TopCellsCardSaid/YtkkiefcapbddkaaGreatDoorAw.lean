/- part of topCells.proved -/
import Derived.Test.YtkkiefcapbddkaaGreatDoorQg
set_option linter.all false
set_option maxRecDepth 1000000
set_option maxHeartbeats 0
noncomputable section
namespace Go.Abs
open Go Go.Proofs
def Xp:V:=.a [iN 6400,iN 6400,.z]
def awH:List Nat:=[60,112,62,97]
def awC:List Nat:=[112,32,123,32,99,111,108,111,114,58,32,114,101,100,32,125]
def NA:List D:=[iN 3,iN 2,iN 0,iN 1024,iN 512,iN 1280,.i .u32 4278190335,.s [.c 97],iN 1024,.b false,iN 0,iN 0,iN 0,iN 0]
def Z2:ij (gR []) 40 9 [tf awH,tf awC,Xp] (.tu [.d (.l 14 [NA]),.d (iN 0)])=true:=by decide+kernel
def TX[de](a:de.G=gS):PC tp 9 [tf awH,tf awC,Xp] (.tu [.d (.l 14 [NA]),.d (iN 0)]):=(jy bH a Z2).2
