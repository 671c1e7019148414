/- part of topCells.proved -/
import Derived.Test.YtkkiefcapbddkaaGreatDoorCa
set_option linter.all false
set_option maxRecDepth 1000000
set_option maxHeartbeats 0
noncomputable section
namespace Go.Abs
open Go Go.Proofs
def Wx:ij (gR []) 40 320 [pW,.a (kZ 1)] (sJ 1)=true:=by decide+kernel
def Wy:ij (gR []) 40 320 [pW,.a (kZ 2)] (sJ 2)=true:=by decide+kernel
def Wz:ij (gR []) 40 320 [pW,.a (kZ 3)] (sJ 3)=true:=by decide+kernel
def WA:ij (gR []) 40 320 [pW,.a (kZ 4)] (sJ 4)=true:=by decide+kernel
def WB:ij (gR []) 40 320 [pW,.a (kZ 5)] (sJ 5)=true:=by decide+kernel
def WC:ij (gR []) 40 320 [pW,.a (kZ 6)] (sJ 6)=true:=by decide+kernel
def WD:ij (gR []) 40 320 [pW,.a (kZ 7)] (sJ 7)=true:=by decide+kernel
def WE:ij (gR []) 40 320 [pW,.a (kZ 8)] (sJ 8)=true:=by decide+kernel
def WI:ij (gR []) 40 320 [pW,.a (kZ 9)] (sJ 9)=true:=by decide+kernel
def Zk:BD (gR []) 40 55 (ol 5 .np) (xC 5)=true:=by decide+kernel
def Zl:BD (gR []) 40 55 (ol 6 .np) (xC 6)=true:=by decide+kernel
def Zm:BD (gR []) 40 55 (ol 7 .np) (xC 7)=true:=by decide+kernel
def Zn:BD (gR []) 40 55 (ol 8 .np) (xC 8)=true:=by decide+kernel
def Zo:BD (gR []) 40 55 (ol 9 .np) (xC 9)=true:=by decide+kernel
