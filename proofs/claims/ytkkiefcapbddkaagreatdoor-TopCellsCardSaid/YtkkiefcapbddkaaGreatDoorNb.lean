/- part of topCells.proved -/
import Derived.Test.YtkkiefcapbddkaaGreatDoorCa
set_option linter.all false
set_option maxRecDepth 1000000
set_option maxHeartbeats 0
noncomputable section
namespace Go.Abs
open Go Go.Proofs
def Zg:BD (gR []) 40 55 (ol 1 .np) (xC 1)=true:=by decide+kernel
def Zh:BD (gR []) 40 55 (ol 2 .np) (xC 2)=true:=by decide+kernel
def Zi:BD (gR []) 40 55 (ol 3 .np) (xC 3)=true:=by decide+kernel
def Zj:BD (gR []) 40 55 (ol 4 .np) (xC 4)=true:=by decide+kernel
def Zp:BD (gR []) 40 55 (ol 1 hq) (xD 1)=true:=by decide+kernel
def Zq:BD (gR []) 40 55 (ol 2 hq) (xD 2)=true:=by decide+kernel
def Zr:BD (gR []) 40 55 (ol 3 hq) (xD 3)=true:=by decide+kernel
def Zs:BD (gR []) 40 55 (ol 4 hq) (xD 4)=true:=by decide+kernel
def Zt:BD (gR []) 40 55 (ol 5 hq) (xD 5)=true:=by decide+kernel
def Zu:BD (gR []) 40 55 (ol 6 hq) (xD 6)=true:=by decide+kernel
def Zv:BD (gR []) 40 55 (ol 7 hq) (xD 7)=true:=by decide+kernel
def Zw:BD (gR []) 40 55 (ol 8 hq) (xD 8)=true:=by decide+kernel
def Zx:BD (gR []) 40 55 (ol 9 hq) (xD 9)=true:=by decide+kernel
