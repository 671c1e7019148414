/- part of topCells.proved -/
import Derived.Test.YtkkiefcapbddkaaGreatDoorQg
set_option linter.all false
set_option maxRecDepth 1000000
set_option maxHeartbeats 0
noncomputable section
namespace Go.Abs
open Go.RowKit Go.Proofs
def Ep:ij (gR []) 40 118 [.a (bh 0 0),.a (bh 1 0),.a (pP 4)] (.a (bh 4 0))=true:=by decide+kernel
def Ho:ij (gR []) 40 118 [.a (bh 0 0),.a (bh 1 0),.a (pP 5)] (.a (bh 5 0))=true:=by decide+kernel
def Er:ij (gR []) 40 118 [.a (bh 0 0),.a (bh 1 0),.a (pP 6)] (.a (bh 6 0))=true:=by decide+kernel
def Es:ij (gR []) 40 118 [.a (bh 6 0),.a (bh 1 0),.a (vBg)] (.a (bh 6 4278190335))=true:=by decide+kernel
def Hp:ij (gR []) 40 118 [.a (bh 0 0),.a (bh 4 0),.a (pP 4)] (.a (bh 4 0))=true:=by decide+kernel
def Kr:ij (gR []) 40 118 [.a (bh 0 0),.a (bh 4 0),.a (pP 5)] (.a (bh 5 0))=true:=by decide+kernel
def Hq:ij (gR []) 40 118 [.a (bh 0 0),.a (bh 4 0),.a (pP 6)] (.a (bh 6 0))=true:=by decide+kernel
def Hr:ij (gR []) 40 118 [.a (bh 6 0),.a (bh 4 0),.a (vBg)] (.a (bh 6 4278190335))=true:=by decide+kernel
def Ks:ij (gR []) 40 118 [.a (bh 0 0),.a (bh 5 0),.a (pP 4)] (.a (bh 4 0))=true:=by decide+kernel
def OE:ij (gR []) 40 118 [.a (bh 0 0),.a (bh 5 0),.a (pP 5)] (.a (bh 5 0))=true:=by decide+kernel
def Kt:ij (gR []) 40 118 [.a (bh 0 0),.a (bh 5 0),.a (pP 6)] (.a (bh 6 0))=true:=by decide+kernel
def Ku:ij (gR []) 40 118 [.a (bh 6 0),.a (bh 5 0),.a (vBg)] (.a (bh 6 4278190335))=true:=by decide+kernel
def Kv:ij (gR []) 40 118 [.a (bh 0 0),.a (bh 6 4278190335),.a (pP 4)] (.a (bh 4 0))=true:=by decide+kernel
def OF:ij (gR []) 40 118 [.a (bh 0 0),.a (bh 6 4278190335),.a (pP 5)] (.a (bh 5 0))=true:=by decide+kernel
def Kw:ij (gR []) 40 118 [.a (bh 0 0),.a (bh 6 4278190335),.a (pP 6)] (.a (bh 6 0))=true:=by decide+kernel
def Ky:ij (gR []) 40 118 [.a (bh 6 0),.a (bh 6 4278190335),.a (vBg)] (.a (bh 6 4278190335))=true:=by decide+kernel
def OG:ij (gR (Hl Hm)) 40 117 [tV,nV,.d qG] (.d (.l 6 [Hn 1]))=true:=by decide+kernel
def RN:ij (gR (Hl Vs)) 40 117 [tV,nV,.d qG] (.d (.l 6 [Hn 4]))=true:=by decide+kernel
def Vt:ij (gR (Hl nTr)) 40 117 [tV,nV,.d qG] (.d (.l 6 [Hn 5]))=true:=by decide+kernel
def Vu:ij (gR (Hl nTd)) 40 117 [tV,nV,.d qG] (.d (.l 6 [Hn 6,mBg]))=true:=by decide+kernel
def RP:ij (gR []) 40 116 [] (.a (bh 0 0))=true:=by decide+kernel
def Kz:ij (gR []) 40 115 [.a Bo,.d (.b true)] (.a (bh 0 0))=true:=by decide+kernel
def RQ:ij (gR []) 40 115 [.a (bh 1 0),.d (.b false)] (.a (bh 0 0))=true:=by decide+kernel
def RR:ij (gR []) 40 115 [.a (bh 4 0),.d (.b false)] (.a (bh 0 0))=true:=by decide+kernel
def RS:ij (gR []) 40 115 [.a (bh 5 0),.d (.b false)] (.a (bh 0 0))=true:=by decide+kernel
def RT:ij (gR []) 40 115 [.a (bh 6 4278190335),.d (.b false)] (.a (bh 0 0))=true:=by decide+kernel
def YR:ij (gR []) 40 118 [.a (bh 0 0),.a (bh 0 0),.a (pP 1)] (.a (bh 1 0))=true:=by decide+kernel
def Vv:ij (gR []) 40 114 [.d (mE eE 0)] rd0=true:=by decide+kernel
def Vw:ij (gR []) 40 114 [.d (mE eE 1)] rd1=true:=by decide+kernel
def Vx:ij (gR []) 40 114 [.d (mE eE 2)] rd2=true:=by decide+kernel
def Vy:ij (gR []) 40 114 [.d (mE eE 3)] rd3=true:=by decide+kernel
def Vz:ij (gR []) 40 114 [.d (mE eE 4)] rd4=true:=by decide+kernel
def VA:ij (gR []) 40 114 [.d (mE eE 5)] rd5=true:=by decide+kernel
def VB:ij (gR []) 40 114 [.d (mE eE 6)] rd6=true:=by decide+kernel
def VC:ij (gR []) 40 114 [.d (mE eE 7)] rd7=true:=by decide+kernel
def VD:ij (gR []) 40 114 [.d (mE eE 8)] rd8=true:=by decide+kernel
def VE:ij (gR []) 40 114 [.d (mE Cb 0)] rax=true:=by decide+kernel
def OH:ij (XM []) 40 47 [zj Hj] MN=true:=by decide+kernel
def OI:ij (XM []) 40 46 [MN] Cb=true:=by decide+kernel
