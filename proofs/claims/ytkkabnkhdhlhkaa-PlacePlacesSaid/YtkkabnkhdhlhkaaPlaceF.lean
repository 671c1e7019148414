/-
  The walks of casementlaw20.small, kind and tame.
-/
import Derived.Test.YtkkabnkhdhlhkaaPlaceE
import Derived.Test.YtkkabnkhdhlhkaaOpenStyle
namespace Go.Proofs.Ytkkabnkhdhlhkaa
open Go.RowKit Num Mem Opn
set_option linter.unusedVariables false
set_option linter.unusedSimpArgs false
namespace Num
/-- a number brought into 2^24, its sign kept. -/
def few (n : Int) : Int := if n < 0 then -((-(n + 1)) % 16777216) else n % 16777216
theorem few_lo (n : Int) : -16777215 ≤ few n := by unfold few; split <;> omega
theorem few_hi (n : Int) : few n ≤ 16777215 := by unfold few; split <;> omega
def knd (n : Int) : Int := if n < 0 then 0 else if 2 < n then 0 else n
theorem knd_lo (n : Int) : 0 ≤ knd n := by unfold knd; split <;> (try split) <;> omega
theorem knd_hi (n : Int) : knd n ≤ 2 := by unfold knd; split <;> (try split) <;> omega
def Sty.t0 (s : Sty) : Sty := ⟨s.d0, s.d1, s.d2, s.d3, s.wk, s.wn, s.hk, s.hn, s.m0k, s.m0n, s.m1k, s.m1n, s.m2k, s.m2n, s.m3k, s.m3n, s.p0k, s.p0n, s.p1k, s.p1n, s.p2k, s.p2n, s.p3k, s.p3n, s.o0k, s.o0n, s.o1k, s.o1n, s.o2k, s.o2n, s.o3k, s.o3n, s.b0, s.b1, s.b2, s.b3, s.e0, s.e1, s.e2, s.e3, s.e4, s.e5, s.e6, s.e7, s.e8, s.e9, s.e10, s.e11, s.e12, s.e13, s.e14, s.e15⟩
def Sty.t1 (s : Sty) : Sty := ⟨s.d0, s.d1, s.d2, s.d3, knd s.wk, s.wn, s.hk, s.hn, s.m0k, s.m0n, s.m1k, s.m1n, s.m2k, s.m2n, s.m3k, s.m3n, s.p0k, s.p0n, s.p1k, s.p1n, s.p2k, s.p2n, s.p3k, s.p3n, s.o0k, s.o0n, s.o1k, s.o1n, s.o2k, s.o2n, s.o3k, s.o3n, s.b0, s.b1, s.b2, s.b3, s.e0, s.e1, s.e2, s.e3, s.e4, s.e5, s.e6, s.e7, s.e8, s.e9, s.e10, s.e11, s.e12, s.e13, s.e14, s.e15⟩
def Sty.t2 (s : Sty) : Sty := ⟨s.d0, s.d1, s.d2, s.d3, knd s.wk, s.wn, knd s.hk, s.hn, s.m0k, s.m0n, s.m1k, s.m1n, s.m2k, s.m2n, s.m3k, s.m3n, s.p0k, s.p0n, s.p1k, s.p1n, s.p2k, s.p2n, s.p3k, s.p3n, s.o0k, s.o0n, s.o1k, s.o1n, s.o2k, s.o2n, s.o3k, s.o3n, s.b0, s.b1, s.b2, s.b3, s.e0, s.e1, s.e2, s.e3, s.e4, s.e5, s.e6, s.e7, s.e8, s.e9, s.e10, s.e11, s.e12, s.e13, s.e14, s.e15⟩
def Sty.t3 (s : Sty) : Sty := ⟨s.d0, s.d1, s.d2, s.d3, knd s.wk, s.wn, knd s.hk, s.hn, knd s.m0k, s.m0n, s.m1k, s.m1n, s.m2k, s.m2n, s.m3k, s.m3n, s.p0k, s.p0n, s.p1k, s.p1n, s.p2k, s.p2n, s.p3k, s.p3n, s.o0k, s.o0n, s.o1k, s.o1n, s.o2k, s.o2n, s.o3k, s.o3n, s.b0, s.b1, s.b2, s.b3, s.e0, s.e1, s.e2, s.e3, s.e4, s.e5, s.e6, s.e7, s.e8, s.e9, s.e10, s.e11, s.e12, s.e13, s.e14, s.e15⟩
def Sty.t4 (s : Sty) : Sty := ⟨s.d0, s.d1, s.d2, s.d3, knd s.wk, s.wn, knd s.hk, s.hn, knd s.m0k, s.m0n, s.m1k, s.m1n, s.m2k, s.m2n, s.m3k, s.m3n, knd s.p0k, s.p0n, s.p1k, s.p1n, s.p2k, s.p2n, s.p3k, s.p3n, s.o0k, s.o0n, s.o1k, s.o1n, s.o2k, s.o2n, s.o3k, s.o3n, s.b0, s.b1, s.b2, s.b3, s.e0, s.e1, s.e2, s.e3, s.e4, s.e5, s.e6, s.e7, s.e8, s.e9, s.e10, s.e11, s.e12, s.e13, s.e14, s.e15⟩
def Sty.t5 (s : Sty) : Sty := ⟨s.d0, s.d1, s.d2, s.d3, knd s.wk, s.wn, knd s.hk, s.hn, knd s.m0k, s.m0n, s.m1k, s.m1n, s.m2k, s.m2n, s.m3k, s.m3n, knd s.p0k, s.p0n, s.p1k, s.p1n, s.p2k, s.p2n, s.p3k, s.p3n, knd s.o0k, s.o0n, s.o1k, s.o1n, s.o2k, s.o2n, s.o3k, s.o3n, s.b0, s.b1, s.b2, s.b3, s.e0, s.e1, s.e2, s.e3, s.e4, s.e5, s.e6, s.e7, s.e8, s.e9, s.e10, s.e11, s.e12, s.e13, s.e14, s.e15⟩
def Sty.t6 (s : Sty) : Sty := ⟨s.d0, s.d1, s.d2, s.d3, knd s.wk, s.wn, knd s.hk, s.hn, knd s.m0k, few s.m0n, s.m1k, s.m1n, s.m2k, s.m2n, s.m3k, s.m3n, knd s.p0k, s.p0n, s.p1k, s.p1n, s.p2k, s.p2n, s.p3k, s.p3n, knd s.o0k, s.o0n, s.o1k, s.o1n, s.o2k, s.o2n, s.o3k, s.o3n, s.b0, s.b1, s.b2, s.b3, s.e0, s.e1, s.e2, s.e3, s.e4, s.e5, s.e6, s.e7, s.e8, s.e9, s.e10, s.e11, s.e12, s.e13, s.e14, s.e15⟩
def Sty.t7 (s : Sty) : Sty := ⟨s.d0, s.d1, s.d2, s.d3, knd s.wk, s.wn, knd s.hk, s.hn, knd s.m0k, few s.m0n, s.m1k, s.m1n, s.m2k, s.m2n, s.m3k, s.m3n, knd s.p0k, few s.p0n, s.p1k, s.p1n, s.p2k, s.p2n, s.p3k, s.p3n, knd s.o0k, s.o0n, s.o1k, s.o1n, s.o2k, s.o2n, s.o3k, s.o3n, s.b0, s.b1, s.b2, s.b3, s.e0, s.e1, s.e2, s.e3, s.e4, s.e5, s.e6, s.e7, s.e8, s.e9, s.e10, s.e11, s.e12, s.e13, s.e14, s.e15⟩
def Sty.t8 (s : Sty) : Sty := ⟨s.d0, s.d1, s.d2, s.d3, knd s.wk, s.wn, knd s.hk, s.hn, knd s.m0k, few s.m0n, s.m1k, s.m1n, s.m2k, s.m2n, s.m3k, s.m3n, knd s.p0k, few s.p0n, s.p1k, s.p1n, s.p2k, s.p2n, s.p3k, s.p3n, knd s.o0k, few s.o0n, s.o1k, s.o1n, s.o2k, s.o2n, s.o3k, s.o3n, s.b0, s.b1, s.b2, s.b3, s.e0, s.e1, s.e2, s.e3, s.e4, s.e5, s.e6, s.e7, s.e8, s.e9, s.e10, s.e11, s.e12, s.e13, s.e14, s.e15⟩
def Sty.t9 (s : Sty) : Sty := ⟨s.d0, s.d1, s.d2, s.d3, knd s.wk, s.wn, knd s.hk, s.hn, knd s.m0k, few s.m0n, s.m1k, s.m1n, s.m2k, s.m2n, s.m3k, s.m3n, knd s.p0k, few s.p0n, s.p1k, s.p1n, s.p2k, s.p2n, s.p3k, s.p3n, knd s.o0k, few s.o0n, s.o1k, s.o1n, s.o2k, s.o2n, s.o3k, s.o3n, few s.b0, s.b1, s.b2, s.b3, s.e0, s.e1, s.e2, s.e3, s.e4, s.e5, s.e6, s.e7, s.e8, s.e9, s.e10, s.e11, s.e12, s.e13, s.e14, s.e15⟩
def Sty.t10 (s : Sty) : Sty := ⟨s.d0, s.d1, s.d2, s.d3, knd s.wk, s.wn, knd s.hk, s.hn, knd s.m0k, few s.m0n, knd s.m1k, s.m1n, s.m2k, s.m2n, s.m3k, s.m3n, knd s.p0k, few s.p0n, s.p1k, s.p1n, s.p2k, s.p2n, s.p3k, s.p3n, knd s.o0k, few s.o0n, s.o1k, s.o1n, s.o2k, s.o2n, s.o3k, s.o3n, few s.b0, s.b1, s.b2, s.b3, s.e0, s.e1, s.e2, s.e3, s.e4, s.e5, s.e6, s.e7, s.e8, s.e9, s.e10, s.e11, s.e12, s.e13, s.e14, s.e15⟩
def Sty.t11 (s : Sty) : Sty := ⟨s.d0, s.d1, s.d2, s.d3, knd s.wk, s.wn, knd s.hk, s.hn, knd s.m0k, few s.m0n, knd s.m1k, s.m1n, s.m2k, s.m2n, s.m3k, s.m3n, knd s.p0k, few s.p0n, knd s.p1k, s.p1n, s.p2k, s.p2n, s.p3k, s.p3n, knd s.o0k, few s.o0n, s.o1k, s.o1n, s.o2k, s.o2n, s.o3k, s.o3n, few s.b0, s.b1, s.b2, s.b3, s.e0, s.e1, s.e2, s.e3, s.e4, s.e5, s.e6, s.e7, s.e8, s.e9, s.e10, s.e11, s.e12, s.e13, s.e14, s.e15⟩
def Sty.t12 (s : Sty) : Sty := ⟨s.d0, s.d1, s.d2, s.d3, knd s.wk, s.wn, knd s.hk, s.hn, knd s.m0k, few s.m0n, knd s.m1k, s.m1n, s.m2k, s.m2n, s.m3k, s.m3n, knd s.p0k, few s.p0n, knd s.p1k, s.p1n, s.p2k, s.p2n, s.p3k, s.p3n, knd s.o0k, few s.o0n, knd s.o1k, s.o1n, s.o2k, s.o2n, s.o3k, s.o3n, few s.b0, s.b1, s.b2, s.b3, s.e0, s.e1, s.e2, s.e3, s.e4, s.e5, s.e6, s.e7, s.e8, s.e9, s.e10, s.e11, s.e12, s.e13, s.e14, s.e15⟩
def Sty.t13 (s : Sty) : Sty := ⟨s.d0, s.d1, s.d2, s.d3, knd s.wk, s.wn, knd s.hk, s.hn, knd s.m0k, few s.m0n, knd s.m1k, few s.m1n, s.m2k, s.m2n, s.m3k, s.m3n, knd s.p0k, few s.p0n, knd s.p1k, s.p1n, s.p2k, s.p2n, s.p3k, s.p3n, knd s.o0k, few s.o0n, knd s.o1k, s.o1n, s.o2k, s.o2n, s.o3k, s.o3n, few s.b0, s.b1, s.b2, s.b3, s.e0, s.e1, s.e2, s.e3, s.e4, s.e5, s.e6, s.e7, s.e8, s.e9, s.e10, s.e11, s.e12, s.e13, s.e14, s.e15⟩
def Sty.t14 (s : Sty) : Sty := ⟨s.d0, s.d1, s.d2, s.d3, knd s.wk, s.wn, knd s.hk, s.hn, knd s.m0k, few s.m0n, knd s.m1k, few s.m1n, s.m2k, s.m2n, s.m3k, s.m3n, knd s.p0k, few s.p0n, knd s.p1k, few s.p1n, s.p2k, s.p2n, s.p3k, s.p3n, knd s.o0k, few s.o0n, knd s.o1k, s.o1n, s.o2k, s.o2n, s.o3k, s.o3n, few s.b0, s.b1, s.b2, s.b3, s.e0, s.e1, s.e2, s.e3, s.e4, s.e5, s.e6, s.e7, s.e8, s.e9, s.e10, s.e11, s.e12, s.e13, s.e14, s.e15⟩
def Sty.t15 (s : Sty) : Sty := ⟨s.d0, s.d1, s.d2, s.d3, knd s.wk, s.wn, knd s.hk, s.hn, knd s.m0k, few s.m0n, knd s.m1k, few s.m1n, s.m2k, s.m2n, s.m3k, s.m3n, knd s.p0k, few s.p0n, knd s.p1k, few s.p1n, s.p2k, s.p2n, s.p3k, s.p3n, knd s.o0k, few s.o0n, knd s.o1k, few s.o1n, s.o2k, s.o2n, s.o3k, s.o3n, few s.b0, s.b1, s.b2, s.b3, s.e0, s.e1, s.e2, s.e3, s.e4, s.e5, s.e6, s.e7, s.e8, s.e9, s.e10, s.e11, s.e12, s.e13, s.e14, s.e15⟩
def Sty.t16 (s : Sty) : Sty := ⟨s.d0, s.d1, s.d2, s.d3, knd s.wk, s.wn, knd s.hk, s.hn, knd s.m0k, few s.m0n, knd s.m1k, few s.m1n, s.m2k, s.m2n, s.m3k, s.m3n, knd s.p0k, few s.p0n, knd s.p1k, few s.p1n, s.p2k, s.p2n, s.p3k, s.p3n, knd s.o0k, few s.o0n, knd s.o1k, few s.o1n, s.o2k, s.o2n, s.o3k, s.o3n, few s.b0, few s.b1, s.b2, s.b3, s.e0, s.e1, s.e2, s.e3, s.e4, s.e5, s.e6, s.e7, s.e8, s.e9, s.e10, s.e11, s.e12, s.e13, s.e14, s.e15⟩
def Sty.t17 (s : Sty) : Sty := ⟨s.d0, s.d1, s.d2, s.d3, knd s.wk, s.wn, knd s.hk, s.hn, knd s.m0k, few s.m0n, knd s.m1k, few s.m1n, knd s.m2k, s.m2n, s.m3k, s.m3n, knd s.p0k, few s.p0n, knd s.p1k, few s.p1n, s.p2k, s.p2n, s.p3k, s.p3n, knd s.o0k, few s.o0n, knd s.o1k, few s.o1n, s.o2k, s.o2n, s.o3k, s.o3n, few s.b0, few s.b1, s.b2, s.b3, s.e0, s.e1, s.e2, s.e3, s.e4, s.e5, s.e6, s.e7, s.e8, s.e9, s.e10, s.e11, s.e12, s.e13, s.e14, s.e15⟩
def Sty.t18 (s : Sty) : Sty := ⟨s.d0, s.d1, s.d2, s.d3, knd s.wk, s.wn, knd s.hk, s.hn, knd s.m0k, few s.m0n, knd s.m1k, few s.m1n, knd s.m2k, s.m2n, s.m3k, s.m3n, knd s.p0k, few s.p0n, knd s.p1k, few s.p1n, knd s.p2k, s.p2n, s.p3k, s.p3n, knd s.o0k, few s.o0n, knd s.o1k, few s.o1n, s.o2k, s.o2n, s.o3k, s.o3n, few s.b0, few s.b1, s.b2, s.b3, s.e0, s.e1, s.e2, s.e3, s.e4, s.e5, s.e6, s.e7, s.e8, s.e9, s.e10, s.e11, s.e12, s.e13, s.e14, s.e15⟩
def Sty.t19 (s : Sty) : Sty := ⟨s.d0, s.d1, s.d2, s.d3, knd s.wk, s.wn, knd s.hk, s.hn, knd s.m0k, few s.m0n, knd s.m1k, few s.m1n, knd s.m2k, s.m2n, s.m3k, s.m3n, knd s.p0k, few s.p0n, knd s.p1k, few s.p1n, knd s.p2k, s.p2n, s.p3k, s.p3n, knd s.o0k, few s.o0n, knd s.o1k, few s.o1n, knd s.o2k, s.o2n, s.o3k, s.o3n, few s.b0, few s.b1, s.b2, s.b3, s.e0, s.e1, s.e2, s.e3, s.e4, s.e5, s.e6, s.e7, s.e8, s.e9, s.e10, s.e11, s.e12, s.e13, s.e14, s.e15⟩
def Sty.t20 (s : Sty) : Sty := ⟨s.d0, s.d1, s.d2, s.d3, knd s.wk, s.wn, knd s.hk, s.hn, knd s.m0k, few s.m0n, knd s.m1k, few s.m1n, knd s.m2k, few s.m2n, s.m3k, s.m3n, knd s.p0k, few s.p0n, knd s.p1k, few s.p1n, knd s.p2k, s.p2n, s.p3k, s.p3n, knd s.o0k, few s.o0n, knd s.o1k, few s.o1n, knd s.o2k, s.o2n, s.o3k, s.o3n, few s.b0, few s.b1, s.b2, s.b3, s.e0, s.e1, s.e2, s.e3, s.e4, s.e5, s.e6, s.e7, s.e8, s.e9, s.e10, s.e11, s.e12, s.e13, s.e14, s.e15⟩
def Sty.t21 (s : Sty) : Sty := ⟨s.d0, s.d1, s.d2, s.d3, knd s.wk, s.wn, knd s.hk, s.hn, knd s.m0k, few s.m0n, knd s.m1k, few s.m1n, knd s.m2k, few s.m2n, s.m3k, s.m3n, knd s.p0k, few s.p0n, knd s.p1k, few s.p1n, knd s.p2k, few s.p2n, s.p3k, s.p3n, knd s.o0k, few s.o0n, knd s.o1k, few s.o1n, knd s.o2k, s.o2n, s.o3k, s.o3n, few s.b0, few s.b1, s.b2, s.b3, s.e0, s.e1, s.e2, s.e3, s.e4, s.e5, s.e6, s.e7, s.e8, s.e9, s.e10, s.e11, s.e12, s.e13, s.e14, s.e15⟩
def Sty.t22 (s : Sty) : Sty := ⟨s.d0, s.d1, s.d2, s.d3, knd s.wk, s.wn, knd s.hk, s.hn, knd s.m0k, few s.m0n, knd s.m1k, few s.m1n, knd s.m2k, few s.m2n, s.m3k, s.m3n, knd s.p0k, few s.p0n, knd s.p1k, few s.p1n, knd s.p2k, few s.p2n, s.p3k, s.p3n, knd s.o0k, few s.o0n, knd s.o1k, few s.o1n, knd s.o2k, few s.o2n, s.o3k, s.o3n, few s.b0, few s.b1, s.b2, s.b3, s.e0, s.e1, s.e2, s.e3, s.e4, s.e5, s.e6, s.e7, s.e8, s.e9, s.e10, s.e11, s.e12, s.e13, s.e14, s.e15⟩
def Sty.t23 (s : Sty) : Sty := ⟨s.d0, s.d1, s.d2, s.d3, knd s.wk, s.wn, knd s.hk, s.hn, knd s.m0k, few s.m0n, knd s.m1k, few s.m1n, knd s.m2k, few s.m2n, s.m3k, s.m3n, knd s.p0k, few s.p0n, knd s.p1k, few s.p1n, knd s.p2k, few s.p2n, s.p3k, s.p3n, knd s.o0k, few s.o0n, knd s.o1k, few s.o1n, knd s.o2k, few s.o2n, s.o3k, s.o3n, few s.b0, few s.b1, few s.b2, s.b3, s.e0, s.e1, s.e2, s.e3, s.e4, s.e5, s.e6, s.e7, s.e8, s.e9, s.e10, s.e11, s.e12, s.e13, s.e14, s.e15⟩
def Sty.t24 (s : Sty) : Sty := ⟨s.d0, s.d1, s.d2, s.d3, knd s.wk, s.wn, knd s.hk, s.hn, knd s.m0k, few s.m0n, knd s.m1k, few s.m1n, knd s.m2k, few s.m2n, knd s.m3k, s.m3n, knd s.p0k, few s.p0n, knd s.p1k, few s.p1n, knd s.p2k, few s.p2n, s.p3k, s.p3n, knd s.o0k, few s.o0n, knd s.o1k, few s.o1n, knd s.o2k, few s.o2n, s.o3k, s.o3n, few s.b0, few s.b1, few s.b2, s.b3, s.e0, s.e1, s.e2, s.e3, s.e4, s.e5, s.e6, s.e7, s.e8, s.e9, s.e10, s.e11, s.e12, s.e13, s.e14, s.e15⟩
def Sty.t25 (s : Sty) : Sty := ⟨s.d0, s.d1, s.d2, s.d3, knd s.wk, s.wn, knd s.hk, s.hn, knd s.m0k, few s.m0n, knd s.m1k, few s.m1n, knd s.m2k, few s.m2n, knd s.m3k, s.m3n, knd s.p0k, few s.p0n, knd s.p1k, few s.p1n, knd s.p2k, few s.p2n, knd s.p3k, s.p3n, knd s.o0k, few s.o0n, knd s.o1k, few s.o1n, knd s.o2k, few s.o2n, s.o3k, s.o3n, few s.b0, few s.b1, few s.b2, s.b3, s.e0, s.e1, s.e2, s.e3, s.e4, s.e5, s.e6, s.e7, s.e8, s.e9, s.e10, s.e11, s.e12, s.e13, s.e14, s.e15⟩
def Sty.t26 (s : Sty) : Sty := ⟨s.d0, s.d1, s.d2, s.d3, knd s.wk, s.wn, knd s.hk, s.hn, knd s.m0k, few s.m0n, knd s.m1k, few s.m1n, knd s.m2k, few s.m2n, knd s.m3k, s.m3n, knd s.p0k, few s.p0n, knd s.p1k, few s.p1n, knd s.p2k, few s.p2n, knd s.p3k, s.p3n, knd s.o0k, few s.o0n, knd s.o1k, few s.o1n, knd s.o2k, few s.o2n, knd s.o3k, s.o3n, few s.b0, few s.b1, few s.b2, s.b3, s.e0, s.e1, s.e2, s.e3, s.e4, s.e5, s.e6, s.e7, s.e8, s.e9, s.e10, s.e11, s.e12, s.e13, s.e14, s.e15⟩
def Sty.t27 (s : Sty) : Sty := ⟨s.d0, s.d1, s.d2, s.d3, knd s.wk, s.wn, knd s.hk, s.hn, knd s.m0k, few s.m0n, knd s.m1k, few s.m1n, knd s.m2k, few s.m2n, knd s.m3k, few s.m3n, knd s.p0k, few s.p0n, knd s.p1k, few s.p1n, knd s.p2k, few s.p2n, knd s.p3k, s.p3n, knd s.o0k, few s.o0n, knd s.o1k, few s.o1n, knd s.o2k, few s.o2n, knd s.o3k, s.o3n, few s.b0, few s.b1, few s.b2, s.b3, s.e0, s.e1, s.e2, s.e3, s.e4, s.e5, s.e6, s.e7, s.e8, s.e9, s.e10, s.e11, s.e12, s.e13, s.e14, s.e15⟩
def Sty.t28 (s : Sty) : Sty := ⟨s.d0, s.d1, s.d2, s.d3, knd s.wk, s.wn, knd s.hk, s.hn, knd s.m0k, few s.m0n, knd s.m1k, few s.m1n, knd s.m2k, few s.m2n, knd s.m3k, few s.m3n, knd s.p0k, few s.p0n, knd s.p1k, few s.p1n, knd s.p2k, few s.p2n, knd s.p3k, few s.p3n, knd s.o0k, few s.o0n, knd s.o1k, few s.o1n, knd s.o2k, few s.o2n, knd s.o3k, s.o3n, few s.b0, few s.b1, few s.b2, s.b3, s.e0, s.e1, s.e2, s.e3, s.e4, s.e5, s.e6, s.e7, s.e8, s.e9, s.e10, s.e11, s.e12, s.e13, s.e14, s.e15⟩
def Sty.t29 (s : Sty) : Sty := ⟨s.d0, s.d1, s.d2, s.d3, knd s.wk, s.wn, knd s.hk, s.hn, knd s.m0k, few s.m0n, knd s.m1k, few s.m1n, knd s.m2k, few s.m2n, knd s.m3k, few s.m3n, knd s.p0k, few s.p0n, knd s.p1k, few s.p1n, knd s.p2k, few s.p2n, knd s.p3k, few s.p3n, knd s.o0k, few s.o0n, knd s.o1k, few s.o1n, knd s.o2k, few s.o2n, knd s.o3k, few s.o3n, few s.b0, few s.b1, few s.b2, s.b3, s.e0, s.e1, s.e2, s.e3, s.e4, s.e5, s.e6, s.e7, s.e8, s.e9, s.e10, s.e11, s.e12, s.e13, s.e14, s.e15⟩
def Sty.t30 (s : Sty) : Sty := ⟨s.d0, s.d1, s.d2, s.d3, knd s.wk, s.wn, knd s.hk, s.hn, knd s.m0k, few s.m0n, knd s.m1k, few s.m1n, knd s.m2k, few s.m2n, knd s.m3k, few s.m3n, knd s.p0k, few s.p0n, knd s.p1k, few s.p1n, knd s.p2k, few s.p2n, knd s.p3k, few s.p3n, knd s.o0k, few s.o0n, knd s.o1k, few s.o1n, knd s.o2k, few s.o2n, knd s.o3k, few s.o3n, few s.b0, few s.b1, few s.b2, few s.b3, s.e0, s.e1, s.e2, s.e3, s.e4, s.e5, s.e6, s.e7, s.e8, s.e9, s.e10, s.e11, s.e12, s.e13, s.e14, s.e15⟩
def Sty.t31 (s : Sty) : Sty := ⟨s.d0, s.d1, s.d2, s.d3, knd s.wk, few s.wn, knd s.hk, s.hn, knd s.m0k, few s.m0n, knd s.m1k, few s.m1n, knd s.m2k, few s.m2n, knd s.m3k, few s.m3n, knd s.p0k, few s.p0n, knd s.p1k, few s.p1n, knd s.p2k, few s.p2n, knd s.p3k, few s.p3n, knd s.o0k, few s.o0n, knd s.o1k, few s.o1n, knd s.o2k, few s.o2n, knd s.o3k, few s.o3n, few s.b0, few s.b1, few s.b2, few s.b3, s.e0, s.e1, s.e2, s.e3, s.e4, s.e5, s.e6, s.e7, s.e8, s.e9, s.e10, s.e11, s.e12, s.e13, s.e14, s.e15⟩
def Sty.t32 (s : Sty) : Sty := ⟨s.d0, s.d1, s.d2, s.d3, knd s.wk, few s.wn, knd s.hk, few s.hn, knd s.m0k, few s.m0n, knd s.m1k, few s.m1n, knd s.m2k, few s.m2n, knd s.m3k, few s.m3n, knd s.p0k, few s.p0n, knd s.p1k, few s.p1n, knd s.p2k, few s.p2n, knd s.p3k, few s.p3n, knd s.o0k, few s.o0n, knd s.o1k, few s.o1n, knd s.o2k, few s.o2n, knd s.o3k, few s.o3n, few s.b0, few s.b1, few s.b2, few s.b3, s.e0, s.e1, s.e2, s.e3, s.e4, s.e5, s.e6, s.e7, s.e8, s.e9, s.e10, s.e11, s.e12, s.e13, s.e14, s.e15⟩
def Sty.tk (s : Sty) : Nat → Sty
  | 0 => s.t2
  | 1 => s.t9
  | 2 => s.t16
  | 3 => s.t23
  | _ => s.t30
end Num
theorem few_pos (n : Int) (w : World) (h : 0 ≤ n) (h2 : n ≤ 9223372036854775807) : Calls Try.prog 22 #[.int .i64 n] w fun e w' => e = .returned (.int .i64 (n % 16777216)) ∧ w = w' := by
  go_enter Try.func22, Try.ntmps22
  go_wp2_with fail
  go_ret
  exact ⟨rfl, rfl⟩
theorem few_any (n : Int) (w : World) (h : I64 n) : Calls Try.prog 22 #[.int .i64 n] w fun e w' => e = .returned (.int .i64 (few n)) ∧ w = w' := by
  obtain ⟨h1, h2⟩ := h
  rcases Int.lt_or_le n 0 with h3 | h3
  · have HF : Hid (few n = -((-(n + 1)) % 16777216)) := by show _ = _; unfold few; rw [if_pos h3]
    have h4 : 0 ≤ -(n + 1) := by omega
    have h5 : -(n + 1) ≤ 9223372036854775807 := by omega
    have h6 := Int.emod_nonneg (-(n + 1)) (by omega : (16777216 : Int) ≠ 0)
    have h7 := Int.emod_lt_of_pos (-(n + 1)) (by omega : (0 : Int) < 16777216)
    go_enter Try.func22, Try.ntmps22
    go_wp2_with fail
    refine (few_pos _ _ (by omega) (by omega)).mono ?_
    rintro e w' ⟨rfl, rfl⟩
    go_wp2_with fail
    go_ret
    exact ⟨ret_int (by rw [HF.out]), rfl⟩
  · have HF : Hid (few n = n % 16777216) := by show _ = _; unfold few; rw [if_neg (by omega)]
    refine (few_pos n w h3 h2).mono ?_
    rintro e w' ⟨rfl, rfl⟩
    exact ⟨ret_int (by rw [HF.out]), rfl⟩
theorem law20_kind (n : Int) (w : World) : Calls Try.prog 41 #[.int .i64 n] w fun e w' => e = .returned (.int .i64 (knd n)) ∧ w = w' := by
  rcases Int.lt_or_le n 0 with h | h
  · have HF : Hid (knd n = 0) := by show _ = _; unfold knd; rw [if_pos h]
    go_enter Try.func41, Try.ntmps41
    go_wp2_with fail
    go_ret
    exact ⟨ret_int (by rw [HF.out]), rfl⟩
  · rcases Int.lt_or_le 2 n with h2 | h2
    · have HF : Hid (knd n = 0) := by show _ = _; unfold knd; rw [if_neg (by omega), if_pos h2]
      go_enter Try.func41, Try.ntmps41
      go_wp2_with fail
      go_ret
      exact ⟨ret_int (by rw [HF.out]), rfl⟩
    · have HF : Hid (knd n = n) := by show _ = _; unfold knd; rw [if_neg (by omega), if_neg (by omega)]
      go_enter Try.func41, Try.ntmps41
      go_wp2_with fail
      go_ret
      exact ⟨ret_int (by rw [HF.out]), rfl⟩
theorem style_t1 {W : World} {g : Nat} {t : TypeId} {s : Sty} (h : Blk W g t s.t0.arr) : Blk (W.setCell ⟨g, 4, none⟩ (.int .i64 (knd s.wk))) g t s.t1.arr := h.put 4 _
theorem style_t2 {W : World} {g : Nat} {t : TypeId} {s : Sty} (h : Blk W g t s.t1.arr) : Blk (W.setCell ⟨g, 6, none⟩ (.int .i64 (knd s.hk))) g t s.t2.arr := h.put 6 _
theorem style_t3 {W : World} {g : Nat} {t : TypeId} {s : Sty} (h : Blk W g t s.t2.arr) : Blk (W.setCell ⟨g, 8, none⟩ (.int .i64 (knd s.m0k))) g t s.t3.arr := h.put 8 _
theorem style_t4 {W : World} {g : Nat} {t : TypeId} {s : Sty} (h : Blk W g t s.t3.arr) : Blk (W.setCell ⟨g, 16, none⟩ (.int .i64 (knd s.p0k))) g t s.t4.arr := h.put 16 _
theorem style_t5 {W : World} {g : Nat} {t : TypeId} {s : Sty} (h : Blk W g t s.t4.arr) : Blk (W.setCell ⟨g, 24, none⟩ (.int .i64 (knd s.o0k))) g t s.t5.arr := h.put 24 _
theorem style_t6 {W : World} {g : Nat} {t : TypeId} {s : Sty} (h : Blk W g t s.t5.arr) : Blk (W.setCell ⟨g, 9, none⟩ (.int .i64 (few s.m0n))) g t s.t6.arr := h.put 9 _
theorem style_t7 {W : World} {g : Nat} {t : TypeId} {s : Sty} (h : Blk W g t s.t6.arr) : Blk (W.setCell ⟨g, 17, none⟩ (.int .i64 (few s.p0n))) g t s.t7.arr := h.put 17 _
theorem style_t8 {W : World} {g : Nat} {t : TypeId} {s : Sty} (h : Blk W g t s.t7.arr) : Blk (W.setCell ⟨g, 25, none⟩ (.int .i64 (few s.o0n))) g t s.t8.arr := h.put 25 _
theorem style_t9 {W : World} {g : Nat} {t : TypeId} {s : Sty} (h : Blk W g t s.t8.arr) : Blk (W.setCell ⟨g, 32, none⟩ (.int .i64 (few s.b0))) g t s.t9.arr := h.put 32 _
theorem style_t10 {W : World} {g : Nat} {t : TypeId} {s : Sty} (h : Blk W g t s.t9.arr) : Blk (W.setCell ⟨g, 10, none⟩ (.int .i64 (knd s.m1k))) g t s.t10.arr := h.put 10 _
theorem style_t11 {W : World} {g : Nat} {t : TypeId} {s : Sty} (h : Blk W g t s.t10.arr) : Blk (W.setCell ⟨g, 18, none⟩ (.int .i64 (knd s.p1k))) g t s.t11.arr := h.put 18 _
theorem style_t12 {W : World} {g : Nat} {t : TypeId} {s : Sty} (h : Blk W g t s.t11.arr) : Blk (W.setCell ⟨g, 26, none⟩ (.int .i64 (knd s.o1k))) g t s.t12.arr := h.put 26 _
theorem style_t13 {W : World} {g : Nat} {t : TypeId} {s : Sty} (h : Blk W g t s.t12.arr) : Blk (W.setCell ⟨g, 11, none⟩ (.int .i64 (few s.m1n))) g t s.t13.arr := h.put 11 _
theorem style_t14 {W : World} {g : Nat} {t : TypeId} {s : Sty} (h : Blk W g t s.t13.arr) : Blk (W.setCell ⟨g, 19, none⟩ (.int .i64 (few s.p1n))) g t s.t14.arr := h.put 19 _
theorem style_t15 {W : World} {g : Nat} {t : TypeId} {s : Sty} (h : Blk W g t s.t14.arr) : Blk (W.setCell ⟨g, 27, none⟩ (.int .i64 (few s.o1n))) g t s.t15.arr := h.put 27 _
theorem style_t16 {W : World} {g : Nat} {t : TypeId} {s : Sty} (h : Blk W g t s.t15.arr) : Blk (W.setCell ⟨g, 33, none⟩ (.int .i64 (few s.b1))) g t s.t16.arr := h.put 33 _
theorem style_t17 {W : World} {g : Nat} {t : TypeId} {s : Sty} (h : Blk W g t s.t16.arr) : Blk (W.setCell ⟨g, 12, none⟩ (.int .i64 (knd s.m2k))) g t s.t17.arr := h.put 12 _
theorem style_t18 {W : World} {g : Nat} {t : TypeId} {s : Sty} (h : Blk W g t s.t17.arr) : Blk (W.setCell ⟨g, 20, none⟩ (.int .i64 (knd s.p2k))) g t s.t18.arr := h.put 20 _
theorem style_t19 {W : World} {g : Nat} {t : TypeId} {s : Sty} (h : Blk W g t s.t18.arr) : Blk (W.setCell ⟨g, 28, none⟩ (.int .i64 (knd s.o2k))) g t s.t19.arr := h.put 28 _
theorem style_t20 {W : World} {g : Nat} {t : TypeId} {s : Sty} (h : Blk W g t s.t19.arr) : Blk (W.setCell ⟨g, 13, none⟩ (.int .i64 (few s.m2n))) g t s.t20.arr := h.put 13 _
theorem style_t21 {W : World} {g : Nat} {t : TypeId} {s : Sty} (h : Blk W g t s.t20.arr) : Blk (W.setCell ⟨g, 21, none⟩ (.int .i64 (few s.p2n))) g t s.t21.arr := h.put 21 _
theorem style_t22 {W : World} {g : Nat} {t : TypeId} {s : Sty} (h : Blk W g t s.t21.arr) : Blk (W.setCell ⟨g, 29, none⟩ (.int .i64 (few s.o2n))) g t s.t22.arr := h.put 29 _
theorem style_t23 {W : World} {g : Nat} {t : TypeId} {s : Sty} (h : Blk W g t s.t22.arr) : Blk (W.setCell ⟨g, 34, none⟩ (.int .i64 (few s.b2))) g t s.t23.arr := h.put 34 _
theorem style_t24 {W : World} {g : Nat} {t : TypeId} {s : Sty} (h : Blk W g t s.t23.arr) : Blk (W.setCell ⟨g, 14, none⟩ (.int .i64 (knd s.m3k))) g t s.t24.arr := h.put 14 _
theorem style_t25 {W : World} {g : Nat} {t : TypeId} {s : Sty} (h : Blk W g t s.t24.arr) : Blk (W.setCell ⟨g, 22, none⟩ (.int .i64 (knd s.p3k))) g t s.t25.arr := h.put 22 _
theorem style_t26 {W : World} {g : Nat} {t : TypeId} {s : Sty} (h : Blk W g t s.t25.arr) : Blk (W.setCell ⟨g, 30, none⟩ (.int .i64 (knd s.o3k))) g t s.t26.arr := h.put 30 _
theorem style_t27 {W : World} {g : Nat} {t : TypeId} {s : Sty} (h : Blk W g t s.t26.arr) : Blk (W.setCell ⟨g, 15, none⟩ (.int .i64 (few s.m3n))) g t s.t27.arr := h.put 15 _
theorem style_t28 {W : World} {g : Nat} {t : TypeId} {s : Sty} (h : Blk W g t s.t27.arr) : Blk (W.setCell ⟨g, 23, none⟩ (.int .i64 (few s.p3n))) g t s.t28.arr := h.put 23 _
theorem style_t29 {W : World} {g : Nat} {t : TypeId} {s : Sty} (h : Blk W g t s.t28.arr) : Blk (W.setCell ⟨g, 31, none⟩ (.int .i64 (few s.o3n))) g t s.t29.arr := h.put 31 _
theorem style_t30 {W : World} {g : Nat} {t : TypeId} {s : Sty} (h : Blk W g t s.t29.arr) : Blk (W.setCell ⟨g, 35, none⟩ (.int .i64 (few s.b3))) g t s.t30.arr := h.put 35 _
theorem style_t31 {W : World} {g : Nat} {t : TypeId} {s : Sty} (h : Blk W g t s.t30.arr) : Blk (W.setCell ⟨g, 5, none⟩ (.int .i64 (few s.wn))) g t s.t31.arr := h.put 5 _
theorem style_t32 {W : World} {g : Nat} {t : TypeId} {s : Sty} (h : Blk W g t s.t31.arr) : Blk (W.setCell ⟨g, 7, none⟩ (.int .i64 (few s.hn))) g t s.t32.arr := h.put 7 _
theorem one_tame {s : Sty} (h : s.arr.all (·.oneCell') = true) : s.t32.arr.all (·.oneCell') = true := by
  simp [Sty.arr, Value.oneCell'] at h
  simp [Sty.arr, Sty.t32, Value.oneCell', h]
set_option maxRecDepth 100000 in
set_option maxHeartbeats 4000000 in
theorem law20_tame (s : Sty) (ok : s.Ok) (w : World) : Calls Try.prog 21 #[.agg s.arr] w fun e w' => e = .returned (.agg s.t32.arr) ∧ Below w.heap.size w w' := by
  obtain ⟨ok⟩ : Nonempty (Hid s.Ok) := ⟨ok⟩
  have hS : Blk ((w.alloc (.cells s.arr 28)).alloc (.cells Sty.zero.arr 28)) w.heap.size 28 s.t0.arr := (Blk.new w 28 s.arr).alloc _
  have hR : Blk ((w.alloc (.cells s.arr 28)).alloc (.cells Sty.zero.arr 28)) (w.heap.size + 1) 28 Sty.zero.arr := Blk.newAt _ _ _ (by simp)
  have hg : Below w.heap.size w ((w.alloc (.cells s.arr 28)).alloc (.cells Sty.zero.arr 28)) := by go_grown
  go_enter Try.func21, Try.ntmps21
  go_upto_region 1 with (first | (first | refine stop_load 28 _ rfl rfl ?_ | refine stop_store 28 _ _ rfl rfl ?_))
  refine wp_forget (fun W => Below w.heap.size w W ∧ Blk W w.heap.size 28 s.t0.arr ∧ Blk W (w.heap.size + 1) 28 Sty.zero.arr) ⟨hg, hS, hR⟩ ?_
  clear hg hS hR
  rintro v0 ⟨hg, hS, hR⟩
  have c : v0.cell? ⟨w.heap.size, 4, none⟩ = some (.int .i64 s.wk) := hS.cell 4
  have f : v0.frozen? ⟨w.heap.size, 4, none⟩ = false := hS.free 4
  go_upto_region 2 with (first | (go_at_call 41; refine (law20_kind _ _).mono ?_; rintro e w' ⟨rfl, rfl⟩) | (go_at_call 22; refine (few_any _ _ (by assumption)).mono ?_; rintro e w' ⟨rfl, rfl⟩))
  refine wp_forget (fun W => Below w.heap.size w W ∧ Blk W w.heap.size 28 s.t1.arr ∧ Blk W (w.heap.size + 1) 28 Sty.zero.arr) ⟨hg.trans ((Chg.setCell v0 ⟨w.heap.size, 4, none⟩ _).below (Nat.le_refl _)), style_t1 hS, hR.far (by simp) _⟩ ?_
  clear hg hS hR c f
  rintro v1 ⟨hg, hS, hR⟩
  have c : v1.cell? ⟨w.heap.size, 6, none⟩ = some (.int .i64 s.hk) := hS.cell 6
  have f : v1.frozen? ⟨w.heap.size, 6, none⟩ = false := hS.free 6
  go_upto_region 3 with (first | (go_at_call 41; refine (law20_kind _ _).mono ?_; rintro e w' ⟨rfl, rfl⟩) | (go_at_call 22; refine (few_any _ _ (by assumption)).mono ?_; rintro e w' ⟨rfl, rfl⟩))
  refine wp_forget (fun W => Below w.heap.size w W ∧ Blk W w.heap.size 28 s.t2.arr ∧ Blk W (w.heap.size + 1) 28 Sty.zero.arr) ⟨hg.trans ((Chg.setCell v1 ⟨w.heap.size, 6, none⟩ _).below (Nat.le_refl _)), style_t2 hS, hR.far (by simp) _⟩ ?_
  clear hg hS hR c f
  rintro v2 ⟨hg, hS, hR⟩
  go_wp2_with (first | (first | refine stop_load 28 _ rfl rfl ?_ | refine stop_store 28 _ _ rfl rfl ?_))
  go_loopw [3] (fun i W => ∃ k : Nat, k ≤ 4 ∧ i = .int .i64 k ∧ Below w.heap.size w W ∧ Blk W w.heap.size 28 (s.tk k).arr ∧ Blk W (w.heap.size + 1) 28 Sty.zero.arr) (fun i _ => 4 - (intOf i).toNat)
  case atStart => exact ⟨0, by omega, rfl, hg, hS, hR⟩
  case round =>
    clear hg hS hR
    obtain ⟨k, hk, rfl, hg, hS, hR⟩ := hrel
    obtain rfl | rfl | rfl | rfl | rfl : k = 0 ∨ k = 1 ∨ k = 2 ∨ k = 3 ∨ k = 4 := by omega
    · replace hS : Blk wr w.heap.size 28 s.t2.arr := hS
      go_upto_region 6 with fail
      have c : wr.cell? ⟨w.heap.size, 8, none⟩ = some (.int .i64 s.m0k) := hS.cell 8
      have f : wr.frozen? ⟨w.heap.size, 8, none⟩ = false := hS.free 8
      go_upto_region 7 with (first | (go_at_call 41; refine (law20_kind _ _).mono ?_; rintro e w' ⟨rfl, rfl⟩) | (go_at_call 22; refine (few_any _ _ (by assumption)).mono ?_; rintro e w' ⟨rfl, rfl⟩))
      refine wp_forget (fun W => Below w.heap.size w W ∧ Blk W w.heap.size 28 s.t3.arr ∧ Blk W (w.heap.size + 1) 28 Sty.zero.arr) ⟨hg.trans ((Chg.setCell wr ⟨w.heap.size, 8, none⟩ _).below (Nat.le_refl _)), style_t3 hS, hR.far (by simp) _⟩ ?_
      clear hg hS hR c f
      rintro v3 ⟨hg, hS, hR⟩
      have c : v3.cell? ⟨w.heap.size, 16, none⟩ = some (.int .i64 s.p0k) := hS.cell 16
      have f : v3.frozen? ⟨w.heap.size, 16, none⟩ = false := hS.free 16
      go_upto_region 8 with (first | (go_at_call 41; refine (law20_kind _ _).mono ?_; rintro e w' ⟨rfl, rfl⟩) | (go_at_call 22; refine (few_any _ _ (by assumption)).mono ?_; rintro e w' ⟨rfl, rfl⟩))
      refine wp_forget (fun W => Below w.heap.size w W ∧ Blk W w.heap.size 28 s.t4.arr ∧ Blk W (w.heap.size + 1) 28 Sty.zero.arr) ⟨hg.trans ((Chg.setCell v3 ⟨w.heap.size, 16, none⟩ _).below (Nat.le_refl _)), style_t4 hS, hR.far (by simp) _⟩ ?_
      clear hg hS hR c f
      rintro v4 ⟨hg, hS, hR⟩
      have c : v4.cell? ⟨w.heap.size, 24, none⟩ = some (.int .i64 s.o0k) := hS.cell 24
      have f : v4.frozen? ⟨w.heap.size, 24, none⟩ = false := hS.free 24
      go_upto_region 9 with (first | (go_at_call 41; refine (law20_kind _ _).mono ?_; rintro e w' ⟨rfl, rfl⟩) | (go_at_call 22; refine (few_any _ _ (by assumption)).mono ?_; rintro e w' ⟨rfl, rfl⟩))
      refine wp_forget (fun W => Below w.heap.size w W ∧ Blk W w.heap.size 28 s.t5.arr ∧ Blk W (w.heap.size + 1) 28 Sty.zero.arr) ⟨hg.trans ((Chg.setCell v4 ⟨w.heap.size, 24, none⟩ _).below (Nat.le_refl _)), style_t5 hS, hR.far (by simp) _⟩ ?_
      clear hg hS hR c f
      rintro v5 ⟨hg, hS, hR⟩
      have c : v5.cell? ⟨w.heap.size, 9, none⟩ = some (.int .i64 s.m0n) := hS.cell 9
      have f : v5.frozen? ⟨w.heap.size, 9, none⟩ = false := hS.free 9
      have i : I64 s.m0n := (Hid.out ok).i64 _ (by simp [Sty.ints])
      go_upto_region 10 with (first | (go_at_call 41; refine (law20_kind _ _).mono ?_; rintro e w' ⟨rfl, rfl⟩) | (go_at_call 22; refine (few_any _ _ (by assumption)).mono ?_; rintro e w' ⟨rfl, rfl⟩))
      refine wp_forget (fun W => Below w.heap.size w W ∧ Blk W w.heap.size 28 s.t6.arr ∧ Blk W (w.heap.size + 1) 28 Sty.zero.arr) ⟨hg.trans ((Chg.setCell v5 ⟨w.heap.size, 9, none⟩ _).below (Nat.le_refl _)), style_t6 hS, hR.far (by simp) _⟩ ?_
      clear hg hS hR c f i
      rintro v6 ⟨hg, hS, hR⟩
      have c : v6.cell? ⟨w.heap.size, 17, none⟩ = some (.int .i64 s.p0n) := hS.cell 17
      have f : v6.frozen? ⟨w.heap.size, 17, none⟩ = false := hS.free 17
      have i : I64 s.p0n := (Hid.out ok).i64 _ (by simp [Sty.ints])
      go_upto_region 11 with (first | (go_at_call 41; refine (law20_kind _ _).mono ?_; rintro e w' ⟨rfl, rfl⟩) | (go_at_call 22; refine (few_any _ _ (by assumption)).mono ?_; rintro e w' ⟨rfl, rfl⟩))
      refine wp_forget (fun W => Below w.heap.size w W ∧ Blk W w.heap.size 28 s.t7.arr ∧ Blk W (w.heap.size + 1) 28 Sty.zero.arr) ⟨hg.trans ((Chg.setCell v6 ⟨w.heap.size, 17, none⟩ _).below (Nat.le_refl _)), style_t7 hS, hR.far (by simp) _⟩ ?_
      clear hg hS hR c f i
      rintro v7 ⟨hg, hS, hR⟩
      have c : v7.cell? ⟨w.heap.size, 25, none⟩ = some (.int .i64 s.o0n) := hS.cell 25
      have f : v7.frozen? ⟨w.heap.size, 25, none⟩ = false := hS.free 25
      have i : I64 s.o0n := (Hid.out ok).i64 _ (by simp [Sty.ints])
      go_upto_region 12 with (first | (go_at_call 41; refine (law20_kind _ _).mono ?_; rintro e w' ⟨rfl, rfl⟩) | (go_at_call 22; refine (few_any _ _ (by assumption)).mono ?_; rintro e w' ⟨rfl, rfl⟩))
      refine wp_forget (fun W => Below w.heap.size w W ∧ Blk W w.heap.size 28 s.t8.arr ∧ Blk W (w.heap.size + 1) 28 Sty.zero.arr) ⟨hg.trans ((Chg.setCell v7 ⟨w.heap.size, 25, none⟩ _).below (Nat.le_refl _)), style_t8 hS, hR.far (by simp) _⟩ ?_
      clear hg hS hR c f i
      rintro v8 ⟨hg, hS, hR⟩
      have c : v8.cell? ⟨w.heap.size, 32, none⟩ = some (.int .i64 s.b0) := hS.cell 32
      have f : v8.frozen? ⟨w.heap.size, 32, none⟩ = false := hS.free 32
      have i : I64 s.b0 := (Hid.out ok).i64 _ (by simp [Sty.ints])
      go_upto_region 5 with (first | (go_at_call 41; refine (law20_kind _ _).mono ?_; rintro e w' ⟨rfl, rfl⟩) | (go_at_call 22; refine (few_any _ _ (by assumption)).mono ?_; rintro e w' ⟨rfl, rfl⟩))
      refine wp_forget (fun W => Below w.heap.size w W ∧ Blk W w.heap.size 28 s.t9.arr ∧ Blk W (w.heap.size + 1) 28 Sty.zero.arr) ⟨hg.trans ((Chg.setCell v8 ⟨w.heap.size, 32, none⟩ _).below (Nat.le_refl _)), style_t9 hS, hR.far (by simp) _⟩ ?_
      clear hg hS hR c f i
      rintro v9 ⟨hg, hS, hR⟩
      go_wp2_with fail
      go_roundw
      case rel => exact ⟨1, by omega, rfl, hg, hS, hR⟩
      case measure => simp [intOf]
    · replace hS : Blk wr w.heap.size 28 s.t9.arr := hS
      go_upto_region 6 with fail
      have c : wr.cell? ⟨w.heap.size, 10, none⟩ = some (.int .i64 s.m1k) := hS.cell 10
      have f : wr.frozen? ⟨w.heap.size, 10, none⟩ = false := hS.free 10
      go_upto_region 7 with (first | (go_at_call 41; refine (law20_kind _ _).mono ?_; rintro e w' ⟨rfl, rfl⟩) | (go_at_call 22; refine (few_any _ _ (by assumption)).mono ?_; rintro e w' ⟨rfl, rfl⟩))
      refine wp_forget (fun W => Below w.heap.size w W ∧ Blk W w.heap.size 28 s.t10.arr ∧ Blk W (w.heap.size + 1) 28 Sty.zero.arr) ⟨hg.trans ((Chg.setCell wr ⟨w.heap.size, 10, none⟩ _).below (Nat.le_refl _)), style_t10 hS, hR.far (by simp) _⟩ ?_
      clear hg hS hR c f
      rintro v10 ⟨hg, hS, hR⟩
      have c : v10.cell? ⟨w.heap.size, 18, none⟩ = some (.int .i64 s.p1k) := hS.cell 18
      have f : v10.frozen? ⟨w.heap.size, 18, none⟩ = false := hS.free 18
      go_upto_region 8 with (first | (go_at_call 41; refine (law20_kind _ _).mono ?_; rintro e w' ⟨rfl, rfl⟩) | (go_at_call 22; refine (few_any _ _ (by assumption)).mono ?_; rintro e w' ⟨rfl, rfl⟩))
      refine wp_forget (fun W => Below w.heap.size w W ∧ Blk W w.heap.size 28 s.t11.arr ∧ Blk W (w.heap.size + 1) 28 Sty.zero.arr) ⟨hg.trans ((Chg.setCell v10 ⟨w.heap.size, 18, none⟩ _).below (Nat.le_refl _)), style_t11 hS, hR.far (by simp) _⟩ ?_
      clear hg hS hR c f
      rintro v11 ⟨hg, hS, hR⟩
      have c : v11.cell? ⟨w.heap.size, 26, none⟩ = some (.int .i64 s.o1k) := hS.cell 26
      have f : v11.frozen? ⟨w.heap.size, 26, none⟩ = false := hS.free 26
      go_upto_region 9 with (first | (go_at_call 41; refine (law20_kind _ _).mono ?_; rintro e w' ⟨rfl, rfl⟩) | (go_at_call 22; refine (few_any _ _ (by assumption)).mono ?_; rintro e w' ⟨rfl, rfl⟩))
      refine wp_forget (fun W => Below w.heap.size w W ∧ Blk W w.heap.size 28 s.t12.arr ∧ Blk W (w.heap.size + 1) 28 Sty.zero.arr) ⟨hg.trans ((Chg.setCell v11 ⟨w.heap.size, 26, none⟩ _).below (Nat.le_refl _)), style_t12 hS, hR.far (by simp) _⟩ ?_
      clear hg hS hR c f
      rintro v12 ⟨hg, hS, hR⟩
      have c : v12.cell? ⟨w.heap.size, 11, none⟩ = some (.int .i64 s.m1n) := hS.cell 11
      have f : v12.frozen? ⟨w.heap.size, 11, none⟩ = false := hS.free 11
      have i : I64 s.m1n := (Hid.out ok).i64 _ (by simp [Sty.ints])
      go_upto_region 10 with (first | (go_at_call 41; refine (law20_kind _ _).mono ?_; rintro e w' ⟨rfl, rfl⟩) | (go_at_call 22; refine (few_any _ _ (by assumption)).mono ?_; rintro e w' ⟨rfl, rfl⟩))
      refine wp_forget (fun W => Below w.heap.size w W ∧ Blk W w.heap.size 28 s.t13.arr ∧ Blk W (w.heap.size + 1) 28 Sty.zero.arr) ⟨hg.trans ((Chg.setCell v12 ⟨w.heap.size, 11, none⟩ _).below (Nat.le_refl _)), style_t13 hS, hR.far (by simp) _⟩ ?_
      clear hg hS hR c f i
      rintro v13 ⟨hg, hS, hR⟩
      have c : v13.cell? ⟨w.heap.size, 19, none⟩ = some (.int .i64 s.p1n) := hS.cell 19
      have f : v13.frozen? ⟨w.heap.size, 19, none⟩ = false := hS.free 19
      have i : I64 s.p1n := (Hid.out ok).i64 _ (by simp [Sty.ints])
      go_upto_region 11 with (first | (go_at_call 41; refine (law20_kind _ _).mono ?_; rintro e w' ⟨rfl, rfl⟩) | (go_at_call 22; refine (few_any _ _ (by assumption)).mono ?_; rintro e w' ⟨rfl, rfl⟩))
      refine wp_forget (fun W => Below w.heap.size w W ∧ Blk W w.heap.size 28 s.t14.arr ∧ Blk W (w.heap.size + 1) 28 Sty.zero.arr) ⟨hg.trans ((Chg.setCell v13 ⟨w.heap.size, 19, none⟩ _).below (Nat.le_refl _)), style_t14 hS, hR.far (by simp) _⟩ ?_
      clear hg hS hR c f i
      rintro v14 ⟨hg, hS, hR⟩
      have c : v14.cell? ⟨w.heap.size, 27, none⟩ = some (.int .i64 s.o1n) := hS.cell 27
      have f : v14.frozen? ⟨w.heap.size, 27, none⟩ = false := hS.free 27
      have i : I64 s.o1n := (Hid.out ok).i64 _ (by simp [Sty.ints])
      go_upto_region 12 with (first | (go_at_call 41; refine (law20_kind _ _).mono ?_; rintro e w' ⟨rfl, rfl⟩) | (go_at_call 22; refine (few_any _ _ (by assumption)).mono ?_; rintro e w' ⟨rfl, rfl⟩))
      refine wp_forget (fun W => Below w.heap.size w W ∧ Blk W w.heap.size 28 s.t15.arr ∧ Blk W (w.heap.size + 1) 28 Sty.zero.arr) ⟨hg.trans ((Chg.setCell v14 ⟨w.heap.size, 27, none⟩ _).below (Nat.le_refl _)), style_t15 hS, hR.far (by simp) _⟩ ?_
      clear hg hS hR c f i
      rintro v15 ⟨hg, hS, hR⟩
      have c : v15.cell? ⟨w.heap.size, 33, none⟩ = some (.int .i64 s.b1) := hS.cell 33
      have f : v15.frozen? ⟨w.heap.size, 33, none⟩ = false := hS.free 33
      have i : I64 s.b1 := (Hid.out ok).i64 _ (by simp [Sty.ints])
      go_upto_region 5 with (first | (go_at_call 41; refine (law20_kind _ _).mono ?_; rintro e w' ⟨rfl, rfl⟩) | (go_at_call 22; refine (few_any _ _ (by assumption)).mono ?_; rintro e w' ⟨rfl, rfl⟩))
      refine wp_forget (fun W => Below w.heap.size w W ∧ Blk W w.heap.size 28 s.t16.arr ∧ Blk W (w.heap.size + 1) 28 Sty.zero.arr) ⟨hg.trans ((Chg.setCell v15 ⟨w.heap.size, 33, none⟩ _).below (Nat.le_refl _)), style_t16 hS, hR.far (by simp) _⟩ ?_
      clear hg hS hR c f i
      rintro v16 ⟨hg, hS, hR⟩
      go_wp2_with fail
      go_roundw
      case rel => exact ⟨2, by omega, rfl, hg, hS, hR⟩
      case measure => simp [intOf]
    · replace hS : Blk wr w.heap.size 28 s.t16.arr := hS
      go_upto_region 6 with fail
      have c : wr.cell? ⟨w.heap.size, 12, none⟩ = some (.int .i64 s.m2k) := hS.cell 12
      have f : wr.frozen? ⟨w.heap.size, 12, none⟩ = false := hS.free 12
      go_upto_region 7 with (first | (go_at_call 41; refine (law20_kind _ _).mono ?_; rintro e w' ⟨rfl, rfl⟩) | (go_at_call 22; refine (few_any _ _ (by assumption)).mono ?_; rintro e w' ⟨rfl, rfl⟩))
      refine wp_forget (fun W => Below w.heap.size w W ∧ Blk W w.heap.size 28 s.t17.arr ∧ Blk W (w.heap.size + 1) 28 Sty.zero.arr) ⟨hg.trans ((Chg.setCell wr ⟨w.heap.size, 12, none⟩ _).below (Nat.le_refl _)), style_t17 hS, hR.far (by simp) _⟩ ?_
      clear hg hS hR c f
      rintro v17 ⟨hg, hS, hR⟩
      have c : v17.cell? ⟨w.heap.size, 20, none⟩ = some (.int .i64 s.p2k) := hS.cell 20
      have f : v17.frozen? ⟨w.heap.size, 20, none⟩ = false := hS.free 20
      go_upto_region 8 with (first | (go_at_call 41; refine (law20_kind _ _).mono ?_; rintro e w' ⟨rfl, rfl⟩) | (go_at_call 22; refine (few_any _ _ (by assumption)).mono ?_; rintro e w' ⟨rfl, rfl⟩))
      refine wp_forget (fun W => Below w.heap.size w W ∧ Blk W w.heap.size 28 s.t18.arr ∧ Blk W (w.heap.size + 1) 28 Sty.zero.arr) ⟨hg.trans ((Chg.setCell v17 ⟨w.heap.size, 20, none⟩ _).below (Nat.le_refl _)), style_t18 hS, hR.far (by simp) _⟩ ?_
      clear hg hS hR c f
      rintro v18 ⟨hg, hS, hR⟩
      have c : v18.cell? ⟨w.heap.size, 28, none⟩ = some (.int .i64 s.o2k) := hS.cell 28
      have f : v18.frozen? ⟨w.heap.size, 28, none⟩ = false := hS.free 28
      go_upto_region 9 with (first | (go_at_call 41; refine (law20_kind _ _).mono ?_; rintro e w' ⟨rfl, rfl⟩) | (go_at_call 22; refine (few_any _ _ (by assumption)).mono ?_; rintro e w' ⟨rfl, rfl⟩))
      refine wp_forget (fun W => Below w.heap.size w W ∧ Blk W w.heap.size 28 s.t19.arr ∧ Blk W (w.heap.size + 1) 28 Sty.zero.arr) ⟨hg.trans ((Chg.setCell v18 ⟨w.heap.size, 28, none⟩ _).below (Nat.le_refl _)), style_t19 hS, hR.far (by simp) _⟩ ?_
      clear hg hS hR c f
      rintro v19 ⟨hg, hS, hR⟩
      have c : v19.cell? ⟨w.heap.size, 13, none⟩ = some (.int .i64 s.m2n) := hS.cell 13
      have f : v19.frozen? ⟨w.heap.size, 13, none⟩ = false := hS.free 13
      have i : I64 s.m2n := (Hid.out ok).i64 _ (by simp [Sty.ints])
      go_upto_region 10 with (first | (go_at_call 41; refine (law20_kind _ _).mono ?_; rintro e w' ⟨rfl, rfl⟩) | (go_at_call 22; refine (few_any _ _ (by assumption)).mono ?_; rintro e w' ⟨rfl, rfl⟩))
      refine wp_forget (fun W => Below w.heap.size w W ∧ Blk W w.heap.size 28 s.t20.arr ∧ Blk W (w.heap.size + 1) 28 Sty.zero.arr) ⟨hg.trans ((Chg.setCell v19 ⟨w.heap.size, 13, none⟩ _).below (Nat.le_refl _)), style_t20 hS, hR.far (by simp) _⟩ ?_
      clear hg hS hR c f i
      rintro v20 ⟨hg, hS, hR⟩
      have c : v20.cell? ⟨w.heap.size, 21, none⟩ = some (.int .i64 s.p2n) := hS.cell 21
      have f : v20.frozen? ⟨w.heap.size, 21, none⟩ = false := hS.free 21
      have i : I64 s.p2n := (Hid.out ok).i64 _ (by simp [Sty.ints])
      go_upto_region 11 with (first | (go_at_call 41; refine (law20_kind _ _).mono ?_; rintro e w' ⟨rfl, rfl⟩) | (go_at_call 22; refine (few_any _ _ (by assumption)).mono ?_; rintro e w' ⟨rfl, rfl⟩))
      refine wp_forget (fun W => Below w.heap.size w W ∧ Blk W w.heap.size 28 s.t21.arr ∧ Blk W (w.heap.size + 1) 28 Sty.zero.arr) ⟨hg.trans ((Chg.setCell v20 ⟨w.heap.size, 21, none⟩ _).below (Nat.le_refl _)), style_t21 hS, hR.far (by simp) _⟩ ?_
      clear hg hS hR c f i
      rintro v21 ⟨hg, hS, hR⟩
      have c : v21.cell? ⟨w.heap.size, 29, none⟩ = some (.int .i64 s.o2n) := hS.cell 29
      have f : v21.frozen? ⟨w.heap.size, 29, none⟩ = false := hS.free 29
      have i : I64 s.o2n := (Hid.out ok).i64 _ (by simp [Sty.ints])
      go_upto_region 12 with (first | (go_at_call 41; refine (law20_kind _ _).mono ?_; rintro e w' ⟨rfl, rfl⟩) | (go_at_call 22; refine (few_any _ _ (by assumption)).mono ?_; rintro e w' ⟨rfl, rfl⟩))
      refine wp_forget (fun W => Below w.heap.size w W ∧ Blk W w.heap.size 28 s.t22.arr ∧ Blk W (w.heap.size + 1) 28 Sty.zero.arr) ⟨hg.trans ((Chg.setCell v21 ⟨w.heap.size, 29, none⟩ _).below (Nat.le_refl _)), style_t22 hS, hR.far (by simp) _⟩ ?_
      clear hg hS hR c f i
      rintro v22 ⟨hg, hS, hR⟩
      have c : v22.cell? ⟨w.heap.size, 34, none⟩ = some (.int .i64 s.b2) := hS.cell 34
      have f : v22.frozen? ⟨w.heap.size, 34, none⟩ = false := hS.free 34
      have i : I64 s.b2 := (Hid.out ok).i64 _ (by simp [Sty.ints])
      go_upto_region 5 with (first | (go_at_call 41; refine (law20_kind _ _).mono ?_; rintro e w' ⟨rfl, rfl⟩) | (go_at_call 22; refine (few_any _ _ (by assumption)).mono ?_; rintro e w' ⟨rfl, rfl⟩))
      refine wp_forget (fun W => Below w.heap.size w W ∧ Blk W w.heap.size 28 s.t23.arr ∧ Blk W (w.heap.size + 1) 28 Sty.zero.arr) ⟨hg.trans ((Chg.setCell v22 ⟨w.heap.size, 34, none⟩ _).below (Nat.le_refl _)), style_t23 hS, hR.far (by simp) _⟩ ?_
      clear hg hS hR c f i
      rintro v23 ⟨hg, hS, hR⟩
      go_wp2_with fail
      go_roundw
      case rel => exact ⟨3, by omega, rfl, hg, hS, hR⟩
      case measure => simp [intOf]
    · replace hS : Blk wr w.heap.size 28 s.t23.arr := hS
      go_upto_region 6 with fail
      have c : wr.cell? ⟨w.heap.size, 14, none⟩ = some (.int .i64 s.m3k) := hS.cell 14
      have f : wr.frozen? ⟨w.heap.size, 14, none⟩ = false := hS.free 14
      go_upto_region 7 with (first | (go_at_call 41; refine (law20_kind _ _).mono ?_; rintro e w' ⟨rfl, rfl⟩) | (go_at_call 22; refine (few_any _ _ (by assumption)).mono ?_; rintro e w' ⟨rfl, rfl⟩))
      refine wp_forget (fun W => Below w.heap.size w W ∧ Blk W w.heap.size 28 s.t24.arr ∧ Blk W (w.heap.size + 1) 28 Sty.zero.arr) ⟨hg.trans ((Chg.setCell wr ⟨w.heap.size, 14, none⟩ _).below (Nat.le_refl _)), style_t24 hS, hR.far (by simp) _⟩ ?_
      clear hg hS hR c f
      rintro v24 ⟨hg, hS, hR⟩
      have c : v24.cell? ⟨w.heap.size, 22, none⟩ = some (.int .i64 s.p3k) := hS.cell 22
      have f : v24.frozen? ⟨w.heap.size, 22, none⟩ = false := hS.free 22
      go_upto_region 8 with (first | (go_at_call 41; refine (law20_kind _ _).mono ?_; rintro e w' ⟨rfl, rfl⟩) | (go_at_call 22; refine (few_any _ _ (by assumption)).mono ?_; rintro e w' ⟨rfl, rfl⟩))
      refine wp_forget (fun W => Below w.heap.size w W ∧ Blk W w.heap.size 28 s.t25.arr ∧ Blk W (w.heap.size + 1) 28 Sty.zero.arr) ⟨hg.trans ((Chg.setCell v24 ⟨w.heap.size, 22, none⟩ _).below (Nat.le_refl _)), style_t25 hS, hR.far (by simp) _⟩ ?_
      clear hg hS hR c f
      rintro v25 ⟨hg, hS, hR⟩
      have c : v25.cell? ⟨w.heap.size, 30, none⟩ = some (.int .i64 s.o3k) := hS.cell 30
      have f : v25.frozen? ⟨w.heap.size, 30, none⟩ = false := hS.free 30
      go_upto_region 9 with (first | (go_at_call 41; refine (law20_kind _ _).mono ?_; rintro e w' ⟨rfl, rfl⟩) | (go_at_call 22; refine (few_any _ _ (by assumption)).mono ?_; rintro e w' ⟨rfl, rfl⟩))
      refine wp_forget (fun W => Below w.heap.size w W ∧ Blk W w.heap.size 28 s.t26.arr ∧ Blk W (w.heap.size + 1) 28 Sty.zero.arr) ⟨hg.trans ((Chg.setCell v25 ⟨w.heap.size, 30, none⟩ _).below (Nat.le_refl _)), style_t26 hS, hR.far (by simp) _⟩ ?_
      clear hg hS hR c f
      rintro v26 ⟨hg, hS, hR⟩
      have c : v26.cell? ⟨w.heap.size, 15, none⟩ = some (.int .i64 s.m3n) := hS.cell 15
      have f : v26.frozen? ⟨w.heap.size, 15, none⟩ = false := hS.free 15
      have i : I64 s.m3n := (Hid.out ok).i64 _ (by simp [Sty.ints])
      go_upto_region 10 with (first | (go_at_call 41; refine (law20_kind _ _).mono ?_; rintro e w' ⟨rfl, rfl⟩) | (go_at_call 22; refine (few_any _ _ (by assumption)).mono ?_; rintro e w' ⟨rfl, rfl⟩))
      refine wp_forget (fun W => Below w.heap.size w W ∧ Blk W w.heap.size 28 s.t27.arr ∧ Blk W (w.heap.size + 1) 28 Sty.zero.arr) ⟨hg.trans ((Chg.setCell v26 ⟨w.heap.size, 15, none⟩ _).below (Nat.le_refl _)), style_t27 hS, hR.far (by simp) _⟩ ?_
      clear hg hS hR c f i
      rintro v27 ⟨hg, hS, hR⟩
      have c : v27.cell? ⟨w.heap.size, 23, none⟩ = some (.int .i64 s.p3n) := hS.cell 23
      have f : v27.frozen? ⟨w.heap.size, 23, none⟩ = false := hS.free 23
      have i : I64 s.p3n := (Hid.out ok).i64 _ (by simp [Sty.ints])
      go_upto_region 11 with (first | (go_at_call 41; refine (law20_kind _ _).mono ?_; rintro e w' ⟨rfl, rfl⟩) | (go_at_call 22; refine (few_any _ _ (by assumption)).mono ?_; rintro e w' ⟨rfl, rfl⟩))
      refine wp_forget (fun W => Below w.heap.size w W ∧ Blk W w.heap.size 28 s.t28.arr ∧ Blk W (w.heap.size + 1) 28 Sty.zero.arr) ⟨hg.trans ((Chg.setCell v27 ⟨w.heap.size, 23, none⟩ _).below (Nat.le_refl _)), style_t28 hS, hR.far (by simp) _⟩ ?_
      clear hg hS hR c f i
      rintro v28 ⟨hg, hS, hR⟩
      have c : v28.cell? ⟨w.heap.size, 31, none⟩ = some (.int .i64 s.o3n) := hS.cell 31
      have f : v28.frozen? ⟨w.heap.size, 31, none⟩ = false := hS.free 31
      have i : I64 s.o3n := (Hid.out ok).i64 _ (by simp [Sty.ints])
      go_upto_region 12 with (first | (go_at_call 41; refine (law20_kind _ _).mono ?_; rintro e w' ⟨rfl, rfl⟩) | (go_at_call 22; refine (few_any _ _ (by assumption)).mono ?_; rintro e w' ⟨rfl, rfl⟩))
      refine wp_forget (fun W => Below w.heap.size w W ∧ Blk W w.heap.size 28 s.t29.arr ∧ Blk W (w.heap.size + 1) 28 Sty.zero.arr) ⟨hg.trans ((Chg.setCell v28 ⟨w.heap.size, 31, none⟩ _).below (Nat.le_refl _)), style_t29 hS, hR.far (by simp) _⟩ ?_
      clear hg hS hR c f i
      rintro v29 ⟨hg, hS, hR⟩
      have c : v29.cell? ⟨w.heap.size, 35, none⟩ = some (.int .i64 s.b3) := hS.cell 35
      have f : v29.frozen? ⟨w.heap.size, 35, none⟩ = false := hS.free 35
      have i : I64 s.b3 := (Hid.out ok).i64 _ (by simp [Sty.ints])
      go_upto_region 5 with (first | (go_at_call 41; refine (law20_kind _ _).mono ?_; rintro e w' ⟨rfl, rfl⟩) | (go_at_call 22; refine (few_any _ _ (by assumption)).mono ?_; rintro e w' ⟨rfl, rfl⟩))
      refine wp_forget (fun W => Below w.heap.size w W ∧ Blk W w.heap.size 28 s.t30.arr ∧ Blk W (w.heap.size + 1) 28 Sty.zero.arr) ⟨hg.trans ((Chg.setCell v29 ⟨w.heap.size, 35, none⟩ _).below (Nat.le_refl _)), style_t30 hS, hR.far (by simp) _⟩ ?_
      clear hg hS hR c f i
      rintro v30 ⟨hg, hS, hR⟩
      go_wp2_with fail
      go_roundw
      case rel => exact ⟨4, by omega, rfl, hg, hS, hR⟩
      case measure => simp [intOf]
    · replace hS : Blk wr w.heap.size 28 s.t30.arr := hS
      go_upto_region 13 with fail
      have c : wr.cell? ⟨w.heap.size, 5, none⟩ = some (.int .i64 s.wn) := hS.cell 5
      have f : wr.frozen? ⟨w.heap.size, 5, none⟩ = false := hS.free 5
      have i : I64 s.wn := (Hid.out ok).i64 _ (by simp [Sty.ints])
      go_upto_region 14 with (first | (go_at_call 41; refine (law20_kind _ _).mono ?_; rintro e w' ⟨rfl, rfl⟩) | (go_at_call 22; refine (few_any _ _ (by assumption)).mono ?_; rintro e w' ⟨rfl, rfl⟩))
      refine wp_forget (fun W => Below w.heap.size w W ∧ Blk W w.heap.size 28 s.t31.arr ∧ Blk W (w.heap.size + 1) 28 Sty.zero.arr) ⟨hg.trans ((Chg.setCell wr ⟨w.heap.size, 5, none⟩ _).below (Nat.le_refl _)), style_t31 hS, hR.far (by simp) _⟩ ?_
      clear hg hS hR c f i
      rintro v31 ⟨hg, hS, hR⟩
      have c : v31.cell? ⟨w.heap.size, 7, none⟩ = some (.int .i64 s.hn) := hS.cell 7
      have f : v31.frozen? ⟨w.heap.size, 7, none⟩ = false := hS.free 7
      have i : I64 s.hn := (Hid.out ok).i64 _ (by simp [Sty.ints])
      go_upto_region 15 with (first | (go_at_call 41; refine (law20_kind _ _).mono ?_; rintro e w' ⟨rfl, rfl⟩) | (go_at_call 22; refine (few_any _ _ (by assumption)).mono ?_; rintro e w' ⟨rfl, rfl⟩))
      refine wp_forget (fun W => Below w.heap.size w W ∧ Blk W w.heap.size 28 s.t32.arr ∧ Blk W (w.heap.size + 1) 28 Sty.zero.arr) ⟨hg.trans ((Chg.setCell v31 ⟨w.heap.size, 7, none⟩ _).below (Nat.le_refl _)), style_t32 hS, hR.far (by simp) _⟩ ?_
      clear hg hS hR c f i
      rintro v32 ⟨hg, hS, hR⟩
      go_wp2_with (first | (first | refine stop_load 28 _ rfl rfl ?_ | refine stop_store 28 _ _ rfl rfl ?_))
      refine ⟨?_⟩
      refine wl_load rfl 28 _ rfl _ rfl _ _ _ hS rfl rfl (info_style' _) ?_
      (try simp only [Act.put, List.setIfInBounds_toArray, List.set_cons_zero, List.set_cons_succ])
      go_wp2_with (first | (first | refine stop_load 28 _ rfl rfl ?_ | refine stop_store 28 _ _ rfl rfl ?_))
      refine ⟨?_⟩
      refine wl_store rfl 28 _ _ rfl (w.heap.size + 1) s.t32.arr rfl rfl 28 Sty.zero.arr hR rfl (info_style' _) (one_tame (Hid.out ok).one) ?_
      intro w9 hQ hc
      replace hg := hg.trans (hc.below (by omega))
      clear hS hR hc
      (try simp only [Act.put, List.setIfInBounds_toArray, List.set_cons_zero, List.set_cons_succ])
      go_wp2_with (first | (first | refine stop_load 28 _ rfl rfl ?_ | refine stop_store 28 _ _ rfl rfl ?_))
      refine bodyPost_ret (results_row 2 28 _ rfl rfl hQ _ rfl rfl (info_style' _)) rfl ?_
      exact ⟨rfl, hg⟩
end Go.Proofs.Ytkkabnkhdhlhkaa
