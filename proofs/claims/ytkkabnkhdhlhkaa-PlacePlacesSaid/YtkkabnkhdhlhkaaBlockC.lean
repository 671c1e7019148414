/-
  The walks of block.Margin, Padding, Border; Inner, left.
-/
import Derived.Test.YtkkabnkhdhlhkaaBlockB
namespace Go.Proofs.Ytkkabnkhdhlhkaa
open Go.RowKit Num Mem Opn
set_option linter.unusedVariables false
namespace Num
/-- a style: what block and place read of it, and the rest. -/
structure Sty where
  d0 : Value
  d1 : Value
  d2 : Value
  d3 : Value
  wk : Int
  wn : Int
  hk : Int
  hn : Int
  m0k : Int
  m0n : Int
  m1k : Int
  m1n : Int
  m2k : Int
  m2n : Int
  m3k : Int
  m3n : Int
  p0k : Int
  p0n : Int
  p1k : Int
  p1n : Int
  p2k : Int
  p2n : Int
  p3k : Int
  p3n : Int
  o0k : Int
  o0n : Int
  o1k : Int
  o1n : Int
  o2k : Int
  o2n : Int
  o3k : Int
  o3n : Int
  b0 : Int
  b1 : Int
  b2 : Int
  b3 : Int
  e0 : Value
  e1 : Value
  e2 : Value
  e3 : Value
  e4 : Value
  e5 : Value
  e6 : Value
  e7 : Value
  e8 : Value
  e9 : Value
  e10 : Value
  e11 : Value
  e12 : Value
  e13 : Value
  e14 : Value
  e15 : Value
def Sty.arr (s : Sty) : Array Value := #[s.d0, s.d1, s.d2, s.d3, .int .i64 s.wk, .int .i64 s.wn, .int .i64 s.hk, .int .i64 s.hn, .int .i64 s.m0k, .int .i64 s.m0n, .int .i64 s.m1k, .int .i64 s.m1n, .int .i64 s.m2k, .int .i64 s.m2n, .int .i64 s.m3k, .int .i64 s.m3n, .int .i64 s.p0k, .int .i64 s.p0n, .int .i64 s.p1k, .int .i64 s.p1n, .int .i64 s.p2k, .int .i64 s.p2n, .int .i64 s.p3k, .int .i64 s.p3n, .int .i64 s.o0k, .int .i64 s.o0n, .int .i64 s.o1k, .int .i64 s.o1n, .int .i64 s.o2k, .int .i64 s.o2n, .int .i64 s.o3k, .int .i64 s.o3n, .int .i64 s.b0, .int .i64 s.b1, .int .i64 s.b2, .int .i64 s.b3, s.e0, s.e1, s.e2, s.e3, s.e4, s.e5, s.e6, s.e7, s.e8, s.e9, s.e10, s.e11, s.e12, s.e13, s.e14, s.e15]
structure Sd where
  t : Int
  r : Int
  b : Int
  l : Int
deriving DecidableEq
def Sd.val (x : Sd) : Value := .agg #[.int .i64 x.t, .int .i64 x.r, .int .i64 x.b, .int .i64 x.l]
def Sty.margin (s : Sty) (room : Int) : Sd := ⟨max (len s.m0k s.m0n room) (-9223372036854775808), max (len s.m1k s.m1n room) (-9223372036854775808), max (len s.m2k s.m2n room) (-9223372036854775808), max (len s.m3k s.m3n room) (-9223372036854775808)⟩
def Sty.padding (s : Sty) (room : Int) : Sd := ⟨max (len s.p0k s.p0n room) 0, max (len s.p1k s.p1n room) 0, max (len s.p2k s.p2n room) 0, max (len s.p3k s.p3n room) 0⟩
def Sty.border (s : Sty) : Sd := ⟨max s.b0 0, max s.b1 0, max s.b2 0, max s.b3 0⟩
end Num
set_option maxRecDepth 100000 in
set_option maxHeartbeats 2000000 in
theorem block_Margin (s : Sty) (room : Int) (w : World) : Calls Try.prog 42 #[.agg s.arr, .int .i64 room] w fun e w' => e = .returned (s.margin room).val ∧ Below w.heap.size w w' := by
  unfold Sty.arr
  have hB := Blk.new w 28 s.arr
  have hR := Blk.new (w.alloc (.cells s.arr 28)) 33 #[.int .i64 0, .int .i64 0, .int .i64 0, .int .i64 0]
  have hg : Below w.heap.size w ((w.alloc (.cells s.arr 28)).alloc (.cells #[.int .i64 0, .int .i64 0, .int .i64 0, .int .i64 0] 33)) := by go_grown
  go_enter Try.func42, Try.ntmps42
  go_wp2_with fail
  refine (block_sides _ _ _ _ _ _ _ _ _ _ _).mono ?_
  rintro e w1 ⟨rfl, hb⟩
  have hR1 := hR.below hb (by simp)
  obtain ⟨c0, c1, c2, c3⟩ := hR1.four
  have f0 := hR1.free 0
  have f1 := hR1.free 1
  have f2 := hR1.free 2
  have f3 := hR1.free 3
  have hz := hb.size
  have hB2 : Below w.heap.size w w1 := hg.trans (hb.mono hg.size)
  simp at c0 c1 c2 c3 f0 f1 f2 f3 hz
  clear hB hR hR1 hb hg
  go_wp2_with fail
  refine bodyPost_ret (v := (s.margin room).val) (by simp [results, Try.results42, go_sem, Sd.val, Sty.margin, c0, c1, c2, c3]) rfl ?_
  exact ⟨rfl, by go_grown⟩
set_option maxRecDepth 100000 in
set_option maxHeartbeats 2000000 in
theorem block_Padding (s : Sty) (room : Int) (w : World) : Calls Try.prog 43 #[.agg s.arr, .int .i64 room] w fun e w' => e = .returned (s.padding room).val ∧ Below w.heap.size w w' := by
  unfold Sty.arr
  have hB := Blk.new w 28 s.arr
  have hR := Blk.new (w.alloc (.cells s.arr 28)) 33 #[.int .i64 0, .int .i64 0, .int .i64 0, .int .i64 0]
  have hg : Below w.heap.size w ((w.alloc (.cells s.arr 28)).alloc (.cells #[.int .i64 0, .int .i64 0, .int .i64 0, .int .i64 0] 33)) := by go_grown
  go_enter Try.func43, Try.ntmps43
  go_wp2_with fail
  refine (block_sides _ _ _ _ _ _ _ _ _ _ _).mono ?_
  rintro e w1 ⟨rfl, hb⟩
  have hR1 := hR.below hb (by simp)
  obtain ⟨c0, c1, c2, c3⟩ := hR1.four
  have f0 := hR1.free 0
  have f1 := hR1.free 1
  have f2 := hR1.free 2
  have f3 := hR1.free 3
  have hz := hb.size
  have hB2 : Below w.heap.size w w1 := hg.trans (hb.mono hg.size)
  simp at c0 c1 c2 c3 f0 f1 f2 f3 hz
  clear hB hR hR1 hb hg
  go_wp2_with fail
  refine bodyPost_ret (v := (s.padding room).val) (by simp [results, Try.results43, go_sem, Sd.val, Sty.padding, c0, c1, c2, c3]) rfl ?_
  exact ⟨rfl, by go_grown⟩
end Go.Proofs.Ytkkabnkhdhlhkaa
