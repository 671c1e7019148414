/-
  An api.Style that came in, opened: its cells, its numbers within int64.
-/
import Derived.Test.YtkkabnkhdhlhkaaBlockC
import Derived.Test.YtkkabnkhdhlhkaaOpen
namespace Go.Proofs.Ytkkabnkhdhlhkaa
open Go.ChangeShapes Go.WideShapes Go.RowKit Num Mem Opn
set_option linter.unusedVariables false
namespace Opn
theorem cell_i64 {P : Program} {w : World} {r : Reach} {b : Nat} {t : TypeId} {v : Value} (ht : P.underlying t = some (.int .i64)) (h : Cell.okWide P w r b t v) : ∃ n, v = .int .i64 n ∧ I64 n := by
  unfold Cell.okWide at h
  rw [ht] at h
  simp only [Cell.ok, ht] at h
  cases v <;> simp at h
  obtain ⟨rfl, hb⟩ := h
  refine ⟨_, rfl, ?_⟩
  simp [IntKind.has, IntKind.min, IntKind.max, IntKind.signed, IntKind.bits] at hb
  exact ⟨by omega, by omega⟩
theorem cell_u32 {P : Program} {w : World} {r : Reach} {b : Nat} {t : TypeId} {v : Value} (ht : P.underlying t = some (.int .u32)) (h : Cell.okWide P w r b t v) : ∃ n, v = .int .u32 n := by
  unfold Cell.okWide at h
  rw [ht] at h
  simp only [Cell.ok, ht] at h
  cases v <;> simp at h
  obtain ⟨rfl, hb⟩ := h
  exact ⟨_, rfl⟩
theorem cell_bool {P : Program} {w : World} {r : Reach} {b : Nat} {t : TypeId} {v : Value} (ht : P.underlying t = some .bool) (h : Cell.okWide P w r b t v) : ∃ x, v = .bool x := by
  unfold Cell.okWide at h
  rw [ht] at h
  simp only [Cell.ok, ht] at h
  cases v <;> simp at h
  exact ⟨_, rfl⟩
theorem uncons {α : Type} {l : List α} {n : Nat} (h : l.length = n + 1) : ∃ c l', l = c :: l' ∧ l'.length = n := by
  cases l with
  | nil => simp at h
  | cons c l => exact ⟨c, l, rfl, by simpa using h⟩
end Opn
namespace Num
def Sty.ints (s : Sty) : List Int := [s.wk, s.wn, s.hk, s.hn, s.m0k, s.m0n, s.m1k, s.m1n, s.m2k, s.m2n, s.m3k, s.m3n, s.p0k, s.p0n, s.p1k, s.p1n, s.p2k, s.p2n, s.p3k, s.p3n, s.o0k, s.o0n, s.o1k, s.o1n, s.o2k, s.o2n, s.o3k, s.o3n, s.b0, s.b1, s.b2, s.b3]
structure Sty.Ok (s : Sty) : Prop where
  i64 : ∀ x ∈ s.ints, I64 x
  one : s.arr.all (·.oneCell') = true
end Num
def styleTypes : List TypeId := [3, 3, 3, 3, 3, 2, 3, 2, 3, 2, 3, 2, 3, 2, 3, 2, 3, 2, 3, 2, 3, 2, 3, 2, 3, 2, 3, 2, 3, 2, 3, 2, 2, 2, 2, 2, 26, 26, 2, 2, 3, 4, 4, 4, 4, 2, 2, 2, 3, 3, 2, 4]
theorem cells_style : Try.prog.cellTypes Try.prog.depth 28 = some styleTypes := by kernel_rfl
theorem style_cells : Try.prog.cellsOf 28 = 52 := by kernel_rfl
set_option maxRecDepth 100000 in
set_option maxHeartbeats 2000000 in
theorem open_style {W : World} {r : Reach} {b : Nat} {v : Value} (h : Value.okWide Try.prog W r b 28 v) : ∃ s : Sty, v = .agg s.arr ∧ s.Ok := by
  unfold Value.okWide at h
  rw [Try.underlying28] at h
  obtain ⟨cs, rfl, hsz, ts, hts, -, hrow⟩ := h
  rw [cells_style] at hts
  obtain rfl := Option.some.inj hts
  rw [style_cells] at hsz
  obtain ⟨l0⟩ := cs
  have hl0 : l0.length = 52 := by simpa using hsz
  clear hsz hts
  obtain ⟨c0, l1, rfl, hl1⟩ := uncons hl0; clear hl0
  obtain ⟨c1, l2, rfl, hl2⟩ := uncons hl1; clear hl1
  obtain ⟨c2, l3, rfl, hl3⟩ := uncons hl2; clear hl2
  obtain ⟨c3, l4, rfl, hl4⟩ := uncons hl3; clear hl3
  obtain ⟨c4, l5, rfl, hl5⟩ := uncons hl4; clear hl4
  obtain ⟨c5, l6, rfl, hl6⟩ := uncons hl5; clear hl5
  obtain ⟨c6, l7, rfl, hl7⟩ := uncons hl6; clear hl6
  obtain ⟨c7, l8, rfl, hl8⟩ := uncons hl7; clear hl7
  obtain ⟨c8, l9, rfl, hl9⟩ := uncons hl8; clear hl8
  obtain ⟨c9, l10, rfl, hl10⟩ := uncons hl9; clear hl9
  obtain ⟨c10, l11, rfl, hl11⟩ := uncons hl10; clear hl10
  obtain ⟨c11, l12, rfl, hl12⟩ := uncons hl11; clear hl11
  obtain ⟨c12, l13, rfl, hl13⟩ := uncons hl12; clear hl12
  obtain ⟨c13, l14, rfl, hl14⟩ := uncons hl13; clear hl13
  obtain ⟨c14, l15, rfl, hl15⟩ := uncons hl14; clear hl14
  obtain ⟨c15, l16, rfl, hl16⟩ := uncons hl15; clear hl15
  obtain ⟨c16, l17, rfl, hl17⟩ := uncons hl16; clear hl16
  obtain ⟨c17, l18, rfl, hl18⟩ := uncons hl17; clear hl17
  obtain ⟨c18, l19, rfl, hl19⟩ := uncons hl18; clear hl18
  obtain ⟨c19, l20, rfl, hl20⟩ := uncons hl19; clear hl19
  obtain ⟨c20, l21, rfl, hl21⟩ := uncons hl20; clear hl20
  obtain ⟨c21, l22, rfl, hl22⟩ := uncons hl21; clear hl21
  obtain ⟨c22, l23, rfl, hl23⟩ := uncons hl22; clear hl22
  obtain ⟨c23, l24, rfl, hl24⟩ := uncons hl23; clear hl23
  obtain ⟨c24, l25, rfl, hl25⟩ := uncons hl24; clear hl24
  obtain ⟨c25, l26, rfl, hl26⟩ := uncons hl25; clear hl25
  obtain ⟨c26, l27, rfl, hl27⟩ := uncons hl26; clear hl26
  obtain ⟨c27, l28, rfl, hl28⟩ := uncons hl27; clear hl27
  obtain ⟨c28, l29, rfl, hl29⟩ := uncons hl28; clear hl28
  obtain ⟨c29, l30, rfl, hl30⟩ := uncons hl29; clear hl29
  obtain ⟨c30, l31, rfl, hl31⟩ := uncons hl30; clear hl30
  obtain ⟨c31, l32, rfl, hl32⟩ := uncons hl31; clear hl31
  obtain ⟨c32, l33, rfl, hl33⟩ := uncons hl32; clear hl32
  obtain ⟨c33, l34, rfl, hl34⟩ := uncons hl33; clear hl33
  obtain ⟨c34, l35, rfl, hl35⟩ := uncons hl34; clear hl34
  obtain ⟨c35, l36, rfl, hl36⟩ := uncons hl35; clear hl35
  obtain ⟨c36, l37, rfl, hl37⟩ := uncons hl36; clear hl36
  obtain ⟨c37, l38, rfl, hl38⟩ := uncons hl37; clear hl37
  obtain ⟨c38, l39, rfl, hl39⟩ := uncons hl38; clear hl38
  obtain ⟨c39, l40, rfl, hl40⟩ := uncons hl39; clear hl39
  obtain ⟨c40, l41, rfl, hl41⟩ := uncons hl40; clear hl40
  obtain ⟨c41, l42, rfl, hl42⟩ := uncons hl41; clear hl41
  obtain ⟨c42, l43, rfl, hl43⟩ := uncons hl42; clear hl42
  obtain ⟨c43, l44, rfl, hl44⟩ := uncons hl43; clear hl43
  obtain ⟨c44, l45, rfl, hl45⟩ := uncons hl44; clear hl44
  obtain ⟨c45, l46, rfl, hl46⟩ := uncons hl45; clear hl45
  obtain ⟨c46, l47, rfl, hl47⟩ := uncons hl46; clear hl46
  obtain ⟨c47, l48, rfl, hl48⟩ := uncons hl47; clear hl47
  obtain ⟨c48, l49, rfl, hl49⟩ := uncons hl48; clear hl48
  obtain ⟨c49, l50, rfl, hl50⟩ := uncons hl49; clear hl49
  obtain ⟨c50, l51, rfl, hl51⟩ := uncons hl50; clear hl50
  obtain ⟨c51, l52, rfl, hl52⟩ := uncons hl51; clear hl51
  obtain rfl := List.length_eq_zero_iff.1 hl52
  clear hl52
  obtain ⟨x0, rfl, h0⟩ := cell_i64 (t := 3) Try.underlying3 (by obtain ⟨u, hu, hc⟩ := hrow 0 _ rfl; obtain rfl : 3 = u := Option.some.inj hu; exact hc)
  obtain ⟨x1, rfl, h1⟩ := cell_i64 (t := 3) Try.underlying3 (by obtain ⟨u, hu, hc⟩ := hrow 1 _ rfl; obtain rfl : 3 = u := Option.some.inj hu; exact hc)
  obtain ⟨x2, rfl, h2⟩ := cell_i64 (t := 3) Try.underlying3 (by obtain ⟨u, hu, hc⟩ := hrow 2 _ rfl; obtain rfl : 3 = u := Option.some.inj hu; exact hc)
  obtain ⟨x3, rfl, h3⟩ := cell_i64 (t := 3) Try.underlying3 (by obtain ⟨u, hu, hc⟩ := hrow 3 _ rfl; obtain rfl : 3 = u := Option.some.inj hu; exact hc)
  obtain ⟨x4, rfl, h4⟩ := cell_i64 (t := 3) Try.underlying3 (by obtain ⟨u, hu, hc⟩ := hrow 4 _ rfl; obtain rfl : 3 = u := Option.some.inj hu; exact hc)
  obtain ⟨x5, rfl, h5⟩ := cell_i64 (t := 2) Try.underlying2 (by obtain ⟨u, hu, hc⟩ := hrow 5 _ rfl; obtain rfl : 2 = u := Option.some.inj hu; exact hc)
  obtain ⟨x6, rfl, h6⟩ := cell_i64 (t := 3) Try.underlying3 (by obtain ⟨u, hu, hc⟩ := hrow 6 _ rfl; obtain rfl : 3 = u := Option.some.inj hu; exact hc)
  obtain ⟨x7, rfl, h7⟩ := cell_i64 (t := 2) Try.underlying2 (by obtain ⟨u, hu, hc⟩ := hrow 7 _ rfl; obtain rfl : 2 = u := Option.some.inj hu; exact hc)
  obtain ⟨x8, rfl, h8⟩ := cell_i64 (t := 3) Try.underlying3 (by obtain ⟨u, hu, hc⟩ := hrow 8 _ rfl; obtain rfl : 3 = u := Option.some.inj hu; exact hc)
  obtain ⟨x9, rfl, h9⟩ := cell_i64 (t := 2) Try.underlying2 (by obtain ⟨u, hu, hc⟩ := hrow 9 _ rfl; obtain rfl : 2 = u := Option.some.inj hu; exact hc)
  obtain ⟨x10, rfl, h10⟩ := cell_i64 (t := 3) Try.underlying3 (by obtain ⟨u, hu, hc⟩ := hrow 10 _ rfl; obtain rfl : 3 = u := Option.some.inj hu; exact hc)
  obtain ⟨x11, rfl, h11⟩ := cell_i64 (t := 2) Try.underlying2 (by obtain ⟨u, hu, hc⟩ := hrow 11 _ rfl; obtain rfl : 2 = u := Option.some.inj hu; exact hc)
  obtain ⟨x12, rfl, h12⟩ := cell_i64 (t := 3) Try.underlying3 (by obtain ⟨u, hu, hc⟩ := hrow 12 _ rfl; obtain rfl : 3 = u := Option.some.inj hu; exact hc)
  obtain ⟨x13, rfl, h13⟩ := cell_i64 (t := 2) Try.underlying2 (by obtain ⟨u, hu, hc⟩ := hrow 13 _ rfl; obtain rfl : 2 = u := Option.some.inj hu; exact hc)
  obtain ⟨x14, rfl, h14⟩ := cell_i64 (t := 3) Try.underlying3 (by obtain ⟨u, hu, hc⟩ := hrow 14 _ rfl; obtain rfl : 3 = u := Option.some.inj hu; exact hc)
  obtain ⟨x15, rfl, h15⟩ := cell_i64 (t := 2) Try.underlying2 (by obtain ⟨u, hu, hc⟩ := hrow 15 _ rfl; obtain rfl : 2 = u := Option.some.inj hu; exact hc)
  obtain ⟨x16, rfl, h16⟩ := cell_i64 (t := 3) Try.underlying3 (by obtain ⟨u, hu, hc⟩ := hrow 16 _ rfl; obtain rfl : 3 = u := Option.some.inj hu; exact hc)
  obtain ⟨x17, rfl, h17⟩ := cell_i64 (t := 2) Try.underlying2 (by obtain ⟨u, hu, hc⟩ := hrow 17 _ rfl; obtain rfl : 2 = u := Option.some.inj hu; exact hc)
  obtain ⟨x18, rfl, h18⟩ := cell_i64 (t := 3) Try.underlying3 (by obtain ⟨u, hu, hc⟩ := hrow 18 _ rfl; obtain rfl : 3 = u := Option.some.inj hu; exact hc)
  obtain ⟨x19, rfl, h19⟩ := cell_i64 (t := 2) Try.underlying2 (by obtain ⟨u, hu, hc⟩ := hrow 19 _ rfl; obtain rfl : 2 = u := Option.some.inj hu; exact hc)
  obtain ⟨x20, rfl, h20⟩ := cell_i64 (t := 3) Try.underlying3 (by obtain ⟨u, hu, hc⟩ := hrow 20 _ rfl; obtain rfl : 3 = u := Option.some.inj hu; exact hc)
  obtain ⟨x21, rfl, h21⟩ := cell_i64 (t := 2) Try.underlying2 (by obtain ⟨u, hu, hc⟩ := hrow 21 _ rfl; obtain rfl : 2 = u := Option.some.inj hu; exact hc)
  obtain ⟨x22, rfl, h22⟩ := cell_i64 (t := 3) Try.underlying3 (by obtain ⟨u, hu, hc⟩ := hrow 22 _ rfl; obtain rfl : 3 = u := Option.some.inj hu; exact hc)
  obtain ⟨x23, rfl, h23⟩ := cell_i64 (t := 2) Try.underlying2 (by obtain ⟨u, hu, hc⟩ := hrow 23 _ rfl; obtain rfl : 2 = u := Option.some.inj hu; exact hc)
  obtain ⟨x24, rfl, h24⟩ := cell_i64 (t := 3) Try.underlying3 (by obtain ⟨u, hu, hc⟩ := hrow 24 _ rfl; obtain rfl : 3 = u := Option.some.inj hu; exact hc)
  obtain ⟨x25, rfl, h25⟩ := cell_i64 (t := 2) Try.underlying2 (by obtain ⟨u, hu, hc⟩ := hrow 25 _ rfl; obtain rfl : 2 = u := Option.some.inj hu; exact hc)
  obtain ⟨x26, rfl, h26⟩ := cell_i64 (t := 3) Try.underlying3 (by obtain ⟨u, hu, hc⟩ := hrow 26 _ rfl; obtain rfl : 3 = u := Option.some.inj hu; exact hc)
  obtain ⟨x27, rfl, h27⟩ := cell_i64 (t := 2) Try.underlying2 (by obtain ⟨u, hu, hc⟩ := hrow 27 _ rfl; obtain rfl : 2 = u := Option.some.inj hu; exact hc)
  obtain ⟨x28, rfl, h28⟩ := cell_i64 (t := 3) Try.underlying3 (by obtain ⟨u, hu, hc⟩ := hrow 28 _ rfl; obtain rfl : 3 = u := Option.some.inj hu; exact hc)
  obtain ⟨x29, rfl, h29⟩ := cell_i64 (t := 2) Try.underlying2 (by obtain ⟨u, hu, hc⟩ := hrow 29 _ rfl; obtain rfl : 2 = u := Option.some.inj hu; exact hc)
  obtain ⟨x30, rfl, h30⟩ := cell_i64 (t := 3) Try.underlying3 (by obtain ⟨u, hu, hc⟩ := hrow 30 _ rfl; obtain rfl : 3 = u := Option.some.inj hu; exact hc)
  obtain ⟨x31, rfl, h31⟩ := cell_i64 (t := 2) Try.underlying2 (by obtain ⟨u, hu, hc⟩ := hrow 31 _ rfl; obtain rfl : 2 = u := Option.some.inj hu; exact hc)
  obtain ⟨x32, rfl, h32⟩ := cell_i64 (t := 2) Try.underlying2 (by obtain ⟨u, hu, hc⟩ := hrow 32 _ rfl; obtain rfl : 2 = u := Option.some.inj hu; exact hc)
  obtain ⟨x33, rfl, h33⟩ := cell_i64 (t := 2) Try.underlying2 (by obtain ⟨u, hu, hc⟩ := hrow 33 _ rfl; obtain rfl : 2 = u := Option.some.inj hu; exact hc)
  obtain ⟨x34, rfl, h34⟩ := cell_i64 (t := 2) Try.underlying2 (by obtain ⟨u, hu, hc⟩ := hrow 34 _ rfl; obtain rfl : 2 = u := Option.some.inj hu; exact hc)
  obtain ⟨x35, rfl, h35⟩ := cell_i64 (t := 2) Try.underlying2 (by obtain ⟨u, hu, hc⟩ := hrow 35 _ rfl; obtain rfl : 2 = u := Option.some.inj hu; exact hc)
  obtain ⟨x36, rfl⟩ := cell_u32 (t := 26) Try.underlying26 (by obtain ⟨u, hu, hc⟩ := hrow 36 _ rfl; obtain rfl : 26 = u := Option.some.inj hu; exact hc)
  obtain ⟨x37, rfl⟩ := cell_u32 (t := 26) Try.underlying26 (by obtain ⟨u, hu, hc⟩ := hrow 37 _ rfl; obtain rfl : 26 = u := Option.some.inj hu; exact hc)
  obtain ⟨x38, rfl, h38⟩ := cell_i64 (t := 2) Try.underlying2 (by obtain ⟨u, hu, hc⟩ := hrow 38 _ rfl; obtain rfl : 2 = u := Option.some.inj hu; exact hc)
  obtain ⟨x39, rfl, h39⟩ := cell_i64 (t := 2) Try.underlying2 (by obtain ⟨u, hu, hc⟩ := hrow 39 _ rfl; obtain rfl : 2 = u := Option.some.inj hu; exact hc)
  obtain ⟨x40, rfl, h40⟩ := cell_i64 (t := 3) Try.underlying3 (by obtain ⟨u, hu, hc⟩ := hrow 40 _ rfl; obtain rfl : 3 = u := Option.some.inj hu; exact hc)
  obtain ⟨x41, rfl⟩ := cell_bool (t := 4) Try.underlying4 (by obtain ⟨u, hu, hc⟩ := hrow 41 _ rfl; obtain rfl : 4 = u := Option.some.inj hu; exact hc)
  obtain ⟨x42, rfl⟩ := cell_bool (t := 4) Try.underlying4 (by obtain ⟨u, hu, hc⟩ := hrow 42 _ rfl; obtain rfl : 4 = u := Option.some.inj hu; exact hc)
  obtain ⟨x43, rfl⟩ := cell_bool (t := 4) Try.underlying4 (by obtain ⟨u, hu, hc⟩ := hrow 43 _ rfl; obtain rfl : 4 = u := Option.some.inj hu; exact hc)
  obtain ⟨x44, rfl⟩ := cell_bool (t := 4) Try.underlying4 (by obtain ⟨u, hu, hc⟩ := hrow 44 _ rfl; obtain rfl : 4 = u := Option.some.inj hu; exact hc)
  obtain ⟨x45, rfl, h45⟩ := cell_i64 (t := 2) Try.underlying2 (by obtain ⟨u, hu, hc⟩ := hrow 45 _ rfl; obtain rfl : 2 = u := Option.some.inj hu; exact hc)
  obtain ⟨x46, rfl, h46⟩ := cell_i64 (t := 2) Try.underlying2 (by obtain ⟨u, hu, hc⟩ := hrow 46 _ rfl; obtain rfl : 2 = u := Option.some.inj hu; exact hc)
  obtain ⟨x47, rfl, h47⟩ := cell_i64 (t := 2) Try.underlying2 (by obtain ⟨u, hu, hc⟩ := hrow 47 _ rfl; obtain rfl : 2 = u := Option.some.inj hu; exact hc)
  obtain ⟨x48, rfl, h48⟩ := cell_i64 (t := 3) Try.underlying3 (by obtain ⟨u, hu, hc⟩ := hrow 48 _ rfl; obtain rfl : 3 = u := Option.some.inj hu; exact hc)
  obtain ⟨x49, rfl, h49⟩ := cell_i64 (t := 3) Try.underlying3 (by obtain ⟨u, hu, hc⟩ := hrow 49 _ rfl; obtain rfl : 3 = u := Option.some.inj hu; exact hc)
  obtain ⟨x50, rfl, h50⟩ := cell_i64 (t := 2) Try.underlying2 (by obtain ⟨u, hu, hc⟩ := hrow 50 _ rfl; obtain rfl : 2 = u := Option.some.inj hu; exact hc)
  obtain ⟨x51, rfl⟩ := cell_bool (t := 4) Try.underlying4 (by obtain ⟨u, hu, hc⟩ := hrow 51 _ rfl; obtain rfl : 4 = u := Option.some.inj hu; exact hc)
  clear hrow
  refine ⟨⟨.int .i64 x0, .int .i64 x1, .int .i64 x2, .int .i64 x3, x4, x5, x6, x7, x8, x9, x10, x11, x12, x13, x14, x15, x16, x17, x18, x19, x20, x21, x22, x23, x24, x25, x26, x27, x28, x29, x30, x31, x32, x33, x34, x35, .int .u32 x36, .int .u32 x37, .int .i64 x38, .int .i64 x39, .int .i64 x40, .bool x41, .bool x42, .bool x43, .bool x44, .int .i64 x45, .int .i64 x46, .int .i64 x47, .int .i64 x48, .int .i64 x49, .int .i64 x50, .bool x51⟩, rfl, ?_, by simp [Sty.arr, Value.oneCell']⟩
  intro x hx
  simp only [Sty.ints, List.mem_cons, List.not_mem_nil, or_false] at hx
  rcases hx with rfl | rfl | rfl | rfl | rfl | rfl | rfl | rfl | rfl | rfl | rfl | rfl | rfl | rfl | rfl | rfl | rfl | rfl | rfl | rfl | rfl | rfl | rfl | rfl | rfl | rfl | rfl | rfl | rfl | rfl | rfl | rfl <;> assumption
end Go.Proofs.Ytkkabnkhdhlhkaa
