/-
  The walks of block.Height, casementlaw16.units and known.
-/
import Derived.Test.YtkkabnkhdhlhkaaBlockI
namespace Go.Proofs.Ytkkabnkhdhlhkaa
open Go.RowKit Num Mem Opn
set_option linter.unusedVariables false
set_option linter.unusedSimpArgs false
namespace Num
def Sty.zero : Sty := ⟨.int .i64 0, .int .i64 0, .int .i64 0, .int .i64 0, 0, 0, 0, 0, 0, 0, 0, 0, 0, 0, 0, 0, 0, 0, 0, 0, 0, 0, 0, 0, 0, 0, 0, 0, 0, 0, 0, 0, 0, 0, 0, 0, .int .u32 0, .int .u32 0, .int .i64 0, .int .i64 0, .int .i64 0, .bool false, .bool false, .bool false, .bool false, .int .i64 0, .int .i64 0, .int .i64 0, .int .i64 0, .int .i64 0, .int .i64 0, .bool false⟩
def Sty.k1 : Sty := { Sty.zero with m0k := 1, m0n := 64, m1k := 1, m1n := 64, m2k := 1, m2n := 64, m3k := 1, m3n := 64 }
end Num
@[go_sem high] theorem run_field_w (f : Fr) (w : World) : (Instr.field 35 (.agg f.arr) 3).run Try.prog w = .ok (.int .i64 f.w) w := by
  rfl
/-- a length's Height: what it says, and if. -/
def tall (k n room : Int) (sure : Bool) : Int × Bool := if k = 2 ∧ sure = false then (0, false) else (max (len k n room) 0, given k)
set_option maxRecDepth 100000 in
set_option maxHeartbeats 2000000 in
theorem block_Height (s : Sty) (room : Int) (sure : Bool) (w : World) : Calls Try.prog 20 #[.agg s.arr, .int .i64 room, .bool sure] w fun e w' => e = .returned (.tuple #[.int .i64 (tall s.hk s.hn room sure).1, .bool (tall s.hk s.hn room sure).2]) ∧ Below w.heap.size w w' := by
  have hB := Blk.new w 28 s.arr
  have hg : Below w.heap.size w (w.alloc (.cells s.arr 28)) := by go_grown
  have c6 : (w.alloc (.cells s.arr 28)).cell? ⟨w.heap.size, 6, none⟩ = some (.int .i64 s.hk) := hB.cell 6
  have c7 : (w.alloc (.cells s.arr 28)).cell? ⟨w.heap.size, 7, none⟩ = some (.int .i64 s.hn) := hB.cell 7
  cases sure with
  | true =>
    go_enter Try.func20, Try.ntmps20
    cases hk : (s.hk == 2) <;> (
    go_wp2_with fail
    refine (block_Length s.hk s.hn room _).mono ?_
    rintro e w1 ⟨rfl, hb⟩
    go_wp2_with fail
    go_returns
    exact ⟨by simp [tall], hg.trans (hb.mono hg.size)⟩)
  | false =>
    go_enter Try.func20, Try.ntmps20
    cases hk : (s.hk == 2) with
    | true =>
      go_wp2_with fail
      go_returns
      simp at hk
      exact ⟨by simp [tall, hk], hg⟩
    | false =>
      go_wp2_with fail
      refine (block_Length s.hk s.hn room _).mono ?_
      rintro e w1 ⟨rfl, hb⟩
      go_wp2_with fail
      go_returns
      simp at hk
      exact ⟨by simp [tall, hk], hg.trans (hb.mono hg.size)⟩
theorem law16_units (n : Int) (w : World) : Calls Try.prog 19 #[.int .i64 n] w fun e w' => e = .returned (.agg #[.int .i64 1, .int .i64 n]) ∧ Below w.heap.size w w' := by
  go_enter Try.func19, Try.ntmps19
  go_wp2_with fail
  go_returns
  exact ⟨rfl, by go_grown⟩
set_option maxRecDepth 100000 in
set_option maxHeartbeats 2000000 in
theorem law16_known (w : World) : Calls Try.prog 14 #[] w fun e w' => e = .returned (.bool true) ∧ Below w.heap.size w w' := by
  go_enter Try.func14, Try.ntmps14
  go_wp2_with (first | (first | refine stop_load 28 _ rfl rfl ?_ | refine stop_store 28 _ _ rfl rfl ?_) | (first | refine stop_load 35 _ rfl rfl ?_ | refine stop_store 35 _ _ rfl rfl ?_))
  refine (law16_units 64 _).mono ?_
  rintro e w1 ⟨rfl, hb1⟩
  go_wp2_with (first | (first | refine stop_load 28 _ rfl rfl ?_ | refine stop_store 28 _ _ rfl rfl ?_) | (first | refine stop_load 35 _ rfl rfl ?_ | refine stop_store 35 _ _ rfl rfl ?_))
  refine (law16_units 64 _).mono ?_
  rintro e w2 ⟨rfl, hb2⟩
  go_wp2_with (first | (first | refine stop_load 28 _ rfl rfl ?_ | refine stop_store 28 _ _ rfl rfl ?_) | (first | refine stop_load 35 _ rfl rfl ?_ | refine stop_store 35 _ _ rfl rfl ?_))
  refine (law16_units 64 _).mono ?_
  rintro e w3 ⟨rfl, hb3⟩
  go_wp2_with (first | (first | refine stop_load 28 _ rfl rfl ?_ | refine stop_store 28 _ _ rfl rfl ?_) | (first | refine stop_load 35 _ rfl rfl ?_ | refine stop_store 35 _ _ rfl rfl ?_))
  refine (law16_units 64 _).mono ?_
  rintro e w4 ⟨rfl, hb4⟩
  go_wp2_with (first | (first | refine stop_load 28 _ rfl rfl ?_ | refine stop_store 28 _ _ rfl rfl ?_) | (first | refine stop_load 35 _ rfl rfl ?_ | refine stop_store 35 _ _ rfl rfl ?_))
  have hg : Below w.heap.size w w4 := ((hb1.trans (hb2.mono hb1.size)).trans (hb3.mono (hb1.trans (hb2.mono hb1.size)).size)).trans (hb4.mono ((hb1.trans (hb2.mono hb1.size)).trans (hb3.mono (hb1.trans (hb2.mono hb1.size)).size)).size)
  clear hb1 hb2 hb3 hb4
  refine ⟨?_⟩
  refine wl_store rfl 28 _ _ rfl w4.heap.size Sty.k1.arr rfl rfl 28 Sty.zero.arr (Blk.new _ _ _) rfl (info_style' _) (by simp [Sty.arr, Value.oneCell', Sty.k1, Sty.zero]) ?_
  intro w5 hB hc
  replace hg : Below w.heap.size w w5 := (hg.alloc hg.size _).trans (hc.below hg.size)
  clear hc
  (try simp only [Act.put, List.setIfInBounds_toArray, List.set_cons_zero, List.set_cons_succ])
  go_wp2_with (first | (first | refine stop_load 28 _ rfl rfl ?_ | refine stop_store 28 _ _ rfl rfl ?_) | (first | refine stop_load 35 _ rfl rfl ?_ | refine stop_store 35 _ _ rfl rfl ?_))
  refine (block_Length 2 3200 101 _).mono ?_
  rintro e w6 ⟨rfl, hb⟩
  replace hB := hB.below hb hB.lt
  replace hg := hg.trans (hb.mono hg.size)
  clear hb
  go_wp2_with (first | (first | refine stop_load 28 _ rfl rfl ?_ | refine stop_store 28 _ _ rfl rfl ?_) | (first | refine stop_load 35 _ rfl rfl ?_ | refine stop_store 35 _ _ rfl rfl ?_))
  refine ⟨?_⟩
  refine wl_load rfl 28 _ rfl _ rfl _ _ _ hB rfl rfl (info_style' Sty.k1) ?_
  (try simp only [Act.put, List.setIfInBounds_toArray, List.set_cons_zero, List.set_cons_succ])
  go_wp2_with (first | (first | refine stop_load 28 _ rfl rfl ?_ | refine stop_store 28 _ _ rfl rfl ?_) | (first | refine stop_load 35 _ rfl rfl ?_ | refine stop_store 35 _ _ rfl rfl ?_))
  refine (block_Solve Sty.k1 6400 _).mono ?_
  rintro e w7 ⟨rfl, hb⟩
  replace hg := hg.trans (hb.mono hg.size)
  clear hb hB
  have hv : (Sty.k1.solve 6400).w = 6272 := by kernel_rfl
  have hl : len 2 3200 101 = 50 := by kernel_rfl
  have hgv : given 2 = true := by kernel_rfl
  simp only [hl, hgv]
  clear hl hgv
  go_wp2_with fail
  refine (block_Collapse 5 (-7) _).mono ?_
  rintro e w8 ⟨rfl, hb⟩
  replace hg := hg.trans (hb.mono hg.size)
  have hv : (if (0 : Int) ≤ 5 ∧ (0 : Int) ≤ -7 then max 5 (-7) else if (5 : Int) < 0 ∧ (-7 : Int) < 0 then min 5 (-7) else add 5 (-7)) = -2 := by kernel_rfl
  simp only [hv]
  clear hb hv
  go_wp2_with fail
  go_returns
  exact ⟨rfl, hg⟩
end Go.Proofs.Ytkkabnkhdhlhkaa
