/-
  The walks of casementlaw20.units and known.
-/
import Derived.Test.YtkkabnkhdhlhkaaPlaceD
namespace Go.Proofs.Ytkkabnkhdhlhkaa
open Go.RowKit Num Mem Opn
set_option linter.unusedVariables false
set_option linter.unusedSimpArgs false
namespace Num
def pS1 : Sty := { Sty.zero with wk := 1, wn := 640 }
def pS2 : Sty := { pS1 with o3k := 1, o3n := 64 }
def pS3 : Sty := { Sty.zero with o2k := 1, o2n := 10, o3k := 1, o3n := 64 }
def pF2 : Fr := ⟨⟨0, 0, 0, 0⟩, ⟨0, 0, 0, 0⟩, ⟨0, 0, 0, 0⟩, 640⟩
theorem pF2_is : pS2.aframe 6400 0 0 = pF2 := by kernel_rfl
theorem pX2_is : pS2.ax 0 6400 0 pF2 = 64 := by kernel_rfl
theorem pSh_is : pS3.shift 9 9 true = (64, -10) := by kernel_rfl
theorem one_pS2 : pS2.arr.all (·.oneCell') = true := by simp [Sty.arr, Value.oneCell', pS1, pS2, Sty.zero]
end Num
theorem style_put30 {W : World} {g : Nat} {t : TypeId} {s : Sty} (h : Blk W g t s.arr) (k n : Int) : Blk ((W.setCell ⟨g, 30, none⟩ (.int .i64 k)).setCell ⟨g, 31, none⟩ (.int .i64 n)) g t (Sty.arr { s with o3k := k, o3n := n }) := (h.put 30 _).put 31 _
theorem style_put26 {W : World} {g : Nat} {t : TypeId} {s : Sty} (h : Blk W g t s.arr) (k n : Int) : Blk ((W.setCell ⟨g, 26, none⟩ (.int .i64 k)).setCell ⟨g, 27, none⟩ (.int .i64 n)) g t (Sty.arr { s with o1k := k, o1n := n }) := (h.put 26 _).put 27 _
theorem below_two {w W : World} {q i j : Nat} {u v : Value} (hg : Below w.heap.size w W) (hq : w.heap.size ≤ q) : Below w.heap.size w ((W.setCell ⟨q, i, none⟩ u).setCell ⟨q, j, none⟩ v) :=
  (hg.trans ((Chg.setCell W ⟨q, i, none⟩ u).below hq)).trans ((Chg.setCell _ ⟨q, j, none⟩ v).below hq)
theorem law20_units (n : Int) (w : World) : Calls Try.prog 25 #[.int .i64 n] w fun e w' => e = .returned (.agg #[.int .i64 1, .int .i64 n]) ∧ Below w.heap.size w w' := by
  go_enter Try.func25, Try.ntmps25
  go_wp2_with fail
  go_returns
  exact ⟨rfl, by go_grown⟩
set_option maxRecDepth 100000 in
set_option maxHeartbeats 2000000 in
theorem law20_known (w : World) : Calls Try.prog 24 #[] w fun e w' => e = .returned (.bool true) ∧ Below w.heap.size w w' := by
  have hR := Blk.new w 48 #[.int .i64 0, .int .i64 0, .int .i64 6400, .int .i64 6400]
  have hg : Below w.heap.size w (w.alloc (.cells #[.int .i64 0, .int .i64 0, .int .i64 6400, .int .i64 6400] 48)) := by go_grown
  go_enter Try.func24, Try.ntmps24
  go_upto_region 2 with (first | (first | refine stop_load 28 _ rfl rfl ?_ | refine stop_store 28 _ _ rfl rfl ?_) | (first | refine stop_load 35 _ rfl rfl ?_ | refine stop_store 35 _ _ rfl rfl ?_))
  refine wp_forget (fun W => Below w.heap.size w W ∧ Blk W w.heap.size 48 #[.int .i64 0, .int .i64 0, .int .i64 6400, .int .i64 6400]) ⟨hg, hR⟩ ?_
  clear hg hR
  rintro w0 ⟨hg, hR⟩
  go_wp2_with (first | (first | refine stop_load 28 _ rfl rfl ?_ | refine stop_store 28 _ _ rfl rfl ?_) | (first | refine stop_load 35 _ rfl rfl ?_ | refine stop_store 35 _ _ rfl rfl ?_))
  refine (law20_units 640 _).mono ?_
  rintro e w1 ⟨rfl, hb⟩
  replace hR := hR.below hb hR.lt
  replace hg := hg.trans (hb.mono hg.size)
  clear hb
  go_wp2_with (first | (first | refine stop_load 28 _ rfl rfl ?_ | refine stop_store 28 _ _ rfl rfl ?_) | (first | refine stop_load 35 _ rfl rfl ?_ | refine stop_store 35 _ _ rfl rfl ?_))
  refine ⟨?_⟩
  refine wl_store rfl 28 _ _ rfl w1.heap.size pS1.arr rfl rfl 28 Sty.zero.arr (Blk.new _ _ _) rfl (info_style' _) (by simp [Sty.arr, Value.oneCell', pS1, Sty.zero]) ?_
  intro w2 hS hc
  have lt1 := hR.lt
  replace hR := (hR.alloc _).chg hc (by omega)
  replace hg : Below w.heap.size w w2 := (hg.alloc hg.size _).trans (hc.below hg.size)
  clear hc
  generalize w1.heap.size = b at *
  (try simp only [Act.put, List.setIfInBounds_toArray, List.set_cons_zero, List.set_cons_succ])
  go_wp2_with (first | (first | refine stop_load 28 _ rfl rfl ?_ | refine stop_store 28 _ _ rfl rfl ?_) | (first | refine stop_load 35 _ rfl rfl ?_ | refine stop_store 35 _ _ rfl rfl ?_))
  refine (law20_units 64 _).mono ?_
  rintro e w3 ⟨rfl, hb⟩
  replace hR := hR.below hb hR.lt
  replace hS := hS.below hb hS.lt
  replace hg := hg.trans (hb.mono hg.size)
  clear hb
  have c30 : w3.cell? ⟨b, 30, none⟩ = some (.int .i64 0) := hS.cell 30
  have c31 : w3.cell? ⟨b, 31, none⟩ = some (.int .i64 0) := hS.cell 31
  have f30 : w3.frozen? ⟨b, 30, none⟩ = false := hS.free 30
  have f31 : w3.frozen? ⟨b, 31, none⟩ = false := hS.free 31
  go_upto_region 4 with (first | (first | refine stop_load 28 _ rfl rfl ?_ | refine stop_store 28 _ _ rfl rfl ?_) | (first | refine stop_load 35 _ rfl rfl ?_ | refine stop_store 35 _ _ rfl rfl ?_))
  refine wp_forget (fun W => Below w.heap.size w W ∧ Blk W w.heap.size 48 #[.int .i64 0, .int .i64 0, .int .i64 6400, .int .i64 6400] ∧ Blk W b 28 pS2.arr) ⟨below_two hg (by omega), (hR.far (by simp; omega) _).far (by simp; omega) _, style_put30 hS 1 64⟩ ?_
  clear hg hR hS c30 c31 f30 f31
  rintro w4 ⟨hg, hR, hS⟩
  have r0 : w4.cell? ⟨w.heap.size, 0, none⟩ = some (.int .i64 0) := hR.cell 0
  have r1 : w4.cell? ⟨w.heap.size, 1, none⟩ = some (.int .i64 0) := hR.cell 1
  have r2 : w4.cell? ⟨w.heap.size, 2, none⟩ = some (.int .i64 6400) := hR.cell 2
  have r3 : w4.cell? ⟨w.heap.size, 3, none⟩ = some (.int .i64 6400) := hR.cell 3
  go_wp2_with (first | (first | refine stop_load 28 _ rfl rfl ?_ | refine stop_store 28 _ _ rfl rfl ?_) | (first | refine stop_load 35 _ rfl rfl ?_ | refine stop_store 35 _ _ rfl rfl ?_))
  refine ⟨?_⟩
  refine wl_load rfl 28 _ rfl _ rfl _ _ _ hS rfl rfl (info_style' _) ?_
  (try simp only [Act.put, List.setIfInBounds_toArray, List.set_cons_zero, List.set_cons_succ])
  go_wp2_with (first | (first | refine stop_load 28 _ rfl rfl ?_ | refine stop_store 28 _ _ rfl rfl ?_) | (first | refine stop_load 35 _ rfl rfl ?_ | refine stop_store 35 _ _ rfl rfl ?_))
  refine (place_Across pS2 0 0 6400 6400 0 0 0 _ one_pS2).mono ?_
  rw [pF2_is, pX2_is]
  rintro e w5 ⟨rfl, hb⟩
  replace hg := hg.trans (hb.mono hg.size)
  clear hb hR hS r0 r1 r2 r3
  go_wp2_with (first | (first | refine stop_load 28 _ rfl rfl ?_ | refine stop_store 28 _ _ rfl rfl ?_) | (first | refine stop_load 35 _ rfl rfl ?_ | refine stop_store 35 _ _ rfl rfl ?_))
  refine ⟨?_⟩
  refine wl_store rfl 35 _ _ rfl w5.heap.size pF2.arr rfl rfl 35 Fr.zero.arr (Blk.new _ _ _) rfl (info_frame _) (frame_one _) ?_
  intro w6 hF hc
  replace hg : Below w.heap.size w w6 := (hg.alloc hg.size _).trans (hc.below hg.size)
  clear hc
  generalize w5.heap.size = g at *
  (try simp only [Act.put, List.setIfInBounds_toArray, List.set_cons_zero, List.set_cons_succ])
  go_wp2_with (first | (first | refine stop_load 28 _ rfl rfl ?_ | refine stop_store 28 _ _ rfl rfl ?_) | (first | refine stop_load 35 _ rfl rfl ?_ | refine stop_store 35 _ _ rfl rfl ?_))
  refine (law20_units 10 _).mono ?_
  rintro e w7 ⟨rfl, hb⟩
  replace hF := hF.below hb hF.lt
  replace hg := hg.trans (hb.mono hg.size)
  clear hb
  go_wp2_with (first | (first | refine stop_load 28 _ rfl rfl ?_ | refine stop_store 28 _ _ rfl rfl ?_) | (first | refine stop_load 35 _ rfl rfl ?_ | refine stop_store 35 _ _ rfl rfl ?_))
  refine (law20_units 64 _).mono ?_
  rintro e w8 ⟨rfl, hb⟩
  replace hF := hF.below hb hF.lt
  replace hg := hg.trans (hb.mono hg.size)
  clear hb
  go_wp2_with (first | (first | refine stop_load 28 _ rfl rfl ?_ | refine stop_store 28 _ _ rfl rfl ?_) | (first | refine stop_load 35 _ rfl rfl ?_ | refine stop_store 35 _ _ rfl rfl ?_))
  refine (place_Shift pS3 9 9 true _).mono ?_
  rw [pSh_is]
  rintro e w9 ⟨rfl, hb⟩
  replace hF := hF.below hb hF.lt
  replace hg := hg.trans (hb.mono hg.size)
  clear hb
  have c12 : w9.cell? ⟨g, 12, none⟩ = some (.int .i64 640) := hF.cell 12
  clear hF
  go_wp2_with fail
  go_returns
  exact ⟨rfl, hg⟩
end Go.Proofs.Ytkkabnkhdhlhkaa
