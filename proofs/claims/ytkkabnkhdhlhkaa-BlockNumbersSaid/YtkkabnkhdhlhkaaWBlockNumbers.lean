/-
  The walk of BlockNumbers: chapter 16's runs.
-/
import Derived.Test.YtkkabnkhdhlhkaaBlockJ
namespace Go.Proofs.Ytkkabnkhdhlhkaa
open Go.RowKit Num Mem Opn
set_option linter.unusedVariables false
set_option linter.unusedSimpArgs false
namespace Num
def nS1 : Sty := { Sty.zero with wk := 1, wn := 640 }
def nS2 : Sty := { nS1 with m1k := 1, m1n := 64 }
def nS3 : Sty := { Sty.zero with hk := 2, hn := 3200 }
def nF1 : Fr := ⟨⟨0, 2880, 0, 2880⟩, ⟨0, 0, 0, 0⟩, ⟨0, 0, 0, 0⟩, 640⟩
def nF2 : Fr := ⟨⟨0, 64, 0, 5696⟩, ⟨0, 0, 0, 0⟩, ⟨0, 0, 0, 0⟩, 640⟩
theorem nF1_is : nS1.solve 6400 = nF1 := by kernel_rfl
theorem nF2_is : nS2.solve 6400 = nF2 := by kernel_rfl
theorem zero_solve : (Sty.zero.solve (-5)).w = 0 := by kernel_rfl
theorem zero_fit1 : (Sty.zero.fit 6400 10 5).w = 10 := by kernel_rfl
theorem zero_fit2 : (Sty.zero.fit 6400 10 20).w = 20 := by kernel_rfl
theorem zero_fit3 : (Sty.zero.fit 15 10 20).w = 15 := by kernel_rfl
theorem tall_is : tall 2 3200 100 false = (0, false) := by kernel_rfl
end Num
theorem style_put10 {W : World} {g : Nat} {t : TypeId} {s : Sty} (h : Blk W g t s.arr) (k n : Int) : Blk ((W.setCell ⟨g, 10, none⟩ (.int .i64 k)).setCell ⟨g, 11, none⟩ (.int .i64 n)) g t { s with m1k := k, m1n := n }.arr := (h.put 10 _).put 11 _
set_option maxRecDepth 100000 in
set_option maxHeartbeats 2000000 in
theorem walk_BlockNumbers (w : World) : Calls Try.prog 6 #[] w fun e w' => e = .returned (.bool true) ∧ Below w.heap.size w w' := by
  go_enter Try.func6, Try.ntmps6
  go_wp2_with (first | (first | refine stop_load 28 _ rfl ?_ | refine stop_store 28 _ _ rfl ?_) | (first | refine stop_load 35 _ rfl ?_ | refine stop_store 35 _ _ rfl ?_))
  refine (law16_units 640 _).mono ?_
  rintro e w1 ⟨rfl, hb⟩
  go_wp2_with (first | (first | refine stop_load 28 _ rfl ?_ | refine stop_store 28 _ _ rfl ?_) | (first | refine stop_load 35 _ rfl ?_ | refine stop_store 35 _ _ rfl ?_))
  refine ⟨?_⟩
  refine wl_store rfl 28 _ _ rfl w1.heap.size nS1.arr rfl rfl 28 Sty.zero.arr (Blk.new _ _ _) rfl (info_style' _) (by simp [Sty.arr, Value.oneCell', nS1, Sty.zero]) ?_
  intro w2 hB hc
  have hg : Below w.heap.size w w2 := (hb.alloc hb.size _).trans (hc.below hb.size)
  have hbs : w.heap.size ≤ w1.heap.size := hb.size
  clear hb hc
  generalize w1.heap.size = b at *
  (try simp only [Act.put, List.setIfInBounds_toArray, List.set_cons_zero, List.set_cons_succ])
  go_wp2_with (first | (first | refine stop_load 28 _ rfl ?_ | refine stop_store 28 _ _ rfl ?_) | (first | refine stop_load 35 _ rfl ?_ | refine stop_store 35 _ _ rfl ?_))
  refine ⟨?_⟩
  refine wl_load rfl 28 _ rfl _ rfl _ _ _ hB rfl rfl (info_style' _) ?_
  (try simp only [Act.put, List.setIfInBounds_toArray, List.set_cons_zero, List.set_cons_succ])
  go_wp2_with (first | (first | refine stop_load 28 _ rfl ?_ | refine stop_store 28 _ _ rfl ?_) | (first | refine stop_load 35 _ rfl ?_ | refine stop_store 35 _ _ rfl ?_))
  refine (block_Solve nS1 6400 _).mono ?_
  rw [nF1_is]
  rintro e w3 ⟨rfl, hb⟩
  replace hB := hB.below hb hB.lt
  replace hg := hg.trans (hb.mono hg.size)
  have hbl : b < w3.heap.size := hB.lt
  clear hb
  go_wp2_with (first | (first | refine stop_load 28 _ rfl ?_ | refine stop_store 28 _ _ rfl ?_) | (first | refine stop_load 35 _ rfl ?_ | refine stop_store 35 _ _ rfl ?_))
  refine ⟨?_⟩
  refine wl_store rfl 35 _ _ rfl w3.heap.size nF1.arr rfl rfl 35 Fr.zero.arr (Blk.new _ _ _) rfl (info_frame _) (frame_one _) ?_
  intro w4 hF hc
  replace hg : Below w.heap.size w w4 := (hg.alloc hg.size _).trans (hc.below hg.size)
  replace hB := (hB.alloc _).chg hc (by omega)
  clear hc
  generalize w3.heap.size = g at *
  (try simp only [Act.put, List.setIfInBounds_toArray, List.set_cons_zero, List.set_cons_succ])
  go_wp2_with (first | (first | refine stop_load 28 _ rfl ?_ | refine stop_store 28 _ _ rfl ?_) | (first | refine stop_load 35 _ rfl ?_ | refine stop_store 35 _ _ rfl ?_))
  refine (law16_units 64 _).mono ?_
  rintro e w5 ⟨rfl, hb⟩
  replace hg := hg.trans (hb.mono hg.size)
  replace hB := hB.below hb hB.lt
  replace hF := hF.below hb hF.lt
  clear hb
  have c10 : w5.cell? ⟨b, 10, none⟩ = some (.int .i64 nS1.m1k) := hB.cell 10
  have c11 : w5.cell? ⟨b, 11, none⟩ = some (.int .i64 nS1.m1n) := hB.cell 11
  have f10 : w5.frozen? ⟨b, 10, none⟩ = false := hB.free 10
  have f11 : w5.frozen? ⟨b, 11, none⟩ = false := hB.free 11
  go_wp2_with (first | (first | refine stop_load 28 _ rfl ?_ | refine stop_store 28 _ _ rfl ?_) | (first | refine stop_load 35 _ rfl ?_ | refine stop_store 35 _ _ rfl ?_))
  refine ⟨?_⟩
  refine wl_forget (fun W => Below w.heap.size w W ∧ Blk W b 28 nS2.arr ∧ Blk W g 35 nF1.arr) ⟨(hg.trans ((Chg.setCell w5 ⟨b, 10, none⟩ _).below hbs)).trans ((Chg.setCell _ ⟨b, 11, none⟩ _).below hbs), style_put10 hB 1 64, (hF.far (by simp; omega) _).far (by simp; omega) _⟩ ?_
  clear hg hB hF c10 c11 f10 f11
  rintro w6 ⟨hg, hB, hF⟩
  refine wl_load rfl 28 _ rfl _ rfl _ _ _ hB rfl rfl (info_style' _) ?_
  (try simp only [Act.put, List.setIfInBounds_toArray, List.set_cons_zero, List.set_cons_succ])
  go_wp2_with (first | (first | refine stop_load 28 _ rfl ?_ | refine stop_store 28 _ _ rfl ?_) | (first | refine stop_load 35 _ rfl ?_ | refine stop_store 35 _ _ rfl ?_))
  refine (block_Solve nS2 6400 _).mono ?_
  rw [nF2_is]
  rintro e w7 ⟨rfl, hb⟩
  replace hF := hF.below hb hF.lt
  replace hg := hg.trans (hb.mono hg.size)
  have hgl : g < w7.heap.size := hF.lt
  clear hb hB
  go_wp2_with (first | (first | refine stop_load 28 _ rfl ?_ | refine stop_store 28 _ _ rfl ?_) | (first | refine stop_load 35 _ rfl ?_ | refine stop_store 35 _ _ rfl ?_))
  refine ⟨?_⟩
  refine wl_store rfl 35 _ _ rfl w7.heap.size nF2.arr rfl rfl 35 Fr.zero.arr (Blk.new _ _ _) rfl (info_frame _) (frame_one _) ?_
  intro w8 hG hc
  replace hg : Below w.heap.size w w8 := (hg.alloc hg.size _).trans (hc.below hg.size)
  replace hF := (hF.alloc _).chg hc (by omega)
  clear hc
  generalize w7.heap.size = q at *
  (try simp only [Act.put, List.setIfInBounds_toArray, List.set_cons_zero, List.set_cons_succ])
  go_wp2_with (first | (first | refine stop_load 28 _ rfl ?_ | refine stop_store 28 _ _ rfl ?_) | (first | refine stop_load 35 _ rfl ?_ | refine stop_store 35 _ _ rfl ?_))
  refine (block_Height nS3 100 false _).mono ?_
  rw [show tall nS3.hk nS3.hn 100 false = (0, false) from tall_is]
  rintro e w9 ⟨rfl, hb⟩
  replace hg := hg.trans (hb.mono hg.size)
  replace hF := hF.below hb hF.lt
  replace hG := hG.below hb hG.lt
  clear hb
  have c3 : w9.cell? ⟨g, 3, none⟩ = some (.int .i64 2880) := hF.cell 3
  have c1 : w9.cell? ⟨g, 1, none⟩ = some (.int .i64 2880) := hF.cell 1
  have d3 : w9.cell? ⟨q, 3, none⟩ = some (.int .i64 5696) := hG.cell 3
  clear hF hG
  go_wp2_with (first | (first | refine stop_load 28 _ rfl ?_ | refine stop_store 28 _ _ rfl ?_) | (first | refine stop_load 35 _ rfl ?_ | refine stop_store 35 _ _ rfl ?_))
  refine (block_Collapse 5 7 _).mono ?_
  rw [show (if (0 : Int) ≤ 5 ∧ (0 : Int) ≤ 7 then max 5 7 else if (5 : Int) < 0 ∧ (7 : Int) < 0 then min 5 7 else add 5 7) = 7 from by kernel_rfl]
  rintro e v1 ⟨rfl, hb⟩
  replace hg := hg.trans (hb.mono hg.size)
  clear hb c3 c1 d3
  go_wp2_with (first | (first | refine stop_load 28 _ rfl ?_ | refine stop_store 28 _ _ rfl ?_) | (first | refine stop_load 35 _ rfl ?_ | refine stop_store 35 _ _ rfl ?_))
  refine (block_Collapse (-5) (-7) _).mono ?_
  rw [show (if (0 : Int) ≤ -5 ∧ (0 : Int) ≤ -7 then max (-5) (-7) else if (-5 : Int) < 0 ∧ (-7 : Int) < 0 then min (-5) (-7) else add (-5) (-7)) = -7 from by kernel_rfl]
  rintro e v2 ⟨rfl, hb⟩
  replace hg := hg.trans (hb.mono hg.size)
  clear hb
  go_wp2_with (first | (first | refine stop_load 28 _ rfl ?_ | refine stop_store 28 _ _ rfl ?_) | (first | refine stop_load 35 _ rfl ?_ | refine stop_store 35 _ _ rfl ?_))
  refine (block_Solve Sty.zero (-5) _).mono ?_
  rintro e v3 ⟨rfl, hb⟩
  replace hg := hg.trans (hb.mono hg.size)
  have hv := zero_solve
  clear hb
  go_wp2_with (first | (first | refine stop_load 28 _ rfl ?_ | refine stop_store 28 _ _ rfl ?_) | (first | refine stop_load 35 _ rfl ?_ | refine stop_store 35 _ _ rfl ?_))
  refine (block_Fit Sty.zero 6400 10 5 _).mono ?_
  rintro e v4 ⟨rfl, hb⟩
  replace hg := hg.trans (hb.mono hg.size)
  clear hb
  replace hv := zero_fit1
  go_wp2_with (first | (first | refine stop_load 28 _ rfl ?_ | refine stop_store 28 _ _ rfl ?_) | (first | refine stop_load 35 _ rfl ?_ | refine stop_store 35 _ _ rfl ?_))
  refine (block_Fit Sty.zero 6400 10 20 _).mono ?_
  rintro e v5 ⟨rfl, hb⟩
  replace hg := hg.trans (hb.mono hg.size)
  clear hb
  replace hv := zero_fit2
  go_wp2_with (first | (first | refine stop_load 28 _ rfl ?_ | refine stop_store 28 _ _ rfl ?_) | (first | refine stop_load 35 _ rfl ?_ | refine stop_store 35 _ _ rfl ?_))
  refine (block_Fit Sty.zero 15 10 20 _).mono ?_
  rintro e v6 ⟨rfl, hb⟩
  replace hg := hg.trans (hb.mono hg.size)
  clear hb
  replace hv := zero_fit3
  go_wp2_with (first | (first | refine stop_load 28 _ rfl ?_ | refine stop_store 28 _ _ rfl ?_) | (first | refine stop_load 35 _ rfl ?_ | refine stop_store 35 _ _ rfl ?_))
  refine (law16_known _).mono ?_
  rintro e v7 ⟨rfl, hb⟩
  replace hg := hg.trans (hb.mono hg.size)
  clear hb hv
  go_wp2_with fail
  go_returns
  exact ⟨rfl, hg⟩
end Go.Proofs.Ytkkabnkhdhlhkaa
