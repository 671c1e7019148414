/-
  The walk of PlaceNumbers: chapter 20's runs.
-/
import Derived.Test.YtkkabnkhdhlhkaaPlaceE
namespace Go.Proofs.Ytkkabnkhdhlhkaa
open Go.RowKit Num Mem Opn
set_option linter.unusedVariables false
set_option linter.unusedSimpArgs false
namespace Num
namespace PN
def nS2 : Sty := { pS1 with o1k := 1, o1n := 64 }
def nS3 : Sty := { nS2 with wk := 0, wn := 0 }
def nS4 : Sty := { nS3 with o3k := 1, o3n := 64 }
def nS6 : Sty := { Sty.zero with o0k := 1, o0n := 5 }
theorem one_zero : Sty.zero.arr.all (·.oneCell') = true := by simp [Sty.arr, Value.oneCell', Sty.zero]
theorem one_nS2 : nS2.arr.all (·.oneCell') = true := by simp [Sty.arr, Value.oneCell', pS1, nS2, Sty.zero]
theorem one_nS4 : nS4.arr.all (·.oneCell') = true := by simp [Sty.arr, Value.oneCell', pS1, nS2, nS3, nS4, Sty.zero]
theorem nX2_is : nS2.ax 0 6400 0 (nS2.aframe 6400 0 0) = 5696 := by kernel_rfl
theorem nX4_is : nS4.ax 0 6400 0 (nS4.aframe 6400 0 0) = 64 := by kernel_rfl
theorem nX5_is : Sty.zero.ax 0 6400 100 (Sty.zero.aframe 6400 10 20) = 100 := by kernel_rfl
theorem nW4_is : (nS4.aframe 6400 0 0).w = 6272 := by kernel_rfl
theorem nW5_is : (Sty.zero.aframe 6400 10 20).w = 20 := by kernel_rfl
theorem nDh_is : nS6.dh 6400 77 Fr.zero = 77 := by kernel_rfl
theorem nDy_is : nS6.dy 0 6400 9 77 Fr.zero = 5 := by kernel_rfl
theorem nSh_is : Sty.zero.shift 9 9 true = (0, 0) := by kernel_rfl
end PN
end Num
open PN
set_option maxRecDepth 100000 in
set_option maxHeartbeats 4000000 in
theorem walk_PlaceNumbers (w : World) : Calls Try.prog 8 #[] w fun e w' => e = .returned (.bool true) ∧ Below w.heap.size w w' := by
  have hR := Blk.new w 48 #[.int .i64 0, .int .i64 0, .int .i64 6400, .int .i64 6400]
  have hg : Below w.heap.size w (w.alloc (.cells #[.int .i64 0, .int .i64 0, .int .i64 6400, .int .i64 6400] 48)) := by go_grown
  go_enter Try.func8, Try.ntmps8
  go_upto_region 2 with (first | (first | refine stop_load 28 _ rfl rfl ?_ | refine stop_store 28 _ _ rfl rfl ?_) | (first | refine stop_load 35 _ rfl rfl ?_ | refine stop_store 35 _ _ rfl rfl ?_))
  refine wp_forget (fun W => Below w.heap.size w W ∧ Blk W w.heap.size 48 #[.int .i64 0, .int .i64 0, .int .i64 6400, .int .i64 6400]) ⟨hg, hR⟩ ?_
  clear hg hR
  rintro w0 ⟨hg, hR⟩
  go_wp2_with (first | (first | refine stop_load 28 _ rfl rfl ?_ | refine stop_store 28 _ _ rfl rfl ?_) | (first | refine stop_load 35 _ rfl rfl ?_ | refine stop_store 35 _ _ rfl rfl ?_))
  refine (law20_units 640 _).mono ?_
  rintro e w1 ⟨rfl, hb⟩
  replace hR := hR.below hb hR.lt
  replace hg := hg.trans (hb.mono hg.size)
  clear hb
  go_wp2_with (first | (first | refine stop_load 28 _ rfl rfl ?_ | refine stop_store 28 _ _ rfl rfl ?_) | (first | refine stop_load 35 _ rfl rfl ?_ | refine stop_store 35 _ _ rfl rfl ?_))
  refine ⟨?_⟩
  refine wl_store rfl 28 _ _ rfl w1.heap.size pS1.arr rfl rfl 28 Sty.zero.arr (Blk.new _ _ _) rfl (info_style' _) (by simp [Sty.arr, Value.oneCell', pS1, Sty.zero]) ?_
  intro w2 hS hc
  have lthRb := hR.lt
  replace hR := (hR.alloc _).chg hc (by omega)
  have leb := hg.size
  replace hg : Below w.heap.size w w2 := (hg.alloc hg.size _).trans (hc.below hg.size)
  clear hc
  generalize w1.heap.size = b at *
  (try simp only [Act.put, List.setIfInBounds_toArray, List.set_cons_zero, List.set_cons_succ])
  go_wp2_with (first | (first | refine stop_load 28 _ rfl rfl ?_ | refine stop_store 28 _ _ rfl rfl ?_) | (first | refine stop_load 35 _ rfl rfl ?_ | refine stop_store 35 _ _ rfl rfl ?_))
  refine (law20_units 64 _).mono ?_
  rintro e w3 ⟨rfl, hb⟩
  replace hR := hR.below hb hR.lt
  replace hS := hS.below hb hS.lt
  replace hg := hg.trans (hb.mono hg.size)
  clear hb
  have c0 : w3.cell? ⟨b, 26, none⟩ = some (.int .i64 pS1.o1k) := hS.cell 26
  have c1 : w3.cell? ⟨b, 27, none⟩ = some (.int .i64 pS1.o1n) := hS.cell 27
  have f0 : w3.frozen? ⟨b, 26, none⟩ = false := hS.free 26
  have f1 : w3.frozen? ⟨b, 27, none⟩ = false := hS.free 27
  go_upto_region 4 with (first | (first | refine stop_load 28 _ rfl rfl ?_ | refine stop_store 28 _ _ rfl rfl ?_) | (first | refine stop_load 35 _ rfl rfl ?_ | refine stop_store 35 _ _ rfl rfl ?_))
  refine wp_forget (fun W => Below w.heap.size w W ∧ Blk W w.heap.size 48 #[.int .i64 0, .int .i64 0, .int .i64 6400, .int .i64 6400] ∧ Blk W b 28 nS2.arr) ⟨below_two hg leb, (hR.far (by simp; omega) _).far (by simp; omega) _, style_put26 hS 1 64⟩ ?_
  clear hg hR hS c0 c1 f0 f1
  rintro w4 ⟨hg, hR, hS⟩
  have r0 : w4.cell? ⟨w.heap.size, 0, none⟩ = some (.int .i64 0) := hR.cell 0
  have r1 : w4.cell? ⟨w.heap.size, 1, none⟩ = some (.int .i64 0) := hR.cell 1
  have r2 : w4.cell? ⟨w.heap.size, 2, none⟩ = some (.int .i64 6400) := hR.cell 2
  have r3 : w4.cell? ⟨w.heap.size, 3, none⟩ = some (.int .i64 6400) := hR.cell 3
  go_wp2_with (first | (first | refine stop_load 28 _ rfl rfl ?_ | refine stop_store 28 _ _ rfl rfl ?_) | (first | refine stop_load 35 _ rfl rfl ?_ | refine stop_store 35 _ _ rfl rfl ?_))
  refine ⟨?_⟩
  refine wl_load rfl 28 _ rfl _ rfl _ _ _ hS rfl rfl (info_style' _) ?_
  (try simp only [Act.put, List.setIfInBounds_toArray, List.set_cons_zero, List.set_cons_succ])
  go_wp2_with (first | (first | refine stop_load 28 _ rfl rfl ?_ | refine stop_store 28 _ _ rfl rfl ?_) | (first | refine stop_load 35 _ rfl rfl ?_ | refine stop_store 35 _ _ rfl rfl ?_))
  refine (place_Across nS2 0 0 6400 6400 0 0 0 _ one_nS2).mono ?_
  rw [nX2_is]
  rintro e w5 ⟨rfl, hb⟩
  replace hR := hR.below hb hR.lt
  replace hS := hS.below hb hS.lt
  replace hg := hg.trans (hb.mono hg.size)
  clear hb
  clear r0 r1 r2 r3
  go_wp2_with (first | (first | refine stop_load 28 _ rfl rfl ?_ | refine stop_store 28 _ _ rfl rfl ?_) | (first | refine stop_load 35 _ rfl rfl ?_ | refine stop_store 35 _ _ rfl rfl ?_))
  refine ⟨?_⟩
  refine wl_store rfl 35 _ _ rfl w5.heap.size (nS2.aframe 6400 0 0).arr rfl rfl 35 Fr.zero.arr (Blk.new _ _ _) rfl (info_frame _) (frame_one _) ?_
  intro w6 _ hc
  have l0hR := hR.lt
  have l0hS := hS.lt
  replace hR := (hR.alloc _).chg hc (by omega)
  replace hS := (hS.alloc _).chg hc (by omega)
  replace hg : Below w.heap.size w w6 := (hg.alloc hg.size _).trans (hc.below hg.size)
  clear hc
  (try simp only [Act.put, List.setIfInBounds_toArray, List.set_cons_zero, List.set_cons_succ])
  have c0 : w6.cell? ⟨b, 4, none⟩ = some (.int .i64 nS2.wk) := hS.cell 4
  have c1 : w6.cell? ⟨b, 5, none⟩ = some (.int .i64 nS2.wn) := hS.cell 5
  have f0 : w6.frozen? ⟨b, 4, none⟩ = false := hS.free 4
  have f1 : w6.frozen? ⟨b, 5, none⟩ = false := hS.free 5
  go_upto_region 6 with (first | (first | refine stop_load 28 _ rfl rfl ?_ | refine stop_store 28 _ _ rfl rfl ?_) | (first | refine stop_load 35 _ rfl rfl ?_ | refine stop_store 35 _ _ rfl rfl ?_))
  refine wp_forget (fun W => Below w.heap.size w W ∧ Blk W w.heap.size 48 #[.int .i64 0, .int .i64 0, .int .i64 6400, .int .i64 6400] ∧ Blk W b 28 nS3.arr) ⟨below_two hg leb, (hR.far (by simp; omega) _).far (by simp; omega) _, style_put4 hS⟩ ?_
  clear hg hR hS c0 c1 f0 f1
  rintro w7 ⟨hg, hR, hS⟩
  go_wp2_with (first | (first | refine stop_load 28 _ rfl rfl ?_ | refine stop_store 28 _ _ rfl rfl ?_) | (first | refine stop_load 35 _ rfl rfl ?_ | refine stop_store 35 _ _ rfl rfl ?_))
  refine (law20_units 64 _).mono ?_
  rintro e w8 ⟨rfl, hb⟩
  replace hR := hR.below hb hR.lt
  replace hS := hS.below hb hS.lt
  replace hg := hg.trans (hb.mono hg.size)
  clear hb
  have c0 : w8.cell? ⟨b, 30, none⟩ = some (.int .i64 nS3.o3k) := hS.cell 30
  have c1 : w8.cell? ⟨b, 31, none⟩ = some (.int .i64 nS3.o3n) := hS.cell 31
  have f0 : w8.frozen? ⟨b, 30, none⟩ = false := hS.free 30
  have f1 : w8.frozen? ⟨b, 31, none⟩ = false := hS.free 31
  go_upto_region 7 with (first | (first | refine stop_load 28 _ rfl rfl ?_ | refine stop_store 28 _ _ rfl rfl ?_) | (first | refine stop_load 35 _ rfl rfl ?_ | refine stop_store 35 _ _ rfl rfl ?_))
  refine wp_forget (fun W => Below w.heap.size w W ∧ Blk W w.heap.size 48 #[.int .i64 0, .int .i64 0, .int .i64 6400, .int .i64 6400] ∧ Blk W b 28 nS4.arr) ⟨below_two hg leb, (hR.far (by simp; omega) _).far (by simp; omega) _, style_put30 hS 1 64⟩ ?_
  clear hg hR hS c0 c1 f0 f1
  rintro w9 ⟨hg, hR, hS⟩
  have r0 : w9.cell? ⟨w.heap.size, 0, none⟩ = some (.int .i64 0) := hR.cell 0
  have r1 : w9.cell? ⟨w.heap.size, 1, none⟩ = some (.int .i64 0) := hR.cell 1
  have r2 : w9.cell? ⟨w.heap.size, 2, none⟩ = some (.int .i64 6400) := hR.cell 2
  have r3 : w9.cell? ⟨w.heap.size, 3, none⟩ = some (.int .i64 6400) := hR.cell 3
  go_wp2_with (first | (first | refine stop_load 28 _ rfl rfl ?_ | refine stop_store 28 _ _ rfl rfl ?_) | (first | refine stop_load 35 _ rfl rfl ?_ | refine stop_store 35 _ _ rfl rfl ?_))
  refine ⟨?_⟩
  refine wl_load rfl 28 _ rfl _ rfl _ _ _ hS rfl rfl (info_style' _) ?_
  (try simp only [Act.put, List.setIfInBounds_toArray, List.set_cons_zero, List.set_cons_succ])
  go_wp2_with (first | (first | refine stop_load 28 _ rfl rfl ?_ | refine stop_store 28 _ _ rfl rfl ?_) | (first | refine stop_load 35 _ rfl rfl ?_ | refine stop_store 35 _ _ rfl rfl ?_))
  refine (place_Across nS4 0 0 6400 6400 0 0 0 _ one_nS4).mono ?_
  rw [nX4_is]
  rintro e w10 ⟨rfl, hb⟩
  replace hR := hR.below hb hR.lt
  replace hS := hS.below hb hS.lt
  replace hg := hg.trans (hb.mono hg.size)
  clear hb
  clear r0 r1 r2 r3 hS
  go_wp2_with (first | (first | refine stop_load 28 _ rfl rfl ?_ | refine stop_store 28 _ _ rfl rfl ?_) | (first | refine stop_load 35 _ rfl rfl ?_ | refine stop_store 35 _ _ rfl rfl ?_))
  refine ⟨?_⟩
  refine wl_store rfl 35 _ _ rfl w10.heap.size (nS4.aframe 6400 0 0).arr rfl rfl 35 Fr.zero.arr (Blk.new _ _ _) rfl (info_frame _) (frame_one _) ?_
  intro w11 hF hc
  have lthRg := hR.lt
  replace hR := (hR.alloc _).chg hc (by omega)
  have leg := hg.size
  replace hg : Below w.heap.size w w11 := (hg.alloc hg.size _).trans (hc.below hg.size)
  clear hc
  generalize w10.heap.size = g at *
  (try simp only [Act.put, List.setIfInBounds_toArray, List.set_cons_zero, List.set_cons_succ])
  have r0 : w11.cell? ⟨w.heap.size, 0, none⟩ = some (.int .i64 0) := hR.cell 0
  have r1 : w11.cell? ⟨w.heap.size, 1, none⟩ = some (.int .i64 0) := hR.cell 1
  have r2 : w11.cell? ⟨w.heap.size, 2, none⟩ = some (.int .i64 6400) := hR.cell 2
  have r3 : w11.cell? ⟨w.heap.size, 3, none⟩ = some (.int .i64 6400) := hR.cell 3
  go_wp2_with (first | (first | refine stop_load 28 _ rfl rfl ?_ | refine stop_store 28 _ _ rfl rfl ?_) | (first | refine stop_load 35 _ rfl rfl ?_ | refine stop_store 35 _ _ rfl rfl ?_))
  refine (place_Across Sty.zero 0 0 6400 6400 100 10 20 _ one_zero).mono ?_
  rw [nX5_is]
  rintro e w12 ⟨rfl, hb⟩
  replace hR := hR.below hb hR.lt
  replace hF := hF.below hb hF.lt
  replace hg := hg.trans (hb.mono hg.size)
  clear hb
  clear r0 r1 r2 r3
  go_wp2_with (first | (first | refine stop_load 28 _ rfl rfl ?_ | refine stop_store 28 _ _ rfl rfl ?_) | (first | refine stop_load 35 _ rfl rfl ?_ | refine stop_store 35 _ _ rfl rfl ?_))
  refine ⟨?_⟩
  refine wl_store rfl 35 _ _ rfl w12.heap.size (Sty.zero.aframe 6400 10 20).arr rfl rfl 35 Fr.zero.arr (Blk.new _ _ _) rfl (info_frame _) (frame_one _) ?_
  intro w13 hG hc
  have lthRq := hR.lt
  have lthFq := hF.lt
  replace hR := (hR.alloc _).chg hc (by omega)
  replace hF := (hF.alloc _).chg hc (by omega)
  have leq := hg.size
  replace hg : Below w.heap.size w w13 := (hg.alloc hg.size _).trans (hc.below hg.size)
  clear hc
  generalize w12.heap.size = q at *
  (try simp only [Act.put, List.setIfInBounds_toArray, List.set_cons_zero, List.set_cons_succ])
  go_wp2_with (first | (first | refine stop_load 28 _ rfl rfl ?_ | refine stop_store 28 _ _ rfl rfl ?_) | (first | refine stop_load 35 _ rfl rfl ?_ | refine stop_store 35 _ _ rfl rfl ?_))
  have hS : ∀ W, (Below w.heap.size w W ∧ Blk W w.heap.size 48 #[.int .i64 0, .int .i64 0, .int .i64 6400, .int .i64 6400] ∧ Blk W g 35 (nS4.aframe 6400 0 0).arr ∧ Blk W q 35 (Sty.zero.aframe 6400 10 20).arr) → (fun W => (Below w.heap.size w W ∧ Blk W w.heap.size 48 #[.int .i64 0, .int .i64 0, .int .i64 6400, .int .i64 6400] ∧ Blk W g 35 (nS4.aframe 6400 0 0).arr ∧ Blk W q 35 (Sty.zero.aframe 6400 10 20).arr) ∧ W.cell? ⟨w.heap.size, 0, none⟩ = some (.int .i64 0) ∧ W.cell? ⟨w.heap.size, 1, none⟩ = some (.int .i64 0) ∧ W.cell? ⟨w.heap.size, 2, none⟩ = some (.int .i64 6400) ∧ W.cell? ⟨w.heap.size, 3, none⟩ = some (.int .i64 6400)) W := fun W h => ⟨h, h.2.1.cell 0, h.2.1.cell 1, h.2.1.cell 2, h.2.1.cell 3⟩
  refine wp_region_noPanic ?_
  refine Ord.region_ord (S := fun W => (Below w.heap.size w W ∧ Blk W w.heap.size 48 #[.int .i64 0, .int .i64 0, .int .i64 6400, .int .i64 6400] ∧ Blk W g 35 (nS4.aframe 6400 0 0).arr ∧ Blk W q 35 (Sty.zero.aframe 6400 10 20).arr) ∧ W.cell? ⟨w.heap.size, 0, none⟩ = some (.int .i64 0) ∧ W.cell? ⟨w.heap.size, 1, none⟩ = some (.int .i64 0) ∧ W.cell? ⟨w.heap.size, 2, none⟩ = some (.int .i64 6400) ∧ W.cell? ⟨w.heap.size, 3, none⟩ = some (.int .i64 6400)) [(1, true), (2, true), (3, true), (6, true), (7, true), (0, false), (4, true), (5, true), (8, false), (9, true), (10, true), (11, true), (12, true), (13, true)] (by kernel_rfl) (by kernel_rfl) (by kernel_rfl) (by decide) (fun _ _ _ _ _ h => h) (hS _ ⟨hg.drew, hR.drew, hF.drew, hG.drew⟩) (fun hS0 => ?_)
  simp only [Ord.lay, List.getElem?_cons_zero, List.getElem?_cons_succ]
  (refine Ord.take (v := ?_) (Or.inl ⟨rfl, ?_⟩) ?_; rotate_left; (intro w hSw; (try dsimp only at hSw); go_simp; try (with_reducible rfl)); (try simp only [Act.put, List.setIfInBounds_toArray, List.set_cons_zero, List.set_cons_succ]))
  (refine Ord.take (v := ?_) (Or.inl ⟨rfl, ?_⟩) ?_; rotate_left; (intro w hSw; (try dsimp only at hSw); go_simp; try (with_reducible rfl)); (try simp only [Act.put, List.setIfInBounds_toArray, List.set_cons_zero, List.set_cons_succ]))
  (refine Ord.take (v := ?_) (Or.inl ⟨rfl, ?_⟩) ?_; rotate_left; (intro w hSw; (try dsimp only at hSw); go_simp; try (with_reducible rfl)); (try simp only [Act.put, List.setIfInBounds_toArray, List.set_cons_zero, List.set_cons_succ]))
  (refine Ord.take (v := ?_) (Or.inl ⟨rfl, ?_⟩) ?_; rotate_left; (intro w hSw; (try dsimp only at hSw); go_simp; try (with_reducible rfl)); (try simp only [Act.put, List.setIfInBounds_toArray, List.set_cons_zero, List.set_cons_succ]))
  (refine Ord.take (v := ?_) (Or.inl ⟨rfl, ?_⟩) ?_; rotate_left; (intro w hSw; (try dsimp only at hSw); go_simp; try (with_reducible rfl)); (try simp only [Act.put, List.setIfInBounds_toArray, List.set_cons_zero, List.set_cons_succ]))
  refine Ord.alone rfl (fun K hK => ?_)
  go_simp
  refine (law20_units 5 _).mono ?_
  rintro e v1 ⟨rfl, hb⟩
  have hS1 := hS v1 ⟨hS0.1.1.trans (hb.mono hS0.1.1.size), hS0.1.2.1.below hb hS0.1.2.1.lt, hS0.1.2.2.1.below hb hS0.1.2.2.1.lt, hS0.1.2.2.2.below hb hS0.1.2.2.2.lt⟩
  go_wp2_with fail
  refine hK.out _ _ hS1 (fun _ => ?_)
  clear hK K hb hS0
  (try simp only [Act.put, List.setIfInBounds_toArray, List.set_cons_zero, List.set_cons_succ])
  (refine Ord.take (v := ?_) (Or.inl ⟨rfl, ?_⟩) ?_; rotate_left; (intro w hSw; (try dsimp only at hSw); go_simp; try (with_reducible rfl)); (try simp only [Act.put, List.setIfInBounds_toArray, List.set_cons_zero, List.set_cons_succ]))
  (refine Ord.take (v := ?_) (Or.inl ⟨rfl, ?_⟩) ?_; rotate_left; (intro w hSw; (try dsimp only at hSw); go_simp; try (with_reducible rfl)); (try simp only [Act.put, List.setIfInBounds_toArray, List.set_cons_zero, List.set_cons_succ]))
  refine Ord.alone rfl (fun K hK => ?_)
  go_simp
  refine (place_Down nS6 0 0 6400 6400 9 77 Fr.zero _).mono ?_
  rw [nDh_is, nDy_is]
  rintro e v2 ⟨rfl, hb⟩
  have hS2 := hS v2 ⟨hS1.1.1.trans (hb.mono hS1.1.1.size), hS1.1.2.1.below hb hS1.1.2.1.lt, hS1.1.2.2.1.below hb hS1.1.2.2.1.lt, hS1.1.2.2.2.below hb hS1.1.2.2.2.lt⟩
  go_wp2_with fail
  refine hK.out _ _ hS2 (fun _ => ?_)
  clear hK K hb hS1
  (try simp only [Act.put, List.setIfInBounds_toArray, List.set_cons_zero, List.set_cons_succ])
  (refine Ord.take (v := ?_) (Or.inl ⟨rfl, ?_⟩) ?_; rotate_left; (intro w hSw; (try dsimp only at hSw); go_simp; try (with_reducible rfl)); (try simp only [Act.put, List.setIfInBounds_toArray, List.set_cons_zero, List.set_cons_succ]))
  (refine Ord.take (v := ?_) (Or.inl ⟨rfl, ?_⟩) ?_; rotate_left; (intro w hSw; (try dsimp only at hSw); go_simp; try (with_reducible rfl)); (try simp only [Act.put, List.setIfInBounds_toArray, List.set_cons_zero, List.set_cons_succ]))
  (refine Ord.take (v := ?_) (Or.inl ⟨rfl, ?_⟩) ?_; rotate_left; (intro w hSw; (try dsimp only at hSw); go_simp; try (with_reducible rfl)); (try simp only [Act.put, List.setIfInBounds_toArray, List.set_cons_zero, List.set_cons_succ]))
  (refine Ord.take (v := ?_) (Or.inl ⟨rfl, ?_⟩) ?_; rotate_left; (intro w hSw; (try dsimp only at hSw); go_simp; try (with_reducible rfl)); (try simp only [Act.put, List.setIfInBounds_toArray, List.set_cons_zero, List.set_cons_succ]))
  (refine Ord.take (v := ?_) (Or.inl ⟨rfl, ?_⟩) ?_; rotate_left; (intro w hSw; (try dsimp only at hSw); go_simp; try (with_reducible rfl)); (try simp only [Act.put, List.setIfInBounds_toArray, List.set_cons_zero, List.set_cons_succ]))
  refine Ord.done (NoPanic.normal ?_)
  obtain ⟨⟨hg, -, hF, hG⟩, -⟩ := hS2
  clear hS hR
  go_wp2_with (first | (first | refine stop_load 28 _ rfl rfl ?_ | refine stop_store 28 _ _ rfl rfl ?_) | (first | refine stop_load 35 _ rfl rfl ?_ | refine stop_store 35 _ _ rfl rfl ?_))
  refine (place_Shift Sty.zero 9 9 true _).mono ?_
  rw [nSh_is]
  rintro e v3 ⟨rfl, hb⟩
  replace hF := hF.below hb hF.lt
  replace hG := hG.below hb hG.lt
  replace hg := hg.trans (hb.mono hg.size)
  clear hb
  have c12 : v3.cell? ⟨g, 12, none⟩ = some (.int .i64 6272) := (hF.cell 12).trans (by simp [Fr.arr, nW4_is])
  have d12 : v3.cell? ⟨q, 12, none⟩ = some (.int .i64 20) := (hG.cell 12).trans (by simp [Fr.arr, nW5_is])
  clear hF hG
  go_wp2_with (first | (first | refine stop_load 28 _ rfl rfl ?_ | refine stop_store 28 _ _ rfl rfl ?_) | (first | refine stop_load 35 _ rfl rfl ?_ | refine stop_store 35 _ _ rfl rfl ?_))
  refine (law20_known _).mono ?_
  rintro e v4 ⟨rfl, hb⟩
  replace hg := hg.trans (hb.mono hg.size)
  clear hb
  go_wp2_with fail
  go_returns
  exact ⟨rfl, hg⟩
end Go.Proofs.Ytkkabnkhdhlhkaa
