/-
  The walks of casementref16.Padding, Border, Inner.
-/
import Derived.Test.YtkkabnkhdhlhkaaRefA
namespace Go.Proofs.Ytkkabnkhdhlhkaa
open Go.RowKit Num Mem Opn
set_option linter.unusedVariables false
set_option linter.unusedSimpArgs false
namespace Num
def Sty.rpad0 (s : Sty) (room : Int) : Sd := fours s.p0k s.p0n s.p1k s.p1n s.p2k s.p2n s.p3k s.p3n room
end Num
set_option maxRecDepth 100000 in
set_option maxHeartbeats 2000000 in
theorem ref_Padding (s : Sty) (room : Int) (w : World) : Calls Try.prog 52 #[.agg s.arr, .int .i64 room] w fun e w' => e = .returned (.agg (s.padding room).arr) ∧ Below w.heap.size w w' := by
  have hS : Blk ((w.alloc (.cells s.arr 28)).alloc (.cells Sd.zero.arr 56)) w.heap.size 28 s.arr := (Blk.new _ _ _).alloc _
  have hR : Blk ((w.alloc (.cells s.arr 28)).alloc (.cells Sd.zero.arr 56)) (w.heap.size + 1) 56 Sd.zero.arr := Blk.newAt _ _ _ (by simp)
  have hg : Below w.heap.size w ((w.alloc (.cells s.arr 28)).alloc (.cells Sd.zero.arr 56)) := by go_grown
  go_enter Try.func52, Try.ntmps52
  go_upto_region 1 with fail
  refine wp_forget (fun W => Below w.heap.size w W ∧ Blk W w.heap.size 28 s.arr ∧ Blk W (w.heap.size + 1) 56 Sd.zero.arr) ⟨hg, hS, hR⟩ ?_
  clear hg hS hR
  rintro w0 ⟨hg, hS, hR⟩
  have c0 : w0.cell? ⟨w.heap.size, 16, none⟩ = some (.int .i64 s.p0k) := hS.cell 16
  have c1 : w0.cell? ⟨w.heap.size, 17, none⟩ = some (.int .i64 s.p0n) := hS.cell 17
  have c2 : w0.cell? ⟨w.heap.size, 18, none⟩ = some (.int .i64 s.p1k) := hS.cell 18
  have c3 : w0.cell? ⟨w.heap.size, 19, none⟩ = some (.int .i64 s.p1n) := hS.cell 19
  have c4 : w0.cell? ⟨w.heap.size, 20, none⟩ = some (.int .i64 s.p2k) := hS.cell 20
  have c5 : w0.cell? ⟨w.heap.size, 21, none⟩ = some (.int .i64 s.p2n) := hS.cell 21
  have c6 : w0.cell? ⟨w.heap.size, 22, none⟩ = some (.int .i64 s.p3k) := hS.cell 22
  have c7 : w0.cell? ⟨w.heap.size, 23, none⟩ = some (.int .i64 s.p3n) := hS.cell 23
  go_wp2_with (first | (first | refine stop_load 56 _ rfl rfl ?_ | refine stop_store 56 _ _ rfl rfl ?_))
  refine (ref_four s.p0k s.p0n s.p1k s.p1n s.p2k s.p2n s.p3k s.p3n room _).mono ?_
  rintro e w1 ⟨rfl, hb⟩
  replace hR := hR.below hb hR.lt
  replace hg := hg.trans (hb.mono hg.size)
  clear hb hS c0 c1 c2 c3 c4 c5 c6 c7
  go_wp2_with (first | (first | refine stop_load 56 _ rfl rfl ?_ | refine stop_store 56 _ _ rfl rfl ?_))
  refine ⟨?_⟩
  refine wl_store rfl 56 _ _ rfl w1.heap.size (s.rpad0 room).arr rfl rfl 56 Sd.zero.arr (Blk.new _ _ _) rfl (info_sd _) (sd_one _) ?_
  intro w2 hX hc
  have lt := hR.lt
  replace hR := (hR.alloc _).chg hc (by omega)
  replace hg : Below w.heap.size w w2 := (hg.alloc hg.size _).trans (hc.below hg.size)
  clear hc
  generalize w1.heap.size = g at *
  (try simp only [Act.put, List.setIfInBounds_toArray, List.set_cons_zero, List.set_cons_succ])
  go_upto_region 2 with fail
  have hS : ∀ W, (Below w.heap.size w W ∧ Blk W (w.heap.size + 1) 56 Sd.zero.arr ∧ Blk W g 56 (s.rpad0 room).arr) → (fun W => (Below w.heap.size w W ∧ Blk W (w.heap.size + 1) 56 Sd.zero.arr ∧ Blk W g 56 (s.rpad0 room).arr) ∧ W.cell? ⟨g, 0, none⟩ = some (.int .i64 (s.rpad0 room).t) ∧ W.cell? ⟨g, 1, none⟩ = some (.int .i64 (s.rpad0 room).r) ∧ W.cell? ⟨g, 2, none⟩ = some (.int .i64 (s.rpad0 room).b) ∧ W.cell? ⟨g, 3, none⟩ = some (.int .i64 (s.rpad0 room).l)) W := fun W h => ⟨h, h.2.2.cell 0, h.2.2.cell 1, h.2.2.cell 2, h.2.2.cell 3⟩
  refine wp_region_noPanic ?_
  refine Ord.region_M (S := fun W => (Below w.heap.size w W ∧ Blk W (w.heap.size + 1) 56 Sd.zero.arr ∧ Blk W g 56 (s.rpad0 room).arr) ∧ W.cell? ⟨g, 0, none⟩ = some (.int .i64 (s.rpad0 room).t) ∧ W.cell? ⟨g, 1, none⟩ = some (.int .i64 (s.rpad0 room).r) ∧ W.cell? ⟨g, 2, none⟩ = some (.int .i64 (s.rpad0 room).b) ∧ W.cell? ⟨g, 3, none⟩ = some (.int .i64 (s.rpad0 room).l)) 13 (.one 0 true (.one 1 true (.one 3 true (.one 4 true (.one 6 true (.one 7 true (.one 9 true (.one 10 true (.one 2 false (.one 5 false (.one 8 false (.one 11 false (.one 12 true (.one 13 false (.nil))))))))))))))) (by kernel_rfl) (by kernel_rfl) (by kernel_rfl) (by kernel_rfl) (by decide) (fun _ _ _ _ _ h => h) (hS _ ⟨hg.drew, hR.drew, hX.drew⟩) (fun hS0 => ?_)
  simp only [Ord.layT, List.getElem?_cons_zero, List.getElem?_cons_succ]
  (refine Ord.takeM (v := ?_) (Or.inl ⟨rfl, ?_⟩) ?_; rotate_left; (intro w hSw; (try dsimp only at hSw); go_simp; try (with_reducible rfl)); (try simp only [Act.put, List.setIfInBounds_toArray, List.set_cons_zero, List.set_cons_succ]))
  (refine Ord.takeM (v := ?_) (Or.inl ⟨rfl, ?_⟩) ?_; rotate_left; (intro w hSw; (try dsimp only at hSw); go_simp; try (with_reducible rfl)); (try simp only [Act.put, List.setIfInBounds_toArray, List.set_cons_zero, List.set_cons_succ]))
  (refine Ord.takeM (v := ?_) (Or.inl ⟨rfl, ?_⟩) ?_; rotate_left; (intro w hSw; (try dsimp only at hSw); go_simp; try (with_reducible rfl)); (try simp only [Act.put, List.setIfInBounds_toArray, List.set_cons_zero, List.set_cons_succ]))
  (refine Ord.takeM (v := ?_) (Or.inl ⟨rfl, ?_⟩) ?_; rotate_left; (intro w hSw; (try dsimp only at hSw); go_simp; try (with_reducible rfl)); (try simp only [Act.put, List.setIfInBounds_toArray, List.set_cons_zero, List.set_cons_succ]))
  (refine Ord.takeM (v := ?_) (Or.inl ⟨rfl, ?_⟩) ?_; rotate_left; (intro w hSw; (try dsimp only at hSw); go_simp; try (with_reducible rfl)); (try simp only [Act.put, List.setIfInBounds_toArray, List.set_cons_zero, List.set_cons_succ]))
  (refine Ord.takeM (v := ?_) (Or.inl ⟨rfl, ?_⟩) ?_; rotate_left; (intro w hSw; (try dsimp only at hSw); go_simp; try (with_reducible rfl)); (try simp only [Act.put, List.setIfInBounds_toArray, List.set_cons_zero, List.set_cons_succ]))
  (refine Ord.takeM (v := ?_) (Or.inl ⟨rfl, ?_⟩) ?_; rotate_left; (intro w hSw; (try dsimp only at hSw); go_simp; try (with_reducible rfl)); (try simp only [Act.put, List.setIfInBounds_toArray, List.set_cons_zero, List.set_cons_succ]))
  (refine Ord.takeM (v := ?_) (Or.inl ⟨rfl, ?_⟩) ?_; rotate_left; (intro w hSw; (try dsimp only at hSw); go_simp; try (with_reducible rfl)); (try simp only [Act.put, List.setIfInBounds_toArray, List.set_cons_zero, List.set_cons_succ]))
  refine Ord.aloneM rfl rfl (fun K hK => ?_)
  go_simp
  refine (ref_Up _ _).mono ?_
  rintro e w' ⟨rfl, rfl⟩
  go_wp2_with fail
  refine hK.out _ _ hS0 (fun _ => ?_)
  clear hK K
  (try simp only [Act.put, List.setIfInBounds_toArray, List.set_cons_zero, List.set_cons_succ])
  refine Ord.aloneM rfl rfl (fun K hK => ?_)
  go_simp
  refine (ref_Up _ _).mono ?_
  rintro e w' ⟨rfl, rfl⟩
  go_wp2_with fail
  refine hK.out _ _ hS0 (fun _ => ?_)
  clear hK K
  (try simp only [Act.put, List.setIfInBounds_toArray, List.set_cons_zero, List.set_cons_succ])
  refine Ord.aloneM rfl rfl (fun K hK => ?_)
  go_simp
  refine (ref_Up _ _).mono ?_
  rintro e w' ⟨rfl, rfl⟩
  go_wp2_with fail
  refine hK.out _ _ hS0 (fun _ => ?_)
  clear hK K
  (try simp only [Act.put, List.setIfInBounds_toArray, List.set_cons_zero, List.set_cons_succ])
  refine Ord.aloneM rfl rfl (fun K hK => ?_)
  go_simp
  refine (ref_Up _ _).mono ?_
  rintro e w' ⟨rfl, rfl⟩
  go_wp2_with fail
  refine hK.out _ _ hS0 (fun _ => ?_)
  clear hK K
  (try simp only [Act.put, List.setIfInBounds_toArray, List.set_cons_zero, List.set_cons_succ])
  (refine Ord.takeM (v := ?_) (Or.inl ⟨rfl, ?_⟩) ?_; rotate_left; (intro w hSw; (try dsimp only at hSw); go_simp; try (with_reducible rfl)); (try simp only [Act.put, List.setIfInBounds_toArray, List.set_cons_zero, List.set_cons_succ]))
  refine Ord.lastM rfl rfl (fun K hK => ?_)
  refine wp_store_row 56 _ _ rfl (w.heap.size + 1) (s.padding room).arr rfl rfl 56 Sd.zero.arr hS0.1.2.1 rfl (info_sd _) (sd_one _) ?_
  intro w9 hQ hc
  have hg9 := hS0.1.1.trans (hc.below (by omega))
  (try simp only [Act.put, List.setIfInBounds_toArray, List.set_cons_zero, List.set_cons_succ])
  refine hK.out _ _ ?_
  clear hK K hS0 hS hc hg hR hX
  refine Ord.doneM (NoPanic.normal ?_)
  go_wp2_with fail
  refine bodyPost_ret (results_row 4 56 _ rfl rfl hQ _ rfl rfl (info_sd _)) rfl ?_
  exact ⟨rfl, hg9⟩
set_option maxRecDepth 100000 in
set_option maxHeartbeats 2000000 in
theorem ref_Border (s : Sty) (w : World) : Calls Try.prog 53 #[.agg s.arr] w fun e w' => e = .returned (.agg s.border.arr) ∧ Below w.heap.size w w' := by
  have hS0 : Blk ((w.alloc (.cells s.arr 28)).alloc (.cells Sd.zero.arr 56)) w.heap.size 28 s.arr := (Blk.new _ _ _).alloc _
  have hR : Blk ((w.alloc (.cells s.arr 28)).alloc (.cells Sd.zero.arr 56)) (w.heap.size + 1) 56 Sd.zero.arr := Blk.newAt _ _ _ (by simp)
  have hg : Below w.heap.size w ((w.alloc (.cells s.arr 28)).alloc (.cells Sd.zero.arr 56)) := by go_grown
  go_enter Try.func53, Try.ntmps53
  go_upto_region 1 with fail
  refine wp_forget (fun W => Below w.heap.size w W ∧ Blk W w.heap.size 28 s.arr ∧ Blk W (w.heap.size + 1) 56 Sd.zero.arr) ⟨hg, hS0, hR⟩ ?_
  clear hg hS0 hR
  rintro w0 ⟨hg, hT, hR⟩
  have hS : ∀ W, (Below w.heap.size w W ∧ Blk W w.heap.size 28 s.arr ∧ Blk W (w.heap.size + 1) 56 Sd.zero.arr) → (fun W => (Below w.heap.size w W ∧ Blk W w.heap.size 28 s.arr ∧ Blk W (w.heap.size + 1) 56 Sd.zero.arr) ∧ W.cell? ⟨w.heap.size, 32, none⟩ = some (.int .i64 s.b0) ∧ W.cell? ⟨w.heap.size, 33, none⟩ = some (.int .i64 s.b1) ∧ W.cell? ⟨w.heap.size, 34, none⟩ = some (.int .i64 s.b2) ∧ W.cell? ⟨w.heap.size, 35, none⟩ = some (.int .i64 s.b3)) W := fun W h => ⟨h, h.2.1.cell 32, h.2.1.cell 33, h.2.1.cell 34, h.2.1.cell 35⟩
  refine wp_region_noPanic ?_
  refine Ord.region_M (S := fun W => (Below w.heap.size w W ∧ Blk W w.heap.size 28 s.arr ∧ Blk W (w.heap.size + 1) 56 Sd.zero.arr) ∧ W.cell? ⟨w.heap.size, 32, none⟩ = some (.int .i64 s.b0) ∧ W.cell? ⟨w.heap.size, 33, none⟩ = some (.int .i64 s.b1) ∧ W.cell? ⟨w.heap.size, 34, none⟩ = some (.int .i64 s.b2) ∧ W.cell? ⟨w.heap.size, 35, none⟩ = some (.int .i64 s.b3)) 17 (.one 0 true (.one 1 true (.one 2 true (.one 4 true (.one 5 true (.one 6 true (.one 8 true (.one 9 true (.one 10 true (.one 12 true (.one 13 true (.one 14 true (.one 3 false (.one 7 false (.one 11 false (.one 15 false (.one 16 true (.one 17 false (.nil))))))))))))))))))) (by kernel_rfl) (by kernel_rfl) (by kernel_rfl) (by kernel_rfl) (by decide) (fun _ _ _ _ _ h => h) (hS _ ⟨hg.drew, hT.drew, hR.drew⟩) (fun hS0 => ?_)
  simp only [Ord.layT, List.getElem?_cons_zero, List.getElem?_cons_succ]
  (refine Ord.takeM (v := ?_) (Or.inl ⟨rfl, ?_⟩) ?_; rotate_left; (intro w hSw; (try dsimp only at hSw); go_simp; try (with_reducible rfl)); (try simp only [Act.put, List.setIfInBounds_toArray, List.set_cons_zero, List.set_cons_succ]))
  (refine Ord.takeM (v := ?_) (Or.inl ⟨rfl, ?_⟩) ?_; rotate_left; (intro w hSw; (try dsimp only at hSw); go_simp; try (with_reducible rfl)); (try simp only [Act.put, List.setIfInBounds_toArray, List.set_cons_zero, List.set_cons_succ]))
  (refine Ord.takeM (v := ?_) (Or.inl ⟨rfl, ?_⟩) ?_; rotate_left; (intro w hSw; (try dsimp only at hSw); go_simp; try (with_reducible rfl)); (try simp only [Act.put, List.setIfInBounds_toArray, List.set_cons_zero, List.set_cons_succ]))
  (refine Ord.takeM (v := ?_) (Or.inl ⟨rfl, ?_⟩) ?_; rotate_left; (intro w hSw; (try dsimp only at hSw); go_simp; try (with_reducible rfl)); (try simp only [Act.put, List.setIfInBounds_toArray, List.set_cons_zero, List.set_cons_succ]))
  (refine Ord.takeM (v := ?_) (Or.inl ⟨rfl, ?_⟩) ?_; rotate_left; (intro w hSw; (try dsimp only at hSw); go_simp; try (with_reducible rfl)); (try simp only [Act.put, List.setIfInBounds_toArray, List.set_cons_zero, List.set_cons_succ]))
  (refine Ord.takeM (v := ?_) (Or.inl ⟨rfl, ?_⟩) ?_; rotate_left; (intro w hSw; (try dsimp only at hSw); go_simp; try (with_reducible rfl)); (try simp only [Act.put, List.setIfInBounds_toArray, List.set_cons_zero, List.set_cons_succ]))
  (refine Ord.takeM (v := ?_) (Or.inl ⟨rfl, ?_⟩) ?_; rotate_left; (intro w hSw; (try dsimp only at hSw); go_simp; try (with_reducible rfl)); (try simp only [Act.put, List.setIfInBounds_toArray, List.set_cons_zero, List.set_cons_succ]))
  (refine Ord.takeM (v := ?_) (Or.inl ⟨rfl, ?_⟩) ?_; rotate_left; (intro w hSw; (try dsimp only at hSw); go_simp; try (with_reducible rfl)); (try simp only [Act.put, List.setIfInBounds_toArray, List.set_cons_zero, List.set_cons_succ]))
  (refine Ord.takeM (v := ?_) (Or.inl ⟨rfl, ?_⟩) ?_; rotate_left; (intro w hSw; (try dsimp only at hSw); go_simp; try (with_reducible rfl)); (try simp only [Act.put, List.setIfInBounds_toArray, List.set_cons_zero, List.set_cons_succ]))
  (refine Ord.takeM (v := ?_) (Or.inl ⟨rfl, ?_⟩) ?_; rotate_left; (intro w hSw; (try dsimp only at hSw); go_simp; try (with_reducible rfl)); (try simp only [Act.put, List.setIfInBounds_toArray, List.set_cons_zero, List.set_cons_succ]))
  (refine Ord.takeM (v := ?_) (Or.inl ⟨rfl, ?_⟩) ?_; rotate_left; (intro w hSw; (try dsimp only at hSw); go_simp; try (with_reducible rfl)); (try simp only [Act.put, List.setIfInBounds_toArray, List.set_cons_zero, List.set_cons_succ]))
  (refine Ord.takeM (v := ?_) (Or.inl ⟨rfl, ?_⟩) ?_; rotate_left; (intro w hSw; (try dsimp only at hSw); go_simp; try (with_reducible rfl)); (try simp only [Act.put, List.setIfInBounds_toArray, List.set_cons_zero, List.set_cons_succ]))
  refine Ord.aloneM rfl rfl (fun K hK => ?_)
  go_simp
  refine (ref_Up _ _).mono ?_
  rintro e w' ⟨rfl, rfl⟩
  go_wp2_with fail
  refine hK.out _ _ hS0 (fun _ => ?_)
  clear hK K
  (try simp only [Act.put, List.setIfInBounds_toArray, List.set_cons_zero, List.set_cons_succ])
  refine Ord.aloneM rfl rfl (fun K hK => ?_)
  go_simp
  refine (ref_Up _ _).mono ?_
  rintro e w' ⟨rfl, rfl⟩
  go_wp2_with fail
  refine hK.out _ _ hS0 (fun _ => ?_)
  clear hK K
  (try simp only [Act.put, List.setIfInBounds_toArray, List.set_cons_zero, List.set_cons_succ])
  refine Ord.aloneM rfl rfl (fun K hK => ?_)
  go_simp
  refine (ref_Up _ _).mono ?_
  rintro e w' ⟨rfl, rfl⟩
  go_wp2_with fail
  refine hK.out _ _ hS0 (fun _ => ?_)
  clear hK K
  (try simp only [Act.put, List.setIfInBounds_toArray, List.set_cons_zero, List.set_cons_succ])
  refine Ord.aloneM rfl rfl (fun K hK => ?_)
  go_simp
  refine (ref_Up _ _).mono ?_
  rintro e w' ⟨rfl, rfl⟩
  go_wp2_with fail
  refine hK.out _ _ hS0 (fun _ => ?_)
  clear hK K
  (try simp only [Act.put, List.setIfInBounds_toArray, List.set_cons_zero, List.set_cons_succ])
  (refine Ord.takeM (v := ?_) (Or.inl ⟨rfl, ?_⟩) ?_; rotate_left; (intro w hSw; (try dsimp only at hSw); go_simp; try (with_reducible rfl)); (try simp only [Act.put, List.setIfInBounds_toArray, List.set_cons_zero, List.set_cons_succ]))
  refine Ord.lastM rfl rfl (fun K hK => ?_)
  refine wp_store_row 56 _ _ rfl (w.heap.size + 1) s.border.arr rfl rfl 56 Sd.zero.arr hS0.1.2.2 rfl (info_sd _) (sd_one _) ?_
  intro w9 hQ hc
  have hg9 := hS0.1.1.trans (hc.below (by omega))
  (try simp only [Act.put, List.setIfInBounds_toArray, List.set_cons_zero, List.set_cons_succ])
  refine hK.out _ _ ?_
  clear hK K hS0 hS hc hg hR hT
  refine Ord.doneM (NoPanic.normal ?_)
  go_wp2_with fail
  refine bodyPost_ret (results_row 2 56 _ rfl rfl hQ _ rfl rfl (info_sd _)) rfl ?_
  exact ⟨rfl, hg9⟩
end Go.Proofs.Ytkkabnkhdhlhkaa
