/-
  The walk of casementref16.Inner.
-/
import Derived.Test.YtkkabnkhdhlhkaaRefB
namespace Go.Proofs.Ytkkabnkhdhlhkaa
open Go.RowKit Num Mem Opn
set_option linter.unusedVariables false
set_option linter.unusedSimpArgs false
set_option maxRecDepth 100000 in
set_option maxHeartbeats 2000000 in
theorem ref_Inner (f : Fr) (w : World) : Calls Try.prog 54 #[.agg f.arr] w fun e w' => e = .returned (.tuple #[.int .i64 f.racross, .int .i64 f.rdown]) ∧ Below w.heap.size w w' := by
  have hT : Blk (w.alloc (.cells f.arr 58)) w.heap.size 58 f.arr := Blk.new _ _ _
  have hg : Below w.heap.size w (w.alloc (.cells f.arr 58)) := by go_grown
  go_enter Try.func54, Try.ntmps54
  go_upto_region 1 with fail
  refine wp_forget (fun W => Below w.heap.size w W ∧ Blk W w.heap.size 58 f.arr) ⟨hg, hT⟩ ?_
  clear hg hT
  rintro w0 ⟨hg, hT⟩
  have hS : ∀ W, (Below w.heap.size w W ∧ Blk W w.heap.size 58 f.arr) → (fun W => (Below w.heap.size w W ∧ Blk W w.heap.size 58 f.arr) ∧ W.cell? ⟨w.heap.size, 4, none⟩ = some (.int .i64 f.p.t) ∧ W.cell? ⟨w.heap.size, 5, none⟩ = some (.int .i64 f.p.r) ∧ W.cell? ⟨w.heap.size, 6, none⟩ = some (.int .i64 f.p.b) ∧ W.cell? ⟨w.heap.size, 7, none⟩ = some (.int .i64 f.p.l) ∧ W.cell? ⟨w.heap.size, 8, none⟩ = some (.int .i64 f.b.t) ∧ W.cell? ⟨w.heap.size, 9, none⟩ = some (.int .i64 f.b.r) ∧ W.cell? ⟨w.heap.size, 10, none⟩ = some (.int .i64 f.b.b) ∧ W.cell? ⟨w.heap.size, 11, none⟩ = some (.int .i64 f.b.l)) W := fun W h => ⟨h, h.2.cell 4, h.2.cell 5, h.2.cell 6, h.2.cell 7, h.2.cell 8, h.2.cell 9, h.2.cell 10, h.2.cell 11⟩
  refine wp_region_noPanic ?_
  refine Ord.region_tree (S := fun W => (Below w.heap.size w W ∧ Blk W w.heap.size 58 f.arr) ∧ W.cell? ⟨w.heap.size, 4, none⟩ = some (.int .i64 f.p.t) ∧ W.cell? ⟨w.heap.size, 5, none⟩ = some (.int .i64 f.p.r) ∧ W.cell? ⟨w.heap.size, 6, none⟩ = some (.int .i64 f.p.b) ∧ W.cell? ⟨w.heap.size, 7, none⟩ = some (.int .i64 f.p.l) ∧ W.cell? ⟨w.heap.size, 8, none⟩ = some (.int .i64 f.b.t) ∧ W.cell? ⟨w.heap.size, 9, none⟩ = some (.int .i64 f.b.r) ∧ W.cell? ⟨w.heap.size, 10, none⟩ = some (.int .i64 f.b.b) ∧ W.cell? ⟨w.heap.size, 11, none⟩ = some (.int .i64 f.b.l)) (.one 0 true (.one 1 true (.one 2 true (.one 3 true (.one 4 true (.one 5 true (.one 6 true (.one 7 true (.one 8 true (.one 9 true (.one 10 true (.one 11 true (.one 14 true (.one 15 true (.one 16 true (.one 17 true (.one 18 true (.one 19 true (.one 20 true (.one 21 true (.one 22 true (.one 23 true (.one 24 true (.one 25 true (.two 12 (.two 13 (.one 26 false (.one 27 false (.one 28 true (.one 29 true .nil)))) 26 (.one 13 false (.one 27 false (.one 28 true (.one 29 true .nil))))) 26 (.one 12 false (.one 13 false (.one 27 false (.one 28 true (.one 29 true .nil)))))))))))))))))))))))))))))) (by kernel_rfl) (by kernel_rfl) (by kernel_rfl) (by decide) (fun _ _ _ _ _ h => h) (hS _ ⟨hg.drew, hT.drew⟩) (fun hS0 => ?_)
  simp only [Ord.layT, List.getElem?_cons_zero, List.getElem?_cons_succ]
  (refine Ord.takeT (v := ?_) (Or.inl ⟨rfl, ?_⟩) ?_; rotate_left; (intro w hSw; (try dsimp only at hSw); go_simp; try (with_reducible rfl)); (try simp only [Act.put, List.setIfInBounds_toArray, List.set_cons_zero, List.set_cons_succ]))
  (refine Ord.takeT (v := ?_) (Or.inl ⟨rfl, ?_⟩) ?_; rotate_left; (intro w hSw; (try dsimp only at hSw); go_simp; try (with_reducible rfl)); (try simp only [Act.put, List.setIfInBounds_toArray, List.set_cons_zero, List.set_cons_succ]))
  (refine Ord.takeT (v := ?_) (Or.inl ⟨rfl, ?_⟩) ?_; rotate_left; (intro w hSw; (try dsimp only at hSw); go_simp; try (with_reducible rfl)); (try simp only [Act.put, List.setIfInBounds_toArray, List.set_cons_zero, List.set_cons_succ]))
  (refine Ord.takeT (v := ?_) (Or.inl ⟨rfl, ?_⟩) ?_; rotate_left; (intro w hSw; (try dsimp only at hSw); go_simp; try (with_reducible rfl)); (try simp only [Act.put, List.setIfInBounds_toArray, List.set_cons_zero, List.set_cons_succ]))
  (refine Ord.takeT (v := ?_) (Or.inl ⟨rfl, ?_⟩) ?_; rotate_left; (intro w hSw; (try dsimp only at hSw); go_simp; try (with_reducible rfl)); (try simp only [Act.put, List.setIfInBounds_toArray, List.set_cons_zero, List.set_cons_succ]))
  (refine Ord.takeT (v := ?_) (Or.inl ⟨rfl, ?_⟩) ?_; rotate_left; (intro w hSw; (try dsimp only at hSw); go_simp; try (with_reducible rfl)); (try simp only [Act.put, List.setIfInBounds_toArray, List.set_cons_zero, List.set_cons_succ]))
  (refine Ord.takeT (v := ?_) (Or.inl ⟨rfl, ?_⟩) ?_; rotate_left; (intro w hSw; (try dsimp only at hSw); go_simp; try (with_reducible rfl)); (try simp only [Act.put, List.setIfInBounds_toArray, List.set_cons_zero, List.set_cons_succ]))
  (refine Ord.takeT (v := ?_) (Or.inl ⟨rfl, ?_⟩) ?_; rotate_left; (intro w hSw; (try dsimp only at hSw); go_simp; try (with_reducible rfl)); (try simp only [Act.put, List.setIfInBounds_toArray, List.set_cons_zero, List.set_cons_succ]))
  (refine Ord.takeT (v := ?_) (Or.inl ⟨rfl, ?_⟩) ?_; rotate_left; (intro w hSw; (try dsimp only at hSw); go_simp; try (with_reducible rfl)); (try simp only [Act.put, List.setIfInBounds_toArray, List.set_cons_zero, List.set_cons_succ]))
  (refine Ord.takeT (v := ?_) (Or.inl ⟨rfl, ?_⟩) ?_; rotate_left; (intro w hSw; (try dsimp only at hSw); go_simp; try (with_reducible rfl)); (try simp only [Act.put, List.setIfInBounds_toArray, List.set_cons_zero, List.set_cons_succ]))
  (refine Ord.takeT (v := ?_) (Or.inl ⟨rfl, ?_⟩) ?_; rotate_left; (intro w hSw; (try dsimp only at hSw); go_simp; try (with_reducible rfl)); (try simp only [Act.put, List.setIfInBounds_toArray, List.set_cons_zero, List.set_cons_succ]))
  (refine Ord.takeT (v := ?_) (Or.inl ⟨rfl, ?_⟩) ?_; rotate_left; (intro w hSw; (try dsimp only at hSw); go_simp; try (with_reducible rfl)); (try simp only [Act.put, List.setIfInBounds_toArray, List.set_cons_zero, List.set_cons_succ]))
  (refine Ord.takeT (v := ?_) (Or.inl ⟨rfl, ?_⟩) ?_; rotate_left; (intro w hSw; (try dsimp only at hSw); go_simp; try (with_reducible rfl)); (try simp only [Act.put, List.setIfInBounds_toArray, List.set_cons_zero, List.set_cons_succ]))
  (refine Ord.takeT (v := ?_) (Or.inl ⟨rfl, ?_⟩) ?_; rotate_left; (intro w hSw; (try dsimp only at hSw); go_simp; try (with_reducible rfl)); (try simp only [Act.put, List.setIfInBounds_toArray, List.set_cons_zero, List.set_cons_succ]))
  (refine Ord.takeT (v := ?_) (Or.inl ⟨rfl, ?_⟩) ?_; rotate_left; (intro w hSw; (try dsimp only at hSw); go_simp; try (with_reducible rfl)); (try simp only [Act.put, List.setIfInBounds_toArray, List.set_cons_zero, List.set_cons_succ]))
  (refine Ord.takeT (v := ?_) (Or.inl ⟨rfl, ?_⟩) ?_; rotate_left; (intro w hSw; (try dsimp only at hSw); go_simp; try (with_reducible rfl)); (try simp only [Act.put, List.setIfInBounds_toArray, List.set_cons_zero, List.set_cons_succ]))
  (refine Ord.takeT (v := ?_) (Or.inl ⟨rfl, ?_⟩) ?_; rotate_left; (intro w hSw; (try dsimp only at hSw); go_simp; try (with_reducible rfl)); (try simp only [Act.put, List.setIfInBounds_toArray, List.set_cons_zero, List.set_cons_succ]))
  (refine Ord.takeT (v := ?_) (Or.inl ⟨rfl, ?_⟩) ?_; rotate_left; (intro w hSw; (try dsimp only at hSw); go_simp; try (with_reducible rfl)); (try simp only [Act.put, List.setIfInBounds_toArray, List.set_cons_zero, List.set_cons_succ]))
  (refine Ord.takeT (v := ?_) (Or.inl ⟨rfl, ?_⟩) ?_; rotate_left; (intro w hSw; (try dsimp only at hSw); go_simp; try (with_reducible rfl)); (try simp only [Act.put, List.setIfInBounds_toArray, List.set_cons_zero, List.set_cons_succ]))
  (refine Ord.takeT (v := ?_) (Or.inl ⟨rfl, ?_⟩) ?_; rotate_left; (intro w hSw; (try dsimp only at hSw); go_simp; try (with_reducible rfl)); (try simp only [Act.put, List.setIfInBounds_toArray, List.set_cons_zero, List.set_cons_succ]))
  (refine Ord.takeT (v := ?_) (Or.inl ⟨rfl, ?_⟩) ?_; rotate_left; (intro w hSw; (try dsimp only at hSw); go_simp; try (with_reducible rfl)); (try simp only [Act.put, List.setIfInBounds_toArray, List.set_cons_zero, List.set_cons_succ]))
  (refine Ord.takeT (v := ?_) (Or.inl ⟨rfl, ?_⟩) ?_; rotate_left; (intro w hSw; (try dsimp only at hSw); go_simp; try (with_reducible rfl)); (try simp only [Act.put, List.setIfInBounds_toArray, List.set_cons_zero, List.set_cons_succ]))
  (refine Ord.takeT (v := ?_) (Or.inl ⟨rfl, ?_⟩) ?_; rotate_left; (intro w hSw; (try dsimp only at hSw); go_simp; try (with_reducible rfl)); (try simp only [Act.put, List.setIfInBounds_toArray, List.set_cons_zero, List.set_cons_succ]))
  (refine Ord.takeT (v := ?_) (Or.inl ⟨rfl, ?_⟩) ?_; rotate_left; (intro w hSw; (try dsimp only at hSw); go_simp; try (with_reducible rfl)); (try simp only [Act.put, List.setIfInBounds_toArray, List.set_cons_zero, List.set_cons_succ]))
  refine Ord.twoT rfl rfl rfl rfl (fun K hK => ?_) (fun K hK => ?_)
  · go_simp
    have hS1 := hS ((w0).alloc (.cells #[.int .i64 f.p.l, .int .i64 f.p.r, .int .i64 f.b.l, .int .i64 f.b.r] 2)).drew ⟨(hS0.1.1.alloc hS0.1.1.size (.cells #[.int .i64 f.p.l, .int .i64 f.p.r, .int .i64 f.b.l, .int .i64 f.b.r] 2) : Below w.heap.size w _), hS0.1.2.alloc _⟩
    have hA0 : Blk ((w0).alloc (.cells #[.int .i64 f.p.l, .int .i64 f.p.r, .int .i64 f.b.l, .int .i64 f.b.r] 2)) w0.heap.size 2 #[.int .i64 f.p.l, .int .i64 f.p.r, .int .i64 f.b.l, .int .i64 f.b.r] := Blk.new w0 _ _
    have hA : Blk ((w0).alloc (.cells #[.int .i64 f.p.l, .int .i64 f.p.r, .int .i64 f.b.l, .int .i64 f.b.r] 2)).drew w0.heap.size 2 #[.int .i64 f.p.l, .int .i64 f.p.r, .int .i64 f.b.l, .int .i64 f.b.r] := hA0.drew
    refine hK.out _ _ hS1 (fun _ => ?_)
    clear hK K
    (try simp only [Act.put, List.setIfInBounds_toArray, List.set_cons_zero, List.set_cons_succ])
    refine Ord.twoT rfl rfl rfl rfl (fun K hK => ?_) (fun K hK => ?_)
    · go_simp
      refine (rsum4 (f.p.l) (f.p.r) (f.b.l) (f.b.r) _ _ hA).mono ?_
      rintro e w' ⟨rfl, rfl⟩
      go_wp2_with fail
      refine hK.out _ _ hS1 (fun _ => ?_)
      clear hK K
      (try simp only [Act.put, List.setIfInBounds_toArray, List.set_cons_zero, List.set_cons_succ])
      refine Ord.aloneT rfl rfl (fun K hK => ?_)
      go_simp
      have hS2 := hS ((((w0).alloc (.cells #[.int .i64 f.p.l, .int .i64 f.p.r, .int .i64 f.b.l, .int .i64 f.b.r] 2))).alloc (.cells #[.int .i64 f.p.t, .int .i64 f.p.b, .int .i64 f.b.t, .int .i64 f.b.b] 2)).drew ⟨(hS1.1.1.alloc hS1.1.1.size (.cells #[.int .i64 f.p.t, .int .i64 f.p.b, .int .i64 f.b.t, .int .i64 f.b.b] 2) : Below w.heap.size w _), hS1.1.2.alloc _⟩
      have hB0 : Blk ((((w0).alloc (.cells #[.int .i64 f.p.l, .int .i64 f.p.r, .int .i64 f.b.l, .int .i64 f.b.r] 2))).alloc (.cells #[.int .i64 f.p.t, .int .i64 f.p.b, .int .i64 f.b.t, .int .i64 f.b.b] 2)) (w0.heap.size + 1) 2 #[.int .i64 f.p.t, .int .i64 f.p.b, .int .i64 f.b.t, .int .i64 f.b.b] := Blk.newAt _ _ _ (by simp)
      have hB : Blk ((((w0).alloc (.cells #[.int .i64 f.p.l, .int .i64 f.p.r, .int .i64 f.b.l, .int .i64 f.b.r] 2))).alloc (.cells #[.int .i64 f.p.t, .int .i64 f.p.b, .int .i64 f.b.t, .int .i64 f.b.b] 2)).drew (w0.heap.size + 1) 2 #[.int .i64 f.p.t, .int .i64 f.p.b, .int .i64 f.b.t, .int .i64 f.b.b] := hB0.drew
      replace hA : Blk ((((w0).alloc (.cells #[.int .i64 f.p.l, .int .i64 f.p.r, .int .i64 f.b.l, .int .i64 f.b.r] 2))).alloc (.cells #[.int .i64 f.p.t, .int .i64 f.p.b, .int .i64 f.b.t, .int .i64 f.b.b] 2)).drew w0.heap.size 2 #[.int .i64 f.p.l, .int .i64 f.p.r, .int .i64 f.b.l, .int .i64 f.b.r] := (hA0.alloc _).drew
      refine hK.out _ _ hS2 (fun _ => ?_)
      clear hK K
      (try simp only [Act.put, List.setIfInBounds_toArray, List.set_cons_zero, List.set_cons_succ])
      refine Ord.aloneT rfl rfl (fun K hK => ?_)
      go_simp
      refine (rsum4 (f.p.t) (f.p.b) (f.b.t) (f.b.b) _ _ hB).mono ?_
      rintro e w' ⟨rfl, rfl⟩
      go_wp2_with fail
      refine hK.out _ _ hS2 (fun _ => ?_)
      clear hK K
      (try simp only [Act.put, List.setIfInBounds_toArray, List.set_cons_zero, List.set_cons_succ])
      (refine Ord.takeT (v := ?_) (Or.inl ⟨rfl, ?_⟩) ?_; rotate_left; (intro w hSw; (try dsimp only at hSw); go_simp; try (with_reducible rfl)); (try simp only [Act.put, List.setIfInBounds_toArray, List.set_cons_zero, List.set_cons_succ]))
      (refine Ord.takeT (v := ?_) (Or.inl ⟨rfl, ?_⟩) ?_; rotate_left; (intro w hSw; (try dsimp only at hSw); go_simp; try (with_reducible rfl)); (try simp only [Act.put, List.setIfInBounds_toArray, List.set_cons_zero, List.set_cons_succ]))
      refine Ord.doneT (NoPanic.normal ?_)
      have hg9 := hS2.1.1
      clear hS
      go_wp2_with fail
      go_returns
      exact ⟨rfl, hg9⟩
    · go_simp
      have hS2 := hS ((((w0).alloc (.cells #[.int .i64 f.p.l, .int .i64 f.p.r, .int .i64 f.b.l, .int .i64 f.b.r] 2))).alloc (.cells #[.int .i64 f.p.t, .int .i64 f.p.b, .int .i64 f.b.t, .int .i64 f.b.b] 2)).drew ⟨(hS1.1.1.alloc hS1.1.1.size (.cells #[.int .i64 f.p.t, .int .i64 f.p.b, .int .i64 f.b.t, .int .i64 f.b.b] 2) : Below w.heap.size w _), hS1.1.2.alloc _⟩
      have hB0 : Blk ((((w0).alloc (.cells #[.int .i64 f.p.l, .int .i64 f.p.r, .int .i64 f.b.l, .int .i64 f.b.r] 2))).alloc (.cells #[.int .i64 f.p.t, .int .i64 f.p.b, .int .i64 f.b.t, .int .i64 f.b.b] 2)) (w0.heap.size + 1) 2 #[.int .i64 f.p.t, .int .i64 f.p.b, .int .i64 f.b.t, .int .i64 f.b.b] := Blk.newAt _ _ _ (by simp)
      have hB : Blk ((((w0).alloc (.cells #[.int .i64 f.p.l, .int .i64 f.p.r, .int .i64 f.b.l, .int .i64 f.b.r] 2))).alloc (.cells #[.int .i64 f.p.t, .int .i64 f.p.b, .int .i64 f.b.t, .int .i64 f.b.b] 2)).drew (w0.heap.size + 1) 2 #[.int .i64 f.p.t, .int .i64 f.p.b, .int .i64 f.b.t, .int .i64 f.b.b] := hB0.drew
      replace hA : Blk ((((w0).alloc (.cells #[.int .i64 f.p.l, .int .i64 f.p.r, .int .i64 f.b.l, .int .i64 f.b.r] 2))).alloc (.cells #[.int .i64 f.p.t, .int .i64 f.p.b, .int .i64 f.b.t, .int .i64 f.b.b] 2)).drew w0.heap.size 2 #[.int .i64 f.p.l, .int .i64 f.p.r, .int .i64 f.b.l, .int .i64 f.b.r] := (hA0.alloc _).drew
      refine hK.out _ _ hS2 (fun _ => ?_)
      clear hK K
      (try simp only [Act.put, List.setIfInBounds_toArray, List.set_cons_zero, List.set_cons_succ])
      refine Ord.aloneT rfl rfl (fun K hK => ?_)
      go_simp
      refine (rsum4 (f.p.l) (f.p.r) (f.b.l) (f.b.r) _ _ hA).mono ?_
      rintro e w' ⟨rfl, rfl⟩
      go_wp2_with fail
      refine hK.out _ _ hS2 (fun _ => ?_)
      clear hK K
      (try simp only [Act.put, List.setIfInBounds_toArray, List.set_cons_zero, List.set_cons_succ])
      refine Ord.aloneT rfl rfl (fun K hK => ?_)
      go_simp
      refine (rsum4 (f.p.t) (f.p.b) (f.b.t) (f.b.b) _ _ hB).mono ?_
      rintro e w' ⟨rfl, rfl⟩
      go_wp2_with fail
      refine hK.out _ _ hS2 (fun _ => ?_)
      clear hK K
      (try simp only [Act.put, List.setIfInBounds_toArray, List.set_cons_zero, List.set_cons_succ])
      (refine Ord.takeT (v := ?_) (Or.inl ⟨rfl, ?_⟩) ?_; rotate_left; (intro w hSw; (try dsimp only at hSw); go_simp; try (with_reducible rfl)); (try simp only [Act.put, List.setIfInBounds_toArray, List.set_cons_zero, List.set_cons_succ]))
      (refine Ord.takeT (v := ?_) (Or.inl ⟨rfl, ?_⟩) ?_; rotate_left; (intro w hSw; (try dsimp only at hSw); go_simp; try (with_reducible rfl)); (try simp only [Act.put, List.setIfInBounds_toArray, List.set_cons_zero, List.set_cons_succ]))
      refine Ord.doneT (NoPanic.normal ?_)
      have hg9 := hS2.1.1
      clear hS
      go_wp2_with fail
      go_returns
      exact ⟨rfl, hg9⟩
  · go_simp
    have hS1 := hS ((w0).alloc (.cells #[.int .i64 f.p.t, .int .i64 f.p.b, .int .i64 f.b.t, .int .i64 f.b.b] 2)).drew ⟨(hS0.1.1.alloc hS0.1.1.size (.cells #[.int .i64 f.p.t, .int .i64 f.p.b, .int .i64 f.b.t, .int .i64 f.b.b] 2) : Below w.heap.size w _), hS0.1.2.alloc _⟩
    have hB0 : Blk ((w0).alloc (.cells #[.int .i64 f.p.t, .int .i64 f.p.b, .int .i64 f.b.t, .int .i64 f.b.b] 2)) w0.heap.size 2 #[.int .i64 f.p.t, .int .i64 f.p.b, .int .i64 f.b.t, .int .i64 f.b.b] := Blk.new w0 _ _
    have hB : Blk ((w0).alloc (.cells #[.int .i64 f.p.t, .int .i64 f.p.b, .int .i64 f.b.t, .int .i64 f.b.b] 2)).drew w0.heap.size 2 #[.int .i64 f.p.t, .int .i64 f.p.b, .int .i64 f.b.t, .int .i64 f.b.b] := hB0.drew
    refine hK.out _ _ hS1 (fun _ => ?_)
    clear hK K
    (try simp only [Act.put, List.setIfInBounds_toArray, List.set_cons_zero, List.set_cons_succ])
    refine Ord.aloneT rfl rfl (fun K hK => ?_)
    go_simp
    have hS2 := hS ((((w0).alloc (.cells #[.int .i64 f.p.t, .int .i64 f.p.b, .int .i64 f.b.t, .int .i64 f.b.b] 2))).alloc (.cells #[.int .i64 f.p.l, .int .i64 f.p.r, .int .i64 f.b.l, .int .i64 f.b.r] 2)).drew ⟨(hS1.1.1.alloc hS1.1.1.size (.cells #[.int .i64 f.p.l, .int .i64 f.p.r, .int .i64 f.b.l, .int .i64 f.b.r] 2) : Below w.heap.size w _), hS1.1.2.alloc _⟩
    have hA0 : Blk ((((w0).alloc (.cells #[.int .i64 f.p.t, .int .i64 f.p.b, .int .i64 f.b.t, .int .i64 f.b.b] 2))).alloc (.cells #[.int .i64 f.p.l, .int .i64 f.p.r, .int .i64 f.b.l, .int .i64 f.b.r] 2)) (w0.heap.size + 1) 2 #[.int .i64 f.p.l, .int .i64 f.p.r, .int .i64 f.b.l, .int .i64 f.b.r] := Blk.newAt _ _ _ (by simp)
    have hA : Blk ((((w0).alloc (.cells #[.int .i64 f.p.t, .int .i64 f.p.b, .int .i64 f.b.t, .int .i64 f.b.b] 2))).alloc (.cells #[.int .i64 f.p.l, .int .i64 f.p.r, .int .i64 f.b.l, .int .i64 f.b.r] 2)).drew (w0.heap.size + 1) 2 #[.int .i64 f.p.l, .int .i64 f.p.r, .int .i64 f.b.l, .int .i64 f.b.r] := hA0.drew
    replace hB : Blk ((((w0).alloc (.cells #[.int .i64 f.p.t, .int .i64 f.p.b, .int .i64 f.b.t, .int .i64 f.b.b] 2))).alloc (.cells #[.int .i64 f.p.l, .int .i64 f.p.r, .int .i64 f.b.l, .int .i64 f.b.r] 2)).drew w0.heap.size 2 #[.int .i64 f.p.t, .int .i64 f.p.b, .int .i64 f.b.t, .int .i64 f.b.b] := (hB0.alloc _).drew
    refine hK.out _ _ hS2 (fun _ => ?_)
    clear hK K
    (try simp only [Act.put, List.setIfInBounds_toArray, List.set_cons_zero, List.set_cons_succ])
    refine Ord.aloneT rfl rfl (fun K hK => ?_)
    go_simp
    refine (rsum4 (f.p.l) (f.p.r) (f.b.l) (f.b.r) _ _ hA).mono ?_
    rintro e w' ⟨rfl, rfl⟩
    go_wp2_with fail
    refine hK.out _ _ hS2 (fun _ => ?_)
    clear hK K
    (try simp only [Act.put, List.setIfInBounds_toArray, List.set_cons_zero, List.set_cons_succ])
    refine Ord.aloneT rfl rfl (fun K hK => ?_)
    go_simp
    refine (rsum4 (f.p.t) (f.p.b) (f.b.t) (f.b.b) _ _ hB).mono ?_
    rintro e w' ⟨rfl, rfl⟩
    go_wp2_with fail
    refine hK.out _ _ hS2 (fun _ => ?_)
    clear hK K
    (try simp only [Act.put, List.setIfInBounds_toArray, List.set_cons_zero, List.set_cons_succ])
    (refine Ord.takeT (v := ?_) (Or.inl ⟨rfl, ?_⟩) ?_; rotate_left; (intro w hSw; (try dsimp only at hSw); go_simp; try (with_reducible rfl)); (try simp only [Act.put, List.setIfInBounds_toArray, List.set_cons_zero, List.set_cons_succ]))
    (refine Ord.takeT (v := ?_) (Or.inl ⟨rfl, ?_⟩) ?_; rotate_left; (intro w hSw; (try dsimp only at hSw); go_simp; try (with_reducible rfl)); (try simp only [Act.put, List.setIfInBounds_toArray, List.set_cons_zero, List.set_cons_succ]))
    refine Ord.doneT (NoPanic.normal ?_)
    have hg9 := hS2.1.1
    clear hS
    go_wp2_with fail
    go_returns
    exact ⟨rfl, hg9⟩
end Go.Proofs.Ytkkabnkhdhlhkaa
