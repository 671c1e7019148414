/-
  The walk of casementlaw16.named.
-/
import Derived.Test.YtkkabnkhdhlhkaaBlockK
import Derived.Test.YtkkabnkhdhlhkaaRecs
namespace Go.Proofs.Ytkkabnkhdhlhkaa
open Go.RowKit Num Mem Opn
set_option linter.unusedVariables false
set_option linter.unusedSimpArgs false
namespace Num
def pair (p : Int × Int) : List Value := [.int .i64 p.1, .int .i64 p.2]
def Sty.lens (s : Sty) : List (Int × Int) := [(s.wk, s.wn), (s.hk, s.hn), (s.m0k, s.m0n), (s.p0k, s.p0n), (s.o0k, s.o0n), (s.m1k, s.m1n), (s.p1k, s.p1n), (s.o1k, s.o1n), (s.m2k, s.m2n), (s.p2k, s.p2n), (s.o2k, s.o2n), (s.m3k, s.m3n), (s.p3k, s.p3n), (s.o3k, s.o3n)]
/-- are all kinds known? -/
def kinds (l : List (Int × Int)) : Bool := l.all fun p => decide (0 ≤ p.1 ∧ p.1 ≤ 2)
end Num
theorem info_len : (Try.prog.info? 23).map (fun i => (i.zero, i.size, i.bytes)) = some (some (.agg #[.int .i64 0, .int .i64 0]), 2, 16) := by kernel_rfl
theorem sty_not_len : (28 : Nat) ≠ 23 := by decide
set_option maxRecDepth 100000 in
set_option maxHeartbeats 4000000 in
theorem law16_named (s : Sty) (w : World) :
    Calls Try.prog 13 #[.agg s.arr, .slice none 0 0] w fun e w' => e = .returned (.bool (kinds s.lens)) ∧ Below w.heap.size w w' := by
  obtain ⟨B, hBe⟩ : ∃ B, B = w.heap.size := ⟨_, rfl⟩
  have hB : B ≤ w.heap.size := by omega
  rw [show Below w.heap.size = Below B by rw [hBe]]
  clear hBe
  obtain ⟨i0, hi, hz0, hz1, hz2⟩ := info_parts info_len
  have hw1 : Below B w (w.alloc (.cells s.arr 28)) := (Below.refl B w).alloc hB _
  have hw2 := Blk.new w 28 s.arr
  have hw3 := (own_nil w B 23 2).alloc (.cells s.arr 28)
  have hc4 : (w.alloc (.cells s.arr 28)).cell? ⟨w.heap.size, 4, none⟩ = some (.int .i64 s.wk) := hw2.cell 4
  have hc5 : (w.alloc (.cells s.arr 28)).cell? ⟨w.heap.size, 5, none⟩ = some (.int .i64 s.wn) := hw2.cell 5
  have hc6 : (w.alloc (.cells s.arr 28)).cell? ⟨w.heap.size, 6, none⟩ = some (.int .i64 s.hk) := hw2.cell 6
  have hc7 : (w.alloc (.cells s.arr 28)).cell? ⟨w.heap.size, 7, none⟩ = some (.int .i64 s.hn) := hw2.cell 7
  have hsz1 : B ≤ (w.alloc (.cells s.arr 28)).heap.size := by simp; omega
  go_enter Try.func13, Try.ntmps13
  go_wp2_with (refine stop_append _ _ _ _ rfl ?_)
  refine ⟨?_⟩
  refine wpList_append_own _ rfl (.tmp 7) (.tmp 12) 67 rfl B 23 i0 (.agg #[.int .i64 0, .int .i64 0]) 2 16 Try.underlying67 hi hz0 hz1 hz2 rfl (by decide) (.slice none 0 0) _ _ rfl (hw3.alloc (.cells #[.int .i64 s.wk, .int .i64 s.wn, .int .i64 s.hk, .int .i64 s.hn] 23)) ⟨w.heap.size + 1, 0, none⟩ 2 2 [.int .i64 s.wk, .int .i64 s.wn, .int .i64 s.hk, .int .i64 s.hn] rfl rfl (news_at (g := w.heap.size + 1) (t := 23) (cs := #[.int .i64 s.wk, .int .i64 s.wn, .int .i64 s.hk, .int .i64 s.hn]) (Blk.newAt _ _ _ (by simp)) rfl) (by simp [Value.oneCell']) (by unfold maxLen; omega) (by omega) (by simp; omega) ?_
  intro v1 w2 ho2 hg2 _
  have hw3' := hw3.alloc (.cells #[.int .i64 s.wk, .int .i64 s.wn, .int .i64 s.hk, .int .i64 s.hn] 23)
  have hb2 : Below B w w2 := (hw1.alloc hsz1 _).trans (own_belowB hw3' hg2 (by simp; omega))
  have hs2 : Blk w2 w.heap.size 28 s.arr := (hw2.alloc _).grown hw3' hg2 sty_not_len
  clear hw1 hw2 hw3 hw3' hc4 hc5 hc6 hc7 hsz1 hg2
  (try simp only [Act.put, List.setIfInBounds_toArray, List.set_cons_zero, List.set_cons_succ])
  go_wp2_with fail
  go_loopw [1, 5] (fun v i wr => ∃ k : Nat, k ≤ 4 ∧ i = .int .i64 k ∧ Below B w wr ∧ Blk wr w.heap.size 28 s.arr ∧ wr.ownsRow B 23 2 v (2 + 3 * k) ((s.lens.take (2 + 3 * k)).flatMap pair)) (fun _ i _ => 4 - (intOf i).toNat)
  case atStart => exact ⟨0, by omega, rfl, hb2, hs2, by simpa [Sty.lens, pair] using ho2⟩
  case round =>
    clear hb2 hs2 ho2
    obtain ⟨k, hk, rfl, hbel, hsty, hown⟩ := hrel
    have hsz := hbel.size
    obtain rfl | rfl | rfl | rfl | rfl : k = 0 ∨ k = 1 ∨ k = 2 ∨ k = 3 ∨ k = 4 := by omega
    · have hS : ∀ W, (Below B w W ∧ Blk W w.heap.size 28 s.arr) → (fun W => (Below B w W ∧ Blk W w.heap.size 28 s.arr) ∧ W.cell? ⟨w.heap.size, 8, none⟩ = some (.int .i64 s.m0k) ∧ W.cell? ⟨w.heap.size, 9, none⟩ = some (.int .i64 s.m0n) ∧ W.cell? ⟨w.heap.size, 16, none⟩ = some (.int .i64 s.p0k) ∧ W.cell? ⟨w.heap.size, 17, none⟩ = some (.int .i64 s.p0n) ∧ W.cell? ⟨w.heap.size, 24, none⟩ = some (.int .i64 s.o0k) ∧ W.cell? ⟨w.heap.size, 25, none⟩ = some (.int .i64 s.o0n)) W := fun W h => ⟨h, h.2.cell 8, h.2.cell 9, h.2.cell 16, h.2.cell 17, h.2.cell 24, h.2.cell 25⟩
      go_wp2_with fail
      refine wp_region_noPanic ?_
      refine Ord.region_ord (S := fun W => (Below B w W ∧ Blk W w.heap.size 28 s.arr) ∧ W.cell? ⟨w.heap.size, 8, none⟩ = some (.int .i64 s.m0k) ∧ W.cell? ⟨w.heap.size, 9, none⟩ = some (.int .i64 s.m0n) ∧ W.cell? ⟨w.heap.size, 16, none⟩ = some (.int .i64 s.p0k) ∧ W.cell? ⟨w.heap.size, 17, none⟩ = some (.int .i64 s.p0n) ∧ W.cell? ⟨w.heap.size, 24, none⟩ = some (.int .i64 s.o0k) ∧ W.cell? ⟨w.heap.size, 25, none⟩ = some (.int .i64 s.o0n)) [(0, true), (1, true), (2, true), (3, true), (4, true), (5, true), (6, true), (7, true), (8, true), (9, true), (10, true), (11, true), (12, true), (13, false), (14, false), (15, true)] (by kernel_rfl) (by kernel_rfl) (by kernel_rfl) (by decide) (fun _ _ _ _ _ h => h) (hS _ ⟨hbel.drew, hsty.drew⟩) (fun hS0 => ?_)
      simp only [Ord.lay, List.getElem?_cons_zero, List.getElem?_cons_succ]
      (refine Ord.take (v := ?_) (Or.inl ⟨rfl, ?_⟩) ?_; rotate_left; (intro w hSw; (try dsimp only at hSw); go_simp; try (with_reducible rfl)); (try simp only [Act.put, List.setIfInBounds_toArray, List.set_cons_zero, List.set_cons_succ]))
      (refine Ord.take (v := ?_) (Or.inl ⟨rfl, ?_⟩) ?_; rotate_left; (intro w hSw; (try dsimp only at hSw); go_simp; try (with_reducible rfl)); (try simp only [Act.put, List.setIfInBounds_toArray, List.set_cons_zero, List.set_cons_succ]))
      (refine Ord.take (v := ?_) (Or.inl ⟨rfl, ?_⟩) ?_; rotate_left; (intro w hSw; (try dsimp only at hSw); go_simp; try (with_reducible rfl)); (try simp only [Act.put, List.setIfInBounds_toArray, List.set_cons_zero, List.set_cons_succ]))
      (refine Ord.take (v := ?_) (Or.inl ⟨rfl, ?_⟩) ?_; rotate_left; (intro w hSw; (try dsimp only at hSw); go_simp; try (with_reducible rfl)); (try simp only [Act.put, List.setIfInBounds_toArray, List.set_cons_zero, List.set_cons_succ]))
      (refine Ord.take (v := ?_) (Or.inl ⟨rfl, ?_⟩) ?_; rotate_left; (intro w hSw; (try dsimp only at hSw); go_simp; try (with_reducible rfl)); (try simp only [Act.put, List.setIfInBounds_toArray, List.set_cons_zero, List.set_cons_succ]))
      (refine Ord.take (v := ?_) (Or.inl ⟨rfl, ?_⟩) ?_; rotate_left; (intro w hSw; (try dsimp only at hSw); go_simp; try (with_reducible rfl)); (try simp only [Act.put, List.setIfInBounds_toArray, List.set_cons_zero, List.set_cons_succ]))
      (refine Ord.take (v := ?_) (Or.inl ⟨rfl, ?_⟩) ?_; rotate_left; (intro w hSw; (try dsimp only at hSw); go_simp; try (with_reducible rfl)); (try simp only [Act.put, List.setIfInBounds_toArray, List.set_cons_zero, List.set_cons_succ]))
      (refine Ord.take (v := ?_) (Or.inl ⟨rfl, ?_⟩) ?_; rotate_left; (intro w hSw; (try dsimp only at hSw); go_simp; try (with_reducible rfl)); (try simp only [Act.put, List.setIfInBounds_toArray, List.set_cons_zero, List.set_cons_succ]))
      (refine Ord.take (v := ?_) (Or.inl ⟨rfl, ?_⟩) ?_; rotate_left; (intro w hSw; (try dsimp only at hSw); go_simp; try (with_reducible rfl)); (try simp only [Act.put, List.setIfInBounds_toArray, List.set_cons_zero, List.set_cons_succ]))
      (refine Ord.take (v := ?_) (Or.inl ⟨rfl, ?_⟩) ?_; rotate_left; (intro w hSw; (try dsimp only at hSw); go_simp; try (with_reducible rfl)); (try simp only [Act.put, List.setIfInBounds_toArray, List.set_cons_zero, List.set_cons_succ]))
      (refine Ord.take (v := ?_) (Or.inl ⟨rfl, ?_⟩) ?_; rotate_left; (intro w hSw; (try dsimp only at hSw); go_simp; try (with_reducible rfl)); (try simp only [Act.put, List.setIfInBounds_toArray, List.set_cons_zero, List.set_cons_succ]))
      (refine Ord.take (v := ?_) (Or.inl ⟨rfl, ?_⟩) ?_; rotate_left; (intro w hSw; (try dsimp only at hSw); go_simp; try (with_reducible rfl)); (try simp only [Act.put, List.setIfInBounds_toArray, List.set_cons_zero, List.set_cons_succ]))
      (refine Ord.take (v := ?_) (Or.inl ⟨rfl, ?_⟩) ?_; rotate_left; (intro w hSw; (try dsimp only at hSw); go_simp; try (with_reducible rfl)); (try simp only [Act.put, List.setIfInBounds_toArray, List.set_cons_zero, List.set_cons_succ]))
      refine Ord.alone rfl (fun K hK => ?_)
      go_simp
      have hS1 := hS (wr.alloc (.cells #[.int .i64 s.m0k, .int .i64 s.m0n, .int .i64 s.p0k, .int .i64 s.p0n, .int .i64 s.o0k, .int .i64 s.o0n] 23)).drew ⟨(hbel.alloc (by omega) _).drew, (hsty.alloc _).drew⟩
      refine hK.out _ _ hS1 (fun _ => ?_)
      clear hK K hS0
      (try simp only [Act.put, List.setIfInBounds_toArray, List.set_cons_zero, List.set_cons_succ])
      refine Ord.alone' rfl rfl (fun K hK => ?_)
      refine wp_append_own _ _ _ 67 rfl B 23 i0 (.agg #[.int .i64 0, .int .i64 0]) 2 16 Try.underlying67 hi hz0 hz1 hz2 rfl (by decide) u1 _ _ rfl (own_drew (hown.alloc (.cells #[.int .i64 s.m0k, .int .i64 s.m0n, .int .i64 s.p0k, .int .i64 s.p0n, .int .i64 s.o0k, .int .i64 s.o0n] 23))) ⟨wr.heap.size, 0, none⟩ 3 3 [.int .i64 s.m0k, .int .i64 s.m0n, .int .i64 s.p0k, .int .i64 s.p0n, .int .i64 s.o0k, .int .i64 s.o0n] rfl rfl (news_at (Blk.new wr 23 #[.int .i64 s.m0k, .int .i64 s.m0n, .int .i64 s.p0k, .int .i64 s.p0n, .int .i64 s.o0k, .int .i64 s.o0n]).drew rfl) (by simp [Value.oneCell']) (by unfold maxLen; omega) (by omega) (by simp; omega) ?_
      intro v' w' ho' hg' _
      have hS2 := hS w' ⟨hS1.1.1.trans (own_belowB (own_drew (hown.alloc (.cells #[.int .i64 s.m0k, .int .i64 s.m0n, .int .i64 s.p0k, .int .i64 s.p0n, .int .i64 s.o0k, .int .i64 s.o0n] 23))) hg' (by simp; omega)), hS1.1.2.grown (own_drew (hown.alloc (.cells #[.int .i64 s.m0k, .int .i64 s.m0n, .int .i64 s.p0k, .int .i64 s.p0n, .int .i64 s.o0k, .int .i64 s.o0n] 23))) hg' sty_not_len⟩
      (try simp only [Act.put, List.setIfInBounds_toArray, List.set_cons_zero, List.set_cons_succ])
      refine hK.out _ _ hS2 (fun _ => ?_)
      clear hK K hS1
      (refine Ord.take (v := ?_) (Or.inl ⟨rfl, ?_⟩) ?_; rotate_left; (intro w hSw; (try dsimp only at hSw); go_simp; try (with_reducible rfl)); (try simp only [Act.put, List.setIfInBounds_toArray, List.set_cons_zero, List.set_cons_succ]))
      refine Ord.done (NoPanic.normal ?_)
      obtain ⟨⟨hb2, hs2⟩, -⟩ := hS2
      clear hS hbel hsty hown hg'
      go_wp2_with fail
      go_roundw
      case rel => exact ⟨1, by omega, rfl, hb2, hs2, by simpa [Sty.lens, pair] using ho'⟩
      case measure => simp [intOf]
    · have hS : ∀ W, (Below B w W ∧ Blk W w.heap.size 28 s.arr) → (fun W => (Below B w W ∧ Blk W w.heap.size 28 s.arr) ∧ W.cell? ⟨w.heap.size, 10, none⟩ = some (.int .i64 s.m1k) ∧ W.cell? ⟨w.heap.size, 11, none⟩ = some (.int .i64 s.m1n) ∧ W.cell? ⟨w.heap.size, 18, none⟩ = some (.int .i64 s.p1k) ∧ W.cell? ⟨w.heap.size, 19, none⟩ = some (.int .i64 s.p1n) ∧ W.cell? ⟨w.heap.size, 26, none⟩ = some (.int .i64 s.o1k) ∧ W.cell? ⟨w.heap.size, 27, none⟩ = some (.int .i64 s.o1n)) W := fun W h => ⟨h, h.2.cell 10, h.2.cell 11, h.2.cell 18, h.2.cell 19, h.2.cell 26, h.2.cell 27⟩
      go_wp2_with fail
      refine wp_region_noPanic ?_
      refine Ord.region_ord (S := fun W => (Below B w W ∧ Blk W w.heap.size 28 s.arr) ∧ W.cell? ⟨w.heap.size, 10, none⟩ = some (.int .i64 s.m1k) ∧ W.cell? ⟨w.heap.size, 11, none⟩ = some (.int .i64 s.m1n) ∧ W.cell? ⟨w.heap.size, 18, none⟩ = some (.int .i64 s.p1k) ∧ W.cell? ⟨w.heap.size, 19, none⟩ = some (.int .i64 s.p1n) ∧ W.cell? ⟨w.heap.size, 26, none⟩ = some (.int .i64 s.o1k) ∧ W.cell? ⟨w.heap.size, 27, none⟩ = some (.int .i64 s.o1n)) [(0, true), (1, true), (2, true), (3, true), (4, true), (5, true), (6, true), (7, true), (8, true), (9, true), (10, true), (11, true), (12, true), (13, false), (14, false), (15, true)] (by kernel_rfl) (by kernel_rfl) (by kernel_rfl) (by decide) (fun _ _ _ _ _ h => h) (hS _ ⟨hbel.drew, hsty.drew⟩) (fun hS0 => ?_)
      simp only [Ord.lay, List.getElem?_cons_zero, List.getElem?_cons_succ]
      (refine Ord.take (v := ?_) (Or.inl ⟨rfl, ?_⟩) ?_; rotate_left; (intro w hSw; (try dsimp only at hSw); go_simp; try (with_reducible rfl)); (try simp only [Act.put, List.setIfInBounds_toArray, List.set_cons_zero, List.set_cons_succ]))
      (refine Ord.take (v := ?_) (Or.inl ⟨rfl, ?_⟩) ?_; rotate_left; (intro w hSw; (try dsimp only at hSw); go_simp; try (with_reducible rfl)); (try simp only [Act.put, List.setIfInBounds_toArray, List.set_cons_zero, List.set_cons_succ]))
      (refine Ord.take (v := ?_) (Or.inl ⟨rfl, ?_⟩) ?_; rotate_left; (intro w hSw; (try dsimp only at hSw); go_simp; try (with_reducible rfl)); (try simp only [Act.put, List.setIfInBounds_toArray, List.set_cons_zero, List.set_cons_succ]))
      (refine Ord.take (v := ?_) (Or.inl ⟨rfl, ?_⟩) ?_; rotate_left; (intro w hSw; (try dsimp only at hSw); go_simp; try (with_reducible rfl)); (try simp only [Act.put, List.setIfInBounds_toArray, List.set_cons_zero, List.set_cons_succ]))
      (refine Ord.take (v := ?_) (Or.inl ⟨rfl, ?_⟩) ?_; rotate_left; (intro w hSw; (try dsimp only at hSw); go_simp; try (with_reducible rfl)); (try simp only [Act.put, List.setIfInBounds_toArray, List.set_cons_zero, List.set_cons_succ]))
      (refine Ord.take (v := ?_) (Or.inl ⟨rfl, ?_⟩) ?_; rotate_left; (intro w hSw; (try dsimp only at hSw); go_simp; try (with_reducible rfl)); (try simp only [Act.put, List.setIfInBounds_toArray, List.set_cons_zero, List.set_cons_succ]))
      (refine Ord.take (v := ?_) (Or.inl ⟨rfl, ?_⟩) ?_; rotate_left; (intro w hSw; (try dsimp only at hSw); go_simp; try (with_reducible rfl)); (try simp only [Act.put, List.setIfInBounds_toArray, List.set_cons_zero, List.set_cons_succ]))
      (refine Ord.take (v := ?_) (Or.inl ⟨rfl, ?_⟩) ?_; rotate_left; (intro w hSw; (try dsimp only at hSw); go_simp; try (with_reducible rfl)); (try simp only [Act.put, List.setIfInBounds_toArray, List.set_cons_zero, List.set_cons_succ]))
      (refine Ord.take (v := ?_) (Or.inl ⟨rfl, ?_⟩) ?_; rotate_left; (intro w hSw; (try dsimp only at hSw); go_simp; try (with_reducible rfl)); (try simp only [Act.put, List.setIfInBounds_toArray, List.set_cons_zero, List.set_cons_succ]))
      (refine Ord.take (v := ?_) (Or.inl ⟨rfl, ?_⟩) ?_; rotate_left; (intro w hSw; (try dsimp only at hSw); go_simp; try (with_reducible rfl)); (try simp only [Act.put, List.setIfInBounds_toArray, List.set_cons_zero, List.set_cons_succ]))
      (refine Ord.take (v := ?_) (Or.inl ⟨rfl, ?_⟩) ?_; rotate_left; (intro w hSw; (try dsimp only at hSw); go_simp; try (with_reducible rfl)); (try simp only [Act.put, List.setIfInBounds_toArray, List.set_cons_zero, List.set_cons_succ]))
      (refine Ord.take (v := ?_) (Or.inl ⟨rfl, ?_⟩) ?_; rotate_left; (intro w hSw; (try dsimp only at hSw); go_simp; try (with_reducible rfl)); (try simp only [Act.put, List.setIfInBounds_toArray, List.set_cons_zero, List.set_cons_succ]))
      (refine Ord.take (v := ?_) (Or.inl ⟨rfl, ?_⟩) ?_; rotate_left; (intro w hSw; (try dsimp only at hSw); go_simp; try (with_reducible rfl)); (try simp only [Act.put, List.setIfInBounds_toArray, List.set_cons_zero, List.set_cons_succ]))
      refine Ord.alone rfl (fun K hK => ?_)
      go_simp
      have hS1 := hS (wr.alloc (.cells #[.int .i64 s.m1k, .int .i64 s.m1n, .int .i64 s.p1k, .int .i64 s.p1n, .int .i64 s.o1k, .int .i64 s.o1n] 23)).drew ⟨(hbel.alloc (by omega) _).drew, (hsty.alloc _).drew⟩
      refine hK.out _ _ hS1 (fun _ => ?_)
      clear hK K hS0
      (try simp only [Act.put, List.setIfInBounds_toArray, List.set_cons_zero, List.set_cons_succ])
      refine Ord.alone' rfl rfl (fun K hK => ?_)
      refine wp_append_own _ _ _ 67 rfl B 23 i0 (.agg #[.int .i64 0, .int .i64 0]) 2 16 Try.underlying67 hi hz0 hz1 hz2 rfl (by decide) u1 _ _ rfl (own_drew (hown.alloc (.cells #[.int .i64 s.m1k, .int .i64 s.m1n, .int .i64 s.p1k, .int .i64 s.p1n, .int .i64 s.o1k, .int .i64 s.o1n] 23))) ⟨wr.heap.size, 0, none⟩ 3 3 [.int .i64 s.m1k, .int .i64 s.m1n, .int .i64 s.p1k, .int .i64 s.p1n, .int .i64 s.o1k, .int .i64 s.o1n] rfl rfl (news_at (Blk.new wr 23 #[.int .i64 s.m1k, .int .i64 s.m1n, .int .i64 s.p1k, .int .i64 s.p1n, .int .i64 s.o1k, .int .i64 s.o1n]).drew rfl) (by simp [Value.oneCell']) (by unfold maxLen; omega) (by omega) (by simp; omega) ?_
      intro v' w' ho' hg' _
      have hS2 := hS w' ⟨hS1.1.1.trans (own_belowB (own_drew (hown.alloc (.cells #[.int .i64 s.m1k, .int .i64 s.m1n, .int .i64 s.p1k, .int .i64 s.p1n, .int .i64 s.o1k, .int .i64 s.o1n] 23))) hg' (by simp; omega)), hS1.1.2.grown (own_drew (hown.alloc (.cells #[.int .i64 s.m1k, .int .i64 s.m1n, .int .i64 s.p1k, .int .i64 s.p1n, .int .i64 s.o1k, .int .i64 s.o1n] 23))) hg' sty_not_len⟩
      (try simp only [Act.put, List.setIfInBounds_toArray, List.set_cons_zero, List.set_cons_succ])
      refine hK.out _ _ hS2 (fun _ => ?_)
      clear hK K hS1
      (refine Ord.take (v := ?_) (Or.inl ⟨rfl, ?_⟩) ?_; rotate_left; (intro w hSw; (try dsimp only at hSw); go_simp; try (with_reducible rfl)); (try simp only [Act.put, List.setIfInBounds_toArray, List.set_cons_zero, List.set_cons_succ]))
      refine Ord.done (NoPanic.normal ?_)
      obtain ⟨⟨hb2, hs2⟩, -⟩ := hS2
      clear hS hbel hsty hown hg'
      go_wp2_with fail
      go_roundw
      case rel => exact ⟨2, by omega, rfl, hb2, hs2, by simpa [Sty.lens, pair] using ho'⟩
      case measure => simp [intOf]
    · have hS : ∀ W, (Below B w W ∧ Blk W w.heap.size 28 s.arr) → (fun W => (Below B w W ∧ Blk W w.heap.size 28 s.arr) ∧ W.cell? ⟨w.heap.size, 12, none⟩ = some (.int .i64 s.m2k) ∧ W.cell? ⟨w.heap.size, 13, none⟩ = some (.int .i64 s.m2n) ∧ W.cell? ⟨w.heap.size, 20, none⟩ = some (.int .i64 s.p2k) ∧ W.cell? ⟨w.heap.size, 21, none⟩ = some (.int .i64 s.p2n) ∧ W.cell? ⟨w.heap.size, 28, none⟩ = some (.int .i64 s.o2k) ∧ W.cell? ⟨w.heap.size, 29, none⟩ = some (.int .i64 s.o2n)) W := fun W h => ⟨h, h.2.cell 12, h.2.cell 13, h.2.cell 20, h.2.cell 21, h.2.cell 28, h.2.cell 29⟩
      go_wp2_with fail
      refine wp_region_noPanic ?_
      refine Ord.region_ord (S := fun W => (Below B w W ∧ Blk W w.heap.size 28 s.arr) ∧ W.cell? ⟨w.heap.size, 12, none⟩ = some (.int .i64 s.m2k) ∧ W.cell? ⟨w.heap.size, 13, none⟩ = some (.int .i64 s.m2n) ∧ W.cell? ⟨w.heap.size, 20, none⟩ = some (.int .i64 s.p2k) ∧ W.cell? ⟨w.heap.size, 21, none⟩ = some (.int .i64 s.p2n) ∧ W.cell? ⟨w.heap.size, 28, none⟩ = some (.int .i64 s.o2k) ∧ W.cell? ⟨w.heap.size, 29, none⟩ = some (.int .i64 s.o2n)) [(0, true), (1, true), (2, true), (3, true), (4, true), (5, true), (6, true), (7, true), (8, true), (9, true), (10, true), (11, true), (12, true), (13, false), (14, false), (15, true)] (by kernel_rfl) (by kernel_rfl) (by kernel_rfl) (by decide) (fun _ _ _ _ _ h => h) (hS _ ⟨hbel.drew, hsty.drew⟩) (fun hS0 => ?_)
      simp only [Ord.lay, List.getElem?_cons_zero, List.getElem?_cons_succ]
      (refine Ord.take (v := ?_) (Or.inl ⟨rfl, ?_⟩) ?_; rotate_left; (intro w hSw; (try dsimp only at hSw); go_simp; try (with_reducible rfl)); (try simp only [Act.put, List.setIfInBounds_toArray, List.set_cons_zero, List.set_cons_succ]))
      (refine Ord.take (v := ?_) (Or.inl ⟨rfl, ?_⟩) ?_; rotate_left; (intro w hSw; (try dsimp only at hSw); go_simp; try (with_reducible rfl)); (try simp only [Act.put, List.setIfInBounds_toArray, List.set_cons_zero, List.set_cons_succ]))
      (refine Ord.take (v := ?_) (Or.inl ⟨rfl, ?_⟩) ?_; rotate_left; (intro w hSw; (try dsimp only at hSw); go_simp; try (with_reducible rfl)); (try simp only [Act.put, List.setIfInBounds_toArray, List.set_cons_zero, List.set_cons_succ]))
      (refine Ord.take (v := ?_) (Or.inl ⟨rfl, ?_⟩) ?_; rotate_left; (intro w hSw; (try dsimp only at hSw); go_simp; try (with_reducible rfl)); (try simp only [Act.put, List.setIfInBounds_toArray, List.set_cons_zero, List.set_cons_succ]))
      (refine Ord.take (v := ?_) (Or.inl ⟨rfl, ?_⟩) ?_; rotate_left; (intro w hSw; (try dsimp only at hSw); go_simp; try (with_reducible rfl)); (try simp only [Act.put, List.setIfInBounds_toArray, List.set_cons_zero, List.set_cons_succ]))
      (refine Ord.take (v := ?_) (Or.inl ⟨rfl, ?_⟩) ?_; rotate_left; (intro w hSw; (try dsimp only at hSw); go_simp; try (with_reducible rfl)); (try simp only [Act.put, List.setIfInBounds_toArray, List.set_cons_zero, List.set_cons_succ]))
      (refine Ord.take (v := ?_) (Or.inl ⟨rfl, ?_⟩) ?_; rotate_left; (intro w hSw; (try dsimp only at hSw); go_simp; try (with_reducible rfl)); (try simp only [Act.put, List.setIfInBounds_toArray, List.set_cons_zero, List.set_cons_succ]))
      (refine Ord.take (v := ?_) (Or.inl ⟨rfl, ?_⟩) ?_; rotate_left; (intro w hSw; (try dsimp only at hSw); go_simp; try (with_reducible rfl)); (try simp only [Act.put, List.setIfInBounds_toArray, List.set_cons_zero, List.set_cons_succ]))
      (refine Ord.take (v := ?_) (Or.inl ⟨rfl, ?_⟩) ?_; rotate_left; (intro w hSw; (try dsimp only at hSw); go_simp; try (with_reducible rfl)); (try simp only [Act.put, List.setIfInBounds_toArray, List.set_cons_zero, List.set_cons_succ]))
      (refine Ord.take (v := ?_) (Or.inl ⟨rfl, ?_⟩) ?_; rotate_left; (intro w hSw; (try dsimp only at hSw); go_simp; try (with_reducible rfl)); (try simp only [Act.put, List.setIfInBounds_toArray, List.set_cons_zero, List.set_cons_succ]))
      (refine Ord.take (v := ?_) (Or.inl ⟨rfl, ?_⟩) ?_; rotate_left; (intro w hSw; (try dsimp only at hSw); go_simp; try (with_reducible rfl)); (try simp only [Act.put, List.setIfInBounds_toArray, List.set_cons_zero, List.set_cons_succ]))
      (refine Ord.take (v := ?_) (Or.inl ⟨rfl, ?_⟩) ?_; rotate_left; (intro w hSw; (try dsimp only at hSw); go_simp; try (with_reducible rfl)); (try simp only [Act.put, List.setIfInBounds_toArray, List.set_cons_zero, List.set_cons_succ]))
      (refine Ord.take (v := ?_) (Or.inl ⟨rfl, ?_⟩) ?_; rotate_left; (intro w hSw; (try dsimp only at hSw); go_simp; try (with_reducible rfl)); (try simp only [Act.put, List.setIfInBounds_toArray, List.set_cons_zero, List.set_cons_succ]))
      refine Ord.alone rfl (fun K hK => ?_)
      go_simp
      have hS1 := hS (wr.alloc (.cells #[.int .i64 s.m2k, .int .i64 s.m2n, .int .i64 s.p2k, .int .i64 s.p2n, .int .i64 s.o2k, .int .i64 s.o2n] 23)).drew ⟨(hbel.alloc (by omega) _).drew, (hsty.alloc _).drew⟩
      refine hK.out _ _ hS1 (fun _ => ?_)
      clear hK K hS0
      (try simp only [Act.put, List.setIfInBounds_toArray, List.set_cons_zero, List.set_cons_succ])
      refine Ord.alone' rfl rfl (fun K hK => ?_)
      refine wp_append_own _ _ _ 67 rfl B 23 i0 (.agg #[.int .i64 0, .int .i64 0]) 2 16 Try.underlying67 hi hz0 hz1 hz2 rfl (by decide) u1 _ _ rfl (own_drew (hown.alloc (.cells #[.int .i64 s.m2k, .int .i64 s.m2n, .int .i64 s.p2k, .int .i64 s.p2n, .int .i64 s.o2k, .int .i64 s.o2n] 23))) ⟨wr.heap.size, 0, none⟩ 3 3 [.int .i64 s.m2k, .int .i64 s.m2n, .int .i64 s.p2k, .int .i64 s.p2n, .int .i64 s.o2k, .int .i64 s.o2n] rfl rfl (news_at (Blk.new wr 23 #[.int .i64 s.m2k, .int .i64 s.m2n, .int .i64 s.p2k, .int .i64 s.p2n, .int .i64 s.o2k, .int .i64 s.o2n]).drew rfl) (by simp [Value.oneCell']) (by unfold maxLen; omega) (by omega) (by simp; omega) ?_
      intro v' w' ho' hg' _
      have hS2 := hS w' ⟨hS1.1.1.trans (own_belowB (own_drew (hown.alloc (.cells #[.int .i64 s.m2k, .int .i64 s.m2n, .int .i64 s.p2k, .int .i64 s.p2n, .int .i64 s.o2k, .int .i64 s.o2n] 23))) hg' (by simp; omega)), hS1.1.2.grown (own_drew (hown.alloc (.cells #[.int .i64 s.m2k, .int .i64 s.m2n, .int .i64 s.p2k, .int .i64 s.p2n, .int .i64 s.o2k, .int .i64 s.o2n] 23))) hg' sty_not_len⟩
      (try simp only [Act.put, List.setIfInBounds_toArray, List.set_cons_zero, List.set_cons_succ])
      refine hK.out _ _ hS2 (fun _ => ?_)
      clear hK K hS1
      (refine Ord.take (v := ?_) (Or.inl ⟨rfl, ?_⟩) ?_; rotate_left; (intro w hSw; (try dsimp only at hSw); go_simp; try (with_reducible rfl)); (try simp only [Act.put, List.setIfInBounds_toArray, List.set_cons_zero, List.set_cons_succ]))
      refine Ord.done (NoPanic.normal ?_)
      obtain ⟨⟨hb2, hs2⟩, -⟩ := hS2
      clear hS hbel hsty hown hg'
      go_wp2_with fail
      go_roundw
      case rel => exact ⟨3, by omega, rfl, hb2, hs2, by simpa [Sty.lens, pair] using ho'⟩
      case measure => simp [intOf]
    · have hS : ∀ W, (Below B w W ∧ Blk W w.heap.size 28 s.arr) → (fun W => (Below B w W ∧ Blk W w.heap.size 28 s.arr) ∧ W.cell? ⟨w.heap.size, 14, none⟩ = some (.int .i64 s.m3k) ∧ W.cell? ⟨w.heap.size, 15, none⟩ = some (.int .i64 s.m3n) ∧ W.cell? ⟨w.heap.size, 22, none⟩ = some (.int .i64 s.p3k) ∧ W.cell? ⟨w.heap.size, 23, none⟩ = some (.int .i64 s.p3n) ∧ W.cell? ⟨w.heap.size, 30, none⟩ = some (.int .i64 s.o3k) ∧ W.cell? ⟨w.heap.size, 31, none⟩ = some (.int .i64 s.o3n)) W := fun W h => ⟨h, h.2.cell 14, h.2.cell 15, h.2.cell 22, h.2.cell 23, h.2.cell 30, h.2.cell 31⟩
      go_wp2_with fail
      refine wp_region_noPanic ?_
      refine Ord.region_ord (S := fun W => (Below B w W ∧ Blk W w.heap.size 28 s.arr) ∧ W.cell? ⟨w.heap.size, 14, none⟩ = some (.int .i64 s.m3k) ∧ W.cell? ⟨w.heap.size, 15, none⟩ = some (.int .i64 s.m3n) ∧ W.cell? ⟨w.heap.size, 22, none⟩ = some (.int .i64 s.p3k) ∧ W.cell? ⟨w.heap.size, 23, none⟩ = some (.int .i64 s.p3n) ∧ W.cell? ⟨w.heap.size, 30, none⟩ = some (.int .i64 s.o3k) ∧ W.cell? ⟨w.heap.size, 31, none⟩ = some (.int .i64 s.o3n)) [(0, true), (1, true), (2, true), (3, true), (4, true), (5, true), (6, true), (7, true), (8, true), (9, true), (10, true), (11, true), (12, true), (13, false), (14, false), (15, true)] (by kernel_rfl) (by kernel_rfl) (by kernel_rfl) (by decide) (fun _ _ _ _ _ h => h) (hS _ ⟨hbel.drew, hsty.drew⟩) (fun hS0 => ?_)
      simp only [Ord.lay, List.getElem?_cons_zero, List.getElem?_cons_succ]
      (refine Ord.take (v := ?_) (Or.inl ⟨rfl, ?_⟩) ?_; rotate_left; (intro w hSw; (try dsimp only at hSw); go_simp; try (with_reducible rfl)); (try simp only [Act.put, List.setIfInBounds_toArray, List.set_cons_zero, List.set_cons_succ]))
      (refine Ord.take (v := ?_) (Or.inl ⟨rfl, ?_⟩) ?_; rotate_left; (intro w hSw; (try dsimp only at hSw); go_simp; try (with_reducible rfl)); (try simp only [Act.put, List.setIfInBounds_toArray, List.set_cons_zero, List.set_cons_succ]))
      (refine Ord.take (v := ?_) (Or.inl ⟨rfl, ?_⟩) ?_; rotate_left; (intro w hSw; (try dsimp only at hSw); go_simp; try (with_reducible rfl)); (try simp only [Act.put, List.setIfInBounds_toArray, List.set_cons_zero, List.set_cons_succ]))
      (refine Ord.take (v := ?_) (Or.inl ⟨rfl, ?_⟩) ?_; rotate_left; (intro w hSw; (try dsimp only at hSw); go_simp; try (with_reducible rfl)); (try simp only [Act.put, List.setIfInBounds_toArray, List.set_cons_zero, List.set_cons_succ]))
      (refine Ord.take (v := ?_) (Or.inl ⟨rfl, ?_⟩) ?_; rotate_left; (intro w hSw; (try dsimp only at hSw); go_simp; try (with_reducible rfl)); (try simp only [Act.put, List.setIfInBounds_toArray, List.set_cons_zero, List.set_cons_succ]))
      (refine Ord.take (v := ?_) (Or.inl ⟨rfl, ?_⟩) ?_; rotate_left; (intro w hSw; (try dsimp only at hSw); go_simp; try (with_reducible rfl)); (try simp only [Act.put, List.setIfInBounds_toArray, List.set_cons_zero, List.set_cons_succ]))
      (refine Ord.take (v := ?_) (Or.inl ⟨rfl, ?_⟩) ?_; rotate_left; (intro w hSw; (try dsimp only at hSw); go_simp; try (with_reducible rfl)); (try simp only [Act.put, List.setIfInBounds_toArray, List.set_cons_zero, List.set_cons_succ]))
      (refine Ord.take (v := ?_) (Or.inl ⟨rfl, ?_⟩) ?_; rotate_left; (intro w hSw; (try dsimp only at hSw); go_simp; try (with_reducible rfl)); (try simp only [Act.put, List.setIfInBounds_toArray, List.set_cons_zero, List.set_cons_succ]))
      (refine Ord.take (v := ?_) (Or.inl ⟨rfl, ?_⟩) ?_; rotate_left; (intro w hSw; (try dsimp only at hSw); go_simp; try (with_reducible rfl)); (try simp only [Act.put, List.setIfInBounds_toArray, List.set_cons_zero, List.set_cons_succ]))
      (refine Ord.take (v := ?_) (Or.inl ⟨rfl, ?_⟩) ?_; rotate_left; (intro w hSw; (try dsimp only at hSw); go_simp; try (with_reducible rfl)); (try simp only [Act.put, List.setIfInBounds_toArray, List.set_cons_zero, List.set_cons_succ]))
      (refine Ord.take (v := ?_) (Or.inl ⟨rfl, ?_⟩) ?_; rotate_left; (intro w hSw; (try dsimp only at hSw); go_simp; try (with_reducible rfl)); (try simp only [Act.put, List.setIfInBounds_toArray, List.set_cons_zero, List.set_cons_succ]))
      (refine Ord.take (v := ?_) (Or.inl ⟨rfl, ?_⟩) ?_; rotate_left; (intro w hSw; (try dsimp only at hSw); go_simp; try (with_reducible rfl)); (try simp only [Act.put, List.setIfInBounds_toArray, List.set_cons_zero, List.set_cons_succ]))
      (refine Ord.take (v := ?_) (Or.inl ⟨rfl, ?_⟩) ?_; rotate_left; (intro w hSw; (try dsimp only at hSw); go_simp; try (with_reducible rfl)); (try simp only [Act.put, List.setIfInBounds_toArray, List.set_cons_zero, List.set_cons_succ]))
      refine Ord.alone rfl (fun K hK => ?_)
      go_simp
      have hS1 := hS (wr.alloc (.cells #[.int .i64 s.m3k, .int .i64 s.m3n, .int .i64 s.p3k, .int .i64 s.p3n, .int .i64 s.o3k, .int .i64 s.o3n] 23)).drew ⟨(hbel.alloc (by omega) _).drew, (hsty.alloc _).drew⟩
      refine hK.out _ _ hS1 (fun _ => ?_)
      clear hK K hS0
      (try simp only [Act.put, List.setIfInBounds_toArray, List.set_cons_zero, List.set_cons_succ])
      refine Ord.alone' rfl rfl (fun K hK => ?_)
      refine wp_append_own _ _ _ 67 rfl B 23 i0 (.agg #[.int .i64 0, .int .i64 0]) 2 16 Try.underlying67 hi hz0 hz1 hz2 rfl (by decide) u1 _ _ rfl (own_drew (hown.alloc (.cells #[.int .i64 s.m3k, .int .i64 s.m3n, .int .i64 s.p3k, .int .i64 s.p3n, .int .i64 s.o3k, .int .i64 s.o3n] 23))) ⟨wr.heap.size, 0, none⟩ 3 3 [.int .i64 s.m3k, .int .i64 s.m3n, .int .i64 s.p3k, .int .i64 s.p3n, .int .i64 s.o3k, .int .i64 s.o3n] rfl rfl (news_at (Blk.new wr 23 #[.int .i64 s.m3k, .int .i64 s.m3n, .int .i64 s.p3k, .int .i64 s.p3n, .int .i64 s.o3k, .int .i64 s.o3n]).drew rfl) (by simp [Value.oneCell']) (by unfold maxLen; omega) (by omega) (by simp; omega) ?_
      intro v' w' ho' hg' _
      have hS2 := hS w' ⟨hS1.1.1.trans (own_belowB (own_drew (hown.alloc (.cells #[.int .i64 s.m3k, .int .i64 s.m3n, .int .i64 s.p3k, .int .i64 s.p3n, .int .i64 s.o3k, .int .i64 s.o3n] 23))) hg' (by simp; omega)), hS1.1.2.grown (own_drew (hown.alloc (.cells #[.int .i64 s.m3k, .int .i64 s.m3n, .int .i64 s.p3k, .int .i64 s.p3n, .int .i64 s.o3k, .int .i64 s.o3n] 23))) hg' sty_not_len⟩
      (try simp only [Act.put, List.setIfInBounds_toArray, List.set_cons_zero, List.set_cons_succ])
      refine hK.out _ _ hS2 (fun _ => ?_)
      clear hK K hS1
      (refine Ord.take (v := ?_) (Or.inl ⟨rfl, ?_⟩) ?_; rotate_left; (intro w hSw; (try dsimp only at hSw); go_simp; try (with_reducible rfl)); (try simp only [Act.put, List.setIfInBounds_toArray, List.set_cons_zero, List.set_cons_succ]))
      refine Ord.done (NoPanic.normal ?_)
      obtain ⟨⟨hb2, hs2⟩, -⟩ := hS2
      clear hS hbel hsty hown hg'
      go_wp2_with fail
      go_roundw
      case rel => exact ⟨4, by omega, rfl, hb2, hs2, by simpa [Sty.lens, pair] using ho'⟩
      case measure => simp [intOf]
    · replace hown : wr.ownsRow B 23 2 u1 s.lens.length (s.lens.flatMap pair) := hown
      have hl2 : s.lens.length ≤ 14 := Nat.le_refl _
      obtain ⟨A, c, rfl, -⟩ := own_some hown
      have hA := Recs.of_own (fl := pair) (fun _ => rfl) (by decide) hown
      obtain ⟨L, hL⟩ : ∃ L, s.lens = L := ⟨_, rfl⟩
      have hQ : Hid (kinds s.lens = kinds L) := by show _ = _; rw [hL]
      rw [hL] at hA hl2 hown ⊢
      clear hL
      clear hown hsty hsz
      go_wp2_with fail
      go_loop [6] (fun i => ∃ k : Nat, k ≤ L.length ∧ i = .int .i64 k ∧ Hid (∀ j p, j < k → L[j]? = some p → 0 ≤ p.1 ∧ p.1 ≤ 2)) (fun i => L.length - (intOf i).toNat)
      case atStart => exact ⟨0, Nat.zero_le _, rfl, fun j p hj => by omega⟩
      case round =>
        obtain ⟨k, hk, rfl, HS⟩ := hrel
        by_cases hlt : k < L.length
        · obtain ⟨b, off, x, hA1, hb, HX, hc⟩ := hA.at_ hlt
          subst hA1
          have c0 := hc 0 _ rfl
          simp only [Nat.add_zero] at c0
          clear hc
          have HF : Hid (¬ (0 ≤ x.1 ∧ x.1 ≤ 2) → kinds L = false) := by
            intro hn
            unfold kinds
            rw [List.all_eq_false]
            refine ⟨x, List.mem_of_getElem? HX.out, ?_⟩
            simpa using hn
          rcases Int.lt_or_le x.1 0 with h1 | h1
          · go_wp2_with fail
            go_returns
            exact ⟨by rw [hQ.out, HF.out (by omega)]; rfl, hbel⟩
          · rcases Int.lt_or_le 2 x.1 with h2 | h2
            · go_wp2_with fail
              go_returns
              exact ⟨by rw [hQ.out, HF.out (by omega)]; rfl, hbel⟩
            · clear HF
              go_wp2_with fail
              go_round
              case rel =>
                refine ⟨k + 1, by omega, by go_num, fun j p q hj hp => ?_⟩
                rcases Nat.lt_or_ge j k with h3 | h3
                · exact HS.out j (p, q) h3 hp
                · obtain rfl : j = k := by omega
                  have := HX.out
                  rw [hp] at this
                  injection this with this
                  subst this
                  exact ⟨h1, h2⟩
              case measure => simp [intOf]; omega
        · obtain rfl : k = L.length := by omega
          have HF : Hid (kinds L = true) := by
            show _ = _
            unfold kinds
            rw [List.all_eq_true]
            intro x hx
            obtain ⟨j, hj, rfl⟩ := List.getElem_of_mem hx
            have := HS.out j _ hj (List.getElem?_eq_getElem hj)
            simpa using this
          go_wp2_with fail
          go_returns
          exact ⟨by rw [hQ.out, HF.out]; rfl, hbel⟩
end Go.Proofs.Ytkkabnkhdhlhkaa
