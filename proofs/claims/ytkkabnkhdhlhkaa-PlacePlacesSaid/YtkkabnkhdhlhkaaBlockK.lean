/-
  The walks of casementlaw16's small and named: rows that grow by append.
-/
import Derived.Test.YtkkabnkhdhlhkaaBlockJ
import Derived.OwnWalk
import Derived.WalkKit
namespace Go.Proofs.Ytkkabnkhdhlhkaa
open Go.RowKit Num Mem Opn
set_option linter.unusedVariables false
set_option linter.unusedSimpArgs false
namespace Num
def Sty.twelve (s : Sty) : List Int := [s.m0n, s.p0n, s.b0, s.m1n, s.p1n, s.b1, s.m2n, s.p2n, s.b2, s.m3n, s.p3n, s.b3]
def Sty.nums (s : Sty) : List Int := s.twelve ++ [s.wn]
/-- are all within 2^30? -/
def small30 (l : List Int) : Bool := l.all fun x => decide (-1073741824 ≤ x ∧ x ≤ 1073741824)
end Num
namespace Mem
theorem own_new {B : Nat} (w : World) (e : TypeId) (cur : Array Value) (hb : B ≤ w.heap.size) (hm : cur.size ≤ maxLen) : (w.alloc (.cells cur e)).ownsRow B e 1 (.slice (some ⟨w.heap.size, 0, none⟩) cur.size cur.size) cur.size cur.toList :=
  ⟨by simp, .inr ⟨w.heap.size, cur.size, cur, rfl, hb, heap_alloc_new w _, Nat.le_refl _, hm, by simp, by rw [Nat.mul_one, ← Array.length_toList, List.take_length]⟩⟩
theorem own_not {w : World} {B g size n : Nat} {t e : TypeId} {v : Value} {cs : Array Value} {xs : List Value} (h : Blk w g t cs) (ho : w.ownsRow B e size v n xs) (ht : t ≠ e) : some g ≠ v.ownBlock := by
  rcases ho.2 with ⟨rfl, _⟩ | ⟨g', cap, cur, rfl, _, hg, _⟩
  · simp [Value.ownBlock]
  · intro hh
    simp only [Value.ownBlock, Option.some.injEq] at hh
    subst hh
    rw [h] at hg
    simp only [Option.some.injEq, Obj.cells.injEq] at hg
    exact ht hg.2.1
theorem Blk.grown {w w' : World} {B g size n : Nat} {t e : TypeId} {v : Value} {cs : Array Value} {xs : List Value} (h : Blk w g t cs) (ho : w.ownsRow B e size v n xs) (hg : w.grownBy w' v.ownBlock) (ht : t ≠ e) : Blk w' g t cs :=
  (hg.block g h.lt (own_not h ho ht)).trans h
theorem own_belowB {w w' : World} {B size n : Nat} {e : TypeId} {v : Value} {xs : List Value} (ho : w.ownsRow B e size v n xs) (hg : w.grownBy w' v.ownBlock) (hB : B ≤ w.heap.size) : Below B w w' :=
  ⟨hg.os, hg.tape, hg.output, hg.size, fun k hk => hg.block k (by omega) (fun e => by have := (ho.lt k e.symm).1; omega)⟩
theorem own_drew {w : World} {B size n : Nat} {e : TypeId} {v : Value} {xs : List Value} (ho : w.ownsRow B e size v n xs) : w.drew.ownsRow B e size v n xs := ho
theorem own_seg {w : World} {B n : Nat} {e : TypeId} {v : Value} {xs : List Value} (ho : w.ownsRow B e 1 v n xs) : ∃ A c, v = .slice A n c ∧ Seg w w.heap.size A xs := by
  rcases ho.2 with ⟨rfl, rfl⟩ | ⟨g, cap, cur, rfl, _, hg, _⟩
  · have := ho.1
    simp at this
    subst this
    exact ⟨none, 0, rfl, Seg.nil _ _ _⟩
  · refine ⟨_, _, rfl, fun _ => ⟨g, 0, rfl, (Array.getElem?_eq_some_iff.1 hg).1, fun j hj => ?_⟩⟩
    have hx : xs[j]? = some xs[j] := List.getElem?_eq_getElem hj
    rw [hx]
    have := ho.cells (g := g) rfl j _ hx
    rwa [Addr.add_mid] at this
theorem news_at {w : World} {g : Nat} {t : TypeId} {cs : Array Value} {news : List Value} (hb : Blk w g t cs) (hn : cs.toList = news) : ∀ j u, news[j]? = some u → w.cell? ((⟨g, 0, none⟩ : Addr).add j) = some u := by
  intro j u hu
  rw [Addr.add_mid, Nat.zero_add, hb.cell]
  subst hn
  simpa using hu
end Mem
theorem info_int : (Try.prog.info? 2).map (fun i => (i.zero, i.size, i.bytes)) = some (some (.int .i64 0), 1, 8) := by kernel_rfl
theorem sty_not_int : (28 : Nat) ≠ 2 := by decide
set_option maxRecDepth 100000 in
set_option maxHeartbeats 4000000 in
theorem law16_small (s : Sty) (v0 : Value) (n : Nat) (l : List Int) (B : Nat) (w : World) (hB : B ≤ w.heap.size) (hn : n ≤ 1000) (hl : l.length = n) (ho : w.ownsRow B 2 1 v0 n (l.map (Value.int .i64))) :
    Calls Try.prog 12 #[.agg s.arr, v0] w fun e w' => e = .returned (.bool (small30 (l ++ s.nums))) ∧ Below B w w' := by
  obtain ⟨i0, hi, hz0, hz1, hz2⟩ := info_parts info_int
  have hw1 : Below B w (w.alloc (.cells s.arr 28)) := (Below.refl B w).alloc hB _
  have hw2 := Blk.new w 28 s.arr
  have hw3 := ho.alloc (.cells s.arr 28)
  go_enter Try.func12, Try.ntmps12
  go_wp2_with fail
  go_loopw [1, 5] (fun v i wr => ∃ k : Nat, k ≤ 4 ∧ i = .int .i64 k ∧ Below B w wr ∧ Blk wr w.heap.size 28 s.arr ∧ wr.ownsRow B 2 1 v (n + 3 * k) ((l ++ s.twelve.take (3 * k)).map (Value.int .i64))) (fun _ i _ => 4 - (intOf i).toNat)
  case atStart => exact ⟨0, by omega, rfl, hw1, hw2, by simpa using hw3⟩
  case round =>
    clear hw1 hw2 hw3
    obtain ⟨k, hk, rfl, hbel, hsty, hown⟩ := hrel
    have hsz := hbel.size
    obtain rfl | rfl | rfl | rfl | rfl : k = 0 ∨ k = 1 ∨ k = 2 ∨ k = 3 ∨ k = 4 := by omega
    · have hS : ∀ W, (Below B w W ∧ Blk W w.heap.size 28 s.arr) → (fun W => (Below B w W ∧ Blk W w.heap.size 28 s.arr) ∧ W.cell? ⟨w.heap.size, 9, none⟩ = some (.int .i64 s.m0n) ∧ W.cell? ⟨w.heap.size, 17, none⟩ = some (.int .i64 s.p0n) ∧ W.cell? ⟨w.heap.size, 32, none⟩ = some (.int .i64 s.b0)) W := fun W h => ⟨h, h.2.cell 9, h.2.cell 17, h.2.cell 32⟩
      go_wp2_with fail
      refine wp_region_noPanic ?_
      refine Ord.region_ord (S := fun W => (Below B w W ∧ Blk W w.heap.size 28 s.arr) ∧ W.cell? ⟨w.heap.size, 9, none⟩ = some (.int .i64 s.m0n) ∧ W.cell? ⟨w.heap.size, 17, none⟩ = some (.int .i64 s.p0n) ∧ W.cell? ⟨w.heap.size, 32, none⟩ = some (.int .i64 s.b0)) [(0, true), (1, true), (2, true), (3, true), (4, true), (5, true), (6, true), (7, true), (8, true), (9, true), (10, true), (11, true), (12, true), (13, true), (14, true), (15, false), (16, false), (17, true)] (by kernel_rfl) (by kernel_rfl) (by kernel_rfl) (by decide) (fun _ _ _ _ _ h => h) (hS _ ⟨hbel.drew, hsty.drew⟩) (fun hS0 => ?_)
      simp only [Ord.lay, List.getElem?_cons_zero, List.getElem?_cons_succ]
      (refine Ord.take (v := ?_) (Or.inl ⟨rfl, ?_⟩) ?_; rotate_left; (intro w hSw; (try dsimp only at hSw); go_simp; try (with_reducible rfl)); (try simp only [Act.put, List.setIfInBounds_toArray, List.set_cons_zero, List.set_cons_succ]))
      (refine Ord.take (v := ?_) (Or.inl ⟨rfl, ?_⟩) ?_; rotate_left; (intro w hSw; (try dsimp only at hSw); go_simp; try (with_reducible rfl)); (try simp only [Act.put, List.setIfInBounds_toArray, List.set_cons_zero, List.set_cons_succ]))
      (refine Ord.take (v := ?_) (Or.inl ⟨rfl, ?_⟩) ?_; rotate_left; (intro w hSw; (try dsimp only at hSw); go_simp; try (with_reducible rfl)); (try simp only [Act.put, List.setIfInBounds_toArray, List.set_cons_zero, List.set_cons_succ]))
      (refine Ord.take (v := ?_) (Or.inl ⟨rfl, ?_⟩) ?_; rotate_left; (intro w hSw; (try dsimp only at hSw); go_simp; try (with_reducible rfl)); (try simp only [Act.put, List.setIfInBounds_toArray, List.set_cons_zero, List.set_cons_succ]))
      (refine Ord.take (v := ?_) (Or.inl ⟨rfl, ?_⟩) ?_; rotate_left; (intro w hSw; (try dsimp only at hSw); go_simp; try (with_reducible rfl)); (try simp only [Act.put, List.setIfInBounds_toArray, List.set_cons_zero, List.set_cons_succ]))
      (refine Ord.take (v := ?_) (Or.inl ⟨rfl, ?_⟩) ?_; rotate_left; (intro w hSw; (try dsimp only at hSw); go_simp; try (with_reducible rfl)); (try simp only [Act.put, List.setIfInBounds_toArray, List.set_cons_zero, List.set_cons_succ]))
      (refine Ord.take (v := ?_) (Or.inl ⟨rfl, ?_⟩) ?_; rotate_left; (intro w hSw; (try dsimp only at hSw); go_simp; try (with_reducible rfl)); (try simp only [Act.put, List.setIfInBounds_toArray, List.set_cons_zero, List.set_cons_succ]))
      (refine Ord.take (v := ?_) (Or.inl ⟨rfl, ?_⟩) ?_; rotate_left; (intro w hSw; (try dsimp only at hSw); go_simp; try (with_reducible rfl)); (try simp only [Act.put, List.setIfInBounds_toArray, List.set_cons_zero, List.set_cons_succ]))
      (refine Ord.take (v := ?_) (Or.inl ⟨rfl, ?_⟩) ?_; rotate_left; (intro w hSw; (try dsimp only at hSw); go_simp; try (with_reducible rfl)); (try simp only [Act.put, List.setIfInBounds_toArray, List.set_cons_zero, List.set_cons_succ]))
      (refine Ord.take (v := ?_) (Or.inl ⟨rfl, ?_⟩) ?_; rotate_left; (intro w hSw; (try dsimp only at hSw); go_simp; try (with_reducible rfl)); (try simp only [Act.put, List.setIfInBounds_toArray, List.set_cons_zero, List.set_cons_succ]))
      (refine Ord.take (v := ?_) (Or.inl ⟨rfl, ?_⟩) ?_; rotate_left; (intro w hSw; (try dsimp only at hSw); go_simp; try (with_reducible rfl)); (try simp only [Act.put, List.setIfInBounds_toArray, List.set_cons_zero, List.set_cons_succ]))
      (refine Ord.take (v := ?_) (Or.inl ⟨rfl, ?_⟩) ?_; rotate_left; (intro w hSw; (try dsimp only at hSw); go_simp; try (with_reducible rfl)); (try simp only [Act.put, List.setIfInBounds_toArray, List.set_cons_zero, List.set_cons_succ]))
      (refine Ord.take (v := ?_) (Or.inl ⟨rfl, ?_⟩) ?_; rotate_left; (intro w hSw; (try dsimp only at hSw); go_simp; try (with_reducible rfl)); (try simp only [Act.put, List.setIfInBounds_toArray, List.set_cons_zero, List.set_cons_succ]))
      (refine Ord.take (v := ?_) (Or.inl ⟨rfl, ?_⟩) ?_; rotate_left; (intro w hSw; (try dsimp only at hSw); go_simp; try (with_reducible rfl)); (try simp only [Act.put, List.setIfInBounds_toArray, List.set_cons_zero, List.set_cons_succ]))
      (refine Ord.take (v := ?_) (Or.inl ⟨rfl, ?_⟩) ?_; rotate_left; (intro w hSw; (try dsimp only at hSw); go_simp; try (with_reducible rfl)); (try simp only [Act.put, List.setIfInBounds_toArray, List.set_cons_zero, List.set_cons_succ]))
      refine Ord.alone rfl (fun K hK => ?_)
      go_simp
      have hS1 := hS (wr.alloc (.cells #[.int .i64 s.m0n, .int .i64 s.p0n, .int .i64 s.b0] 2)).drew ⟨(hbel.alloc (by omega) _).drew, (hsty.alloc _).drew⟩
      refine hK.out _ _ hS1 (fun _ => ?_)
      clear hK K hS0
      (try simp only [Act.put, List.setIfInBounds_toArray, List.set_cons_zero, List.set_cons_succ])
      refine Ord.alone' rfl rfl (fun K hK => ?_)
      refine wp_append_own _ _ _ 66 rfl B 2 i0 (.int .i64 0) 1 8 Try.underlying66 hi hz0 hz1 hz2 rfl (by decide) u1 _ _ rfl (own_drew (hown.alloc (.cells #[.int .i64 s.m0n, .int .i64 s.p0n, .int .i64 s.b0] 2))) ⟨wr.heap.size, 0, none⟩ 3 3 [.int .i64 s.m0n, .int .i64 s.p0n, .int .i64 s.b0] rfl rfl (news_at (Blk.new wr 2 #[.int .i64 s.m0n, .int .i64 s.p0n, .int .i64 s.b0]).drew rfl) (by simp [Value.oneCell']) (by unfold maxLen; omega) (by omega) (by simp; omega) ?_
      intro v' w' ho' hg' _
      have hS2 := hS w' ⟨hS1.1.1.trans (own_belowB (own_drew (hown.alloc (.cells #[.int .i64 s.m0n, .int .i64 s.p0n, .int .i64 s.b0] 2))) hg' (by simp; omega)), hS1.1.2.grown (own_drew (hown.alloc (.cells #[.int .i64 s.m0n, .int .i64 s.p0n, .int .i64 s.b0] 2))) hg' sty_not_int⟩
      (try simp only [Act.put, List.setIfInBounds_toArray, List.set_cons_zero, List.set_cons_succ])
      refine hK.out _ _ hS2 (fun _ => ?_)
      clear hK K hS1
      (refine Ord.take (v := ?_) (Or.inl ⟨rfl, ?_⟩) ?_; rotate_left; (intro w hSw; (try dsimp only at hSw); go_simp; try (with_reducible rfl)); (try simp only [Act.put, List.setIfInBounds_toArray, List.set_cons_zero, List.set_cons_succ]))
      refine Ord.done (NoPanic.normal ?_)
      obtain ⟨⟨hb2, hs2⟩, -⟩ := hS2
      clear hS hbel hsty hown hg'
      go_wp2_with fail
      go_roundw
      case rel => exact ⟨1, by omega, rfl, hb2, hs2, by simpa [Sty.twelve] using ho'⟩
      case measure => simp [intOf]
    · have hS : ∀ W, (Below B w W ∧ Blk W w.heap.size 28 s.arr) → (fun W => (Below B w W ∧ Blk W w.heap.size 28 s.arr) ∧ W.cell? ⟨w.heap.size, 11, none⟩ = some (.int .i64 s.m1n) ∧ W.cell? ⟨w.heap.size, 19, none⟩ = some (.int .i64 s.p1n) ∧ W.cell? ⟨w.heap.size, 33, none⟩ = some (.int .i64 s.b1)) W := fun W h => ⟨h, h.2.cell 11, h.2.cell 19, h.2.cell 33⟩
      go_wp2_with fail
      refine wp_region_noPanic ?_
      refine Ord.region_ord (S := fun W => (Below B w W ∧ Blk W w.heap.size 28 s.arr) ∧ W.cell? ⟨w.heap.size, 11, none⟩ = some (.int .i64 s.m1n) ∧ W.cell? ⟨w.heap.size, 19, none⟩ = some (.int .i64 s.p1n) ∧ W.cell? ⟨w.heap.size, 33, none⟩ = some (.int .i64 s.b1)) [(0, true), (1, true), (2, true), (3, true), (4, true), (5, true), (6, true), (7, true), (8, true), (9, true), (10, true), (11, true), (12, true), (13, true), (14, true), (15, false), (16, false), (17, true)] (by kernel_rfl) (by kernel_rfl) (by kernel_rfl) (by decide) (fun _ _ _ _ _ h => h) (hS _ ⟨hbel.drew, hsty.drew⟩) (fun hS0 => ?_)
      simp only [Ord.lay, List.getElem?_cons_zero, List.getElem?_cons_succ]
      (refine Ord.take (v := ?_) (Or.inl ⟨rfl, ?_⟩) ?_; rotate_left; (intro w hSw; (try dsimp only at hSw); go_simp; try (with_reducible rfl)); (try simp only [Act.put, List.setIfInBounds_toArray, List.set_cons_zero, List.set_cons_succ]))
      (refine Ord.take (v := ?_) (Or.inl ⟨rfl, ?_⟩) ?_; rotate_left; (intro w hSw; (try dsimp only at hSw); go_simp; try (with_reducible rfl)); (try simp only [Act.put, List.setIfInBounds_toArray, List.set_cons_zero, List.set_cons_succ]))
      (refine Ord.take (v := ?_) (Or.inl ⟨rfl, ?_⟩) ?_; rotate_left; (intro w hSw; (try dsimp only at hSw); go_simp; try (with_reducible rfl)); (try simp only [Act.put, List.setIfInBounds_toArray, List.set_cons_zero, List.set_cons_succ]))
      (refine Ord.take (v := ?_) (Or.inl ⟨rfl, ?_⟩) ?_; rotate_left; (intro w hSw; (try dsimp only at hSw); go_simp; try (with_reducible rfl)); (try simp only [Act.put, List.setIfInBounds_toArray, List.set_cons_zero, List.set_cons_succ]))
      (refine Ord.take (v := ?_) (Or.inl ⟨rfl, ?_⟩) ?_; rotate_left; (intro w hSw; (try dsimp only at hSw); go_simp; try (with_reducible rfl)); (try simp only [Act.put, List.setIfInBounds_toArray, List.set_cons_zero, List.set_cons_succ]))
      (refine Ord.take (v := ?_) (Or.inl ⟨rfl, ?_⟩) ?_; rotate_left; (intro w hSw; (try dsimp only at hSw); go_simp; try (with_reducible rfl)); (try simp only [Act.put, List.setIfInBounds_toArray, List.set_cons_zero, List.set_cons_succ]))
      (refine Ord.take (v := ?_) (Or.inl ⟨rfl, ?_⟩) ?_; rotate_left; (intro w hSw; (try dsimp only at hSw); go_simp; try (with_reducible rfl)); (try simp only [Act.put, List.setIfInBounds_toArray, List.set_cons_zero, List.set_cons_succ]))
      (refine Ord.take (v := ?_) (Or.inl ⟨rfl, ?_⟩) ?_; rotate_left; (intro w hSw; (try dsimp only at hSw); go_simp; try (with_reducible rfl)); (try simp only [Act.put, List.setIfInBounds_toArray, List.set_cons_zero, List.set_cons_succ]))
      (refine Ord.take (v := ?_) (Or.inl ⟨rfl, ?_⟩) ?_; rotate_left; (intro w hSw; (try dsimp only at hSw); go_simp; try (with_reducible rfl)); (try simp only [Act.put, List.setIfInBounds_toArray, List.set_cons_zero, List.set_cons_succ]))
      (refine Ord.take (v := ?_) (Or.inl ⟨rfl, ?_⟩) ?_; rotate_left; (intro w hSw; (try dsimp only at hSw); go_simp; try (with_reducible rfl)); (try simp only [Act.put, List.setIfInBounds_toArray, List.set_cons_zero, List.set_cons_succ]))
      (refine Ord.take (v := ?_) (Or.inl ⟨rfl, ?_⟩) ?_; rotate_left; (intro w hSw; (try dsimp only at hSw); go_simp; try (with_reducible rfl)); (try simp only [Act.put, List.setIfInBounds_toArray, List.set_cons_zero, List.set_cons_succ]))
      (refine Ord.take (v := ?_) (Or.inl ⟨rfl, ?_⟩) ?_; rotate_left; (intro w hSw; (try dsimp only at hSw); go_simp; try (with_reducible rfl)); (try simp only [Act.put, List.setIfInBounds_toArray, List.set_cons_zero, List.set_cons_succ]))
      (refine Ord.take (v := ?_) (Or.inl ⟨rfl, ?_⟩) ?_; rotate_left; (intro w hSw; (try dsimp only at hSw); go_simp; try (with_reducible rfl)); (try simp only [Act.put, List.setIfInBounds_toArray, List.set_cons_zero, List.set_cons_succ]))
      (refine Ord.take (v := ?_) (Or.inl ⟨rfl, ?_⟩) ?_; rotate_left; (intro w hSw; (try dsimp only at hSw); go_simp; try (with_reducible rfl)); (try simp only [Act.put, List.setIfInBounds_toArray, List.set_cons_zero, List.set_cons_succ]))
      (refine Ord.take (v := ?_) (Or.inl ⟨rfl, ?_⟩) ?_; rotate_left; (intro w hSw; (try dsimp only at hSw); go_simp; try (with_reducible rfl)); (try simp only [Act.put, List.setIfInBounds_toArray, List.set_cons_zero, List.set_cons_succ]))
      refine Ord.alone rfl (fun K hK => ?_)
      go_simp
      have hS1 := hS (wr.alloc (.cells #[.int .i64 s.m1n, .int .i64 s.p1n, .int .i64 s.b1] 2)).drew ⟨(hbel.alloc (by omega) _).drew, (hsty.alloc _).drew⟩
      refine hK.out _ _ hS1 (fun _ => ?_)
      clear hK K hS0
      (try simp only [Act.put, List.setIfInBounds_toArray, List.set_cons_zero, List.set_cons_succ])
      refine Ord.alone' rfl rfl (fun K hK => ?_)
      refine wp_append_own _ _ _ 66 rfl B 2 i0 (.int .i64 0) 1 8 Try.underlying66 hi hz0 hz1 hz2 rfl (by decide) u1 _ _ rfl (own_drew (hown.alloc (.cells #[.int .i64 s.m1n, .int .i64 s.p1n, .int .i64 s.b1] 2))) ⟨wr.heap.size, 0, none⟩ 3 3 [.int .i64 s.m1n, .int .i64 s.p1n, .int .i64 s.b1] rfl rfl (news_at (Blk.new wr 2 #[.int .i64 s.m1n, .int .i64 s.p1n, .int .i64 s.b1]).drew rfl) (by simp [Value.oneCell']) (by unfold maxLen; omega) (by omega) (by simp; omega) ?_
      intro v' w' ho' hg' _
      have hS2 := hS w' ⟨hS1.1.1.trans (own_belowB (own_drew (hown.alloc (.cells #[.int .i64 s.m1n, .int .i64 s.p1n, .int .i64 s.b1] 2))) hg' (by simp; omega)), hS1.1.2.grown (own_drew (hown.alloc (.cells #[.int .i64 s.m1n, .int .i64 s.p1n, .int .i64 s.b1] 2))) hg' sty_not_int⟩
      (try simp only [Act.put, List.setIfInBounds_toArray, List.set_cons_zero, List.set_cons_succ])
      refine hK.out _ _ hS2 (fun _ => ?_)
      clear hK K hS1
      (refine Ord.take (v := ?_) (Or.inl ⟨rfl, ?_⟩) ?_; rotate_left; (intro w hSw; (try dsimp only at hSw); go_simp; try (with_reducible rfl)); (try simp only [Act.put, List.setIfInBounds_toArray, List.set_cons_zero, List.set_cons_succ]))
      refine Ord.done (NoPanic.normal ?_)
      obtain ⟨⟨hb2, hs2⟩, -⟩ := hS2
      clear hS hbel hsty hown hg'
      go_wp2_with fail
      go_roundw
      case rel => exact ⟨2, by omega, rfl, hb2, hs2, by simpa [Sty.twelve] using ho'⟩
      case measure => simp [intOf]
    · have hS : ∀ W, (Below B w W ∧ Blk W w.heap.size 28 s.arr) → (fun W => (Below B w W ∧ Blk W w.heap.size 28 s.arr) ∧ W.cell? ⟨w.heap.size, 13, none⟩ = some (.int .i64 s.m2n) ∧ W.cell? ⟨w.heap.size, 21, none⟩ = some (.int .i64 s.p2n) ∧ W.cell? ⟨w.heap.size, 34, none⟩ = some (.int .i64 s.b2)) W := fun W h => ⟨h, h.2.cell 13, h.2.cell 21, h.2.cell 34⟩
      go_wp2_with fail
      refine wp_region_noPanic ?_
      refine Ord.region_ord (S := fun W => (Below B w W ∧ Blk W w.heap.size 28 s.arr) ∧ W.cell? ⟨w.heap.size, 13, none⟩ = some (.int .i64 s.m2n) ∧ W.cell? ⟨w.heap.size, 21, none⟩ = some (.int .i64 s.p2n) ∧ W.cell? ⟨w.heap.size, 34, none⟩ = some (.int .i64 s.b2)) [(0, true), (1, true), (2, true), (3, true), (4, true), (5, true), (6, true), (7, true), (8, true), (9, true), (10, true), (11, true), (12, true), (13, true), (14, true), (15, false), (16, false), (17, true)] (by kernel_rfl) (by kernel_rfl) (by kernel_rfl) (by decide) (fun _ _ _ _ _ h => h) (hS _ ⟨hbel.drew, hsty.drew⟩) (fun hS0 => ?_)
      simp only [Ord.lay, List.getElem?_cons_zero, List.getElem?_cons_succ]
      (refine Ord.take (v := ?_) (Or.inl ⟨rfl, ?_⟩) ?_; rotate_left; (intro w hSw; (try dsimp only at hSw); go_simp; try (with_reducible rfl)); (try simp only [Act.put, List.setIfInBounds_toArray, List.set_cons_zero, List.set_cons_succ]))
      (refine Ord.take (v := ?_) (Or.inl ⟨rfl, ?_⟩) ?_; rotate_left; (intro w hSw; (try dsimp only at hSw); go_simp; try (with_reducible rfl)); (try simp only [Act.put, List.setIfInBounds_toArray, List.set_cons_zero, List.set_cons_succ]))
      (refine Ord.take (v := ?_) (Or.inl ⟨rfl, ?_⟩) ?_; rotate_left; (intro w hSw; (try dsimp only at hSw); go_simp; try (with_reducible rfl)); (try simp only [Act.put, List.setIfInBounds_toArray, List.set_cons_zero, List.set_cons_succ]))
      (refine Ord.take (v := ?_) (Or.inl ⟨rfl, ?_⟩) ?_; rotate_left; (intro w hSw; (try dsimp only at hSw); go_simp; try (with_reducible rfl)); (try simp only [Act.put, List.setIfInBounds_toArray, List.set_cons_zero, List.set_cons_succ]))
      (refine Ord.take (v := ?_) (Or.inl ⟨rfl, ?_⟩) ?_; rotate_left; (intro w hSw; (try dsimp only at hSw); go_simp; try (with_reducible rfl)); (try simp only [Act.put, List.setIfInBounds_toArray, List.set_cons_zero, List.set_cons_succ]))
      (refine Ord.take (v := ?_) (Or.inl ⟨rfl, ?_⟩) ?_; rotate_left; (intro w hSw; (try dsimp only at hSw); go_simp; try (with_reducible rfl)); (try simp only [Act.put, List.setIfInBounds_toArray, List.set_cons_zero, List.set_cons_succ]))
      (refine Ord.take (v := ?_) (Or.inl ⟨rfl, ?_⟩) ?_; rotate_left; (intro w hSw; (try dsimp only at hSw); go_simp; try (with_reducible rfl)); (try simp only [Act.put, List.setIfInBounds_toArray, List.set_cons_zero, List.set_cons_succ]))
      (refine Ord.take (v := ?_) (Or.inl ⟨rfl, ?_⟩) ?_; rotate_left; (intro w hSw; (try dsimp only at hSw); go_simp; try (with_reducible rfl)); (try simp only [Act.put, List.setIfInBounds_toArray, List.set_cons_zero, List.set_cons_succ]))
      (refine Ord.take (v := ?_) (Or.inl ⟨rfl, ?_⟩) ?_; rotate_left; (intro w hSw; (try dsimp only at hSw); go_simp; try (with_reducible rfl)); (try simp only [Act.put, List.setIfInBounds_toArray, List.set_cons_zero, List.set_cons_succ]))
      (refine Ord.take (v := ?_) (Or.inl ⟨rfl, ?_⟩) ?_; rotate_left; (intro w hSw; (try dsimp only at hSw); go_simp; try (with_reducible rfl)); (try simp only [Act.put, List.setIfInBounds_toArray, List.set_cons_zero, List.set_cons_succ]))
      (refine Ord.take (v := ?_) (Or.inl ⟨rfl, ?_⟩) ?_; rotate_left; (intro w hSw; (try dsimp only at hSw); go_simp; try (with_reducible rfl)); (try simp only [Act.put, List.setIfInBounds_toArray, List.set_cons_zero, List.set_cons_succ]))
      (refine Ord.take (v := ?_) (Or.inl ⟨rfl, ?_⟩) ?_; rotate_left; (intro w hSw; (try dsimp only at hSw); go_simp; try (with_reducible rfl)); (try simp only [Act.put, List.setIfInBounds_toArray, List.set_cons_zero, List.set_cons_succ]))
      (refine Ord.take (v := ?_) (Or.inl ⟨rfl, ?_⟩) ?_; rotate_left; (intro w hSw; (try dsimp only at hSw); go_simp; try (with_reducible rfl)); (try simp only [Act.put, List.setIfInBounds_toArray, List.set_cons_zero, List.set_cons_succ]))
      (refine Ord.take (v := ?_) (Or.inl ⟨rfl, ?_⟩) ?_; rotate_left; (intro w hSw; (try dsimp only at hSw); go_simp; try (with_reducible rfl)); (try simp only [Act.put, List.setIfInBounds_toArray, List.set_cons_zero, List.set_cons_succ]))
      (refine Ord.take (v := ?_) (Or.inl ⟨rfl, ?_⟩) ?_; rotate_left; (intro w hSw; (try dsimp only at hSw); go_simp; try (with_reducible rfl)); (try simp only [Act.put, List.setIfInBounds_toArray, List.set_cons_zero, List.set_cons_succ]))
      refine Ord.alone rfl (fun K hK => ?_)
      go_simp
      have hS1 := hS (wr.alloc (.cells #[.int .i64 s.m2n, .int .i64 s.p2n, .int .i64 s.b2] 2)).drew ⟨(hbel.alloc (by omega) _).drew, (hsty.alloc _).drew⟩
      refine hK.out _ _ hS1 (fun _ => ?_)
      clear hK K hS0
      (try simp only [Act.put, List.setIfInBounds_toArray, List.set_cons_zero, List.set_cons_succ])
      refine Ord.alone' rfl rfl (fun K hK => ?_)
      refine wp_append_own _ _ _ 66 rfl B 2 i0 (.int .i64 0) 1 8 Try.underlying66 hi hz0 hz1 hz2 rfl (by decide) u1 _ _ rfl (own_drew (hown.alloc (.cells #[.int .i64 s.m2n, .int .i64 s.p2n, .int .i64 s.b2] 2))) ⟨wr.heap.size, 0, none⟩ 3 3 [.int .i64 s.m2n, .int .i64 s.p2n, .int .i64 s.b2] rfl rfl (news_at (Blk.new wr 2 #[.int .i64 s.m2n, .int .i64 s.p2n, .int .i64 s.b2]).drew rfl) (by simp [Value.oneCell']) (by unfold maxLen; omega) (by omega) (by simp; omega) ?_
      intro v' w' ho' hg' _
      have hS2 := hS w' ⟨hS1.1.1.trans (own_belowB (own_drew (hown.alloc (.cells #[.int .i64 s.m2n, .int .i64 s.p2n, .int .i64 s.b2] 2))) hg' (by simp; omega)), hS1.1.2.grown (own_drew (hown.alloc (.cells #[.int .i64 s.m2n, .int .i64 s.p2n, .int .i64 s.b2] 2))) hg' sty_not_int⟩
      (try simp only [Act.put, List.setIfInBounds_toArray, List.set_cons_zero, List.set_cons_succ])
      refine hK.out _ _ hS2 (fun _ => ?_)
      clear hK K hS1
      (refine Ord.take (v := ?_) (Or.inl ⟨rfl, ?_⟩) ?_; rotate_left; (intro w hSw; (try dsimp only at hSw); go_simp; try (with_reducible rfl)); (try simp only [Act.put, List.setIfInBounds_toArray, List.set_cons_zero, List.set_cons_succ]))
      refine Ord.done (NoPanic.normal ?_)
      obtain ⟨⟨hb2, hs2⟩, -⟩ := hS2
      clear hS hbel hsty hown hg'
      go_wp2_with fail
      go_roundw
      case rel => exact ⟨3, by omega, rfl, hb2, hs2, by simpa [Sty.twelve] using ho'⟩
      case measure => simp [intOf]
    · have hS : ∀ W, (Below B w W ∧ Blk W w.heap.size 28 s.arr) → (fun W => (Below B w W ∧ Blk W w.heap.size 28 s.arr) ∧ W.cell? ⟨w.heap.size, 15, none⟩ = some (.int .i64 s.m3n) ∧ W.cell? ⟨w.heap.size, 23, none⟩ = some (.int .i64 s.p3n) ∧ W.cell? ⟨w.heap.size, 35, none⟩ = some (.int .i64 s.b3)) W := fun W h => ⟨h, h.2.cell 15, h.2.cell 23, h.2.cell 35⟩
      go_wp2_with fail
      refine wp_region_noPanic ?_
      refine Ord.region_ord (S := fun W => (Below B w W ∧ Blk W w.heap.size 28 s.arr) ∧ W.cell? ⟨w.heap.size, 15, none⟩ = some (.int .i64 s.m3n) ∧ W.cell? ⟨w.heap.size, 23, none⟩ = some (.int .i64 s.p3n) ∧ W.cell? ⟨w.heap.size, 35, none⟩ = some (.int .i64 s.b3)) [(0, true), (1, true), (2, true), (3, true), (4, true), (5, true), (6, true), (7, true), (8, true), (9, true), (10, true), (11, true), (12, true), (13, true), (14, true), (15, false), (16, false), (17, true)] (by kernel_rfl) (by kernel_rfl) (by kernel_rfl) (by decide) (fun _ _ _ _ _ h => h) (hS _ ⟨hbel.drew, hsty.drew⟩) (fun hS0 => ?_)
      simp only [Ord.lay, List.getElem?_cons_zero, List.getElem?_cons_succ]
      (refine Ord.take (v := ?_) (Or.inl ⟨rfl, ?_⟩) ?_; rotate_left; (intro w hSw; (try dsimp only at hSw); go_simp; try (with_reducible rfl)); (try simp only [Act.put, List.setIfInBounds_toArray, List.set_cons_zero, List.set_cons_succ]))
      (refine Ord.take (v := ?_) (Or.inl ⟨rfl, ?_⟩) ?_; rotate_left; (intro w hSw; (try dsimp only at hSw); go_simp; try (with_reducible rfl)); (try simp only [Act.put, List.setIfInBounds_toArray, List.set_cons_zero, List.set_cons_succ]))
      (refine Ord.take (v := ?_) (Or.inl ⟨rfl, ?_⟩) ?_; rotate_left; (intro w hSw; (try dsimp only at hSw); go_simp; try (with_reducible rfl)); (try simp only [Act.put, List.setIfInBounds_toArray, List.set_cons_zero, List.set_cons_succ]))
      (refine Ord.take (v := ?_) (Or.inl ⟨rfl, ?_⟩) ?_; rotate_left; (intro w hSw; (try dsimp only at hSw); go_simp; try (with_reducible rfl)); (try simp only [Act.put, List.setIfInBounds_toArray, List.set_cons_zero, List.set_cons_succ]))
      (refine Ord.take (v := ?_) (Or.inl ⟨rfl, ?_⟩) ?_; rotate_left; (intro w hSw; (try dsimp only at hSw); go_simp; try (with_reducible rfl)); (try simp only [Act.put, List.setIfInBounds_toArray, List.set_cons_zero, List.set_cons_succ]))
      (refine Ord.take (v := ?_) (Or.inl ⟨rfl, ?_⟩) ?_; rotate_left; (intro w hSw; (try dsimp only at hSw); go_simp; try (with_reducible rfl)); (try simp only [Act.put, List.setIfInBounds_toArray, List.set_cons_zero, List.set_cons_succ]))
      (refine Ord.take (v := ?_) (Or.inl ⟨rfl, ?_⟩) ?_; rotate_left; (intro w hSw; (try dsimp only at hSw); go_simp; try (with_reducible rfl)); (try simp only [Act.put, List.setIfInBounds_toArray, List.set_cons_zero, List.set_cons_succ]))
      (refine Ord.take (v := ?_) (Or.inl ⟨rfl, ?_⟩) ?_; rotate_left; (intro w hSw; (try dsimp only at hSw); go_simp; try (with_reducible rfl)); (try simp only [Act.put, List.setIfInBounds_toArray, List.set_cons_zero, List.set_cons_succ]))
      (refine Ord.take (v := ?_) (Or.inl ⟨rfl, ?_⟩) ?_; rotate_left; (intro w hSw; (try dsimp only at hSw); go_simp; try (with_reducible rfl)); (try simp only [Act.put, List.setIfInBounds_toArray, List.set_cons_zero, List.set_cons_succ]))
      (refine Ord.take (v := ?_) (Or.inl ⟨rfl, ?_⟩) ?_; rotate_left; (intro w hSw; (try dsimp only at hSw); go_simp; try (with_reducible rfl)); (try simp only [Act.put, List.setIfInBounds_toArray, List.set_cons_zero, List.set_cons_succ]))
      (refine Ord.take (v := ?_) (Or.inl ⟨rfl, ?_⟩) ?_; rotate_left; (intro w hSw; (try dsimp only at hSw); go_simp; try (with_reducible rfl)); (try simp only [Act.put, List.setIfInBounds_toArray, List.set_cons_zero, List.set_cons_succ]))
      (refine Ord.take (v := ?_) (Or.inl ⟨rfl, ?_⟩) ?_; rotate_left; (intro w hSw; (try dsimp only at hSw); go_simp; try (with_reducible rfl)); (try simp only [Act.put, List.setIfInBounds_toArray, List.set_cons_zero, List.set_cons_succ]))
      (refine Ord.take (v := ?_) (Or.inl ⟨rfl, ?_⟩) ?_; rotate_left; (intro w hSw; (try dsimp only at hSw); go_simp; try (with_reducible rfl)); (try simp only [Act.put, List.setIfInBounds_toArray, List.set_cons_zero, List.set_cons_succ]))
      (refine Ord.take (v := ?_) (Or.inl ⟨rfl, ?_⟩) ?_; rotate_left; (intro w hSw; (try dsimp only at hSw); go_simp; try (with_reducible rfl)); (try simp only [Act.put, List.setIfInBounds_toArray, List.set_cons_zero, List.set_cons_succ]))
      (refine Ord.take (v := ?_) (Or.inl ⟨rfl, ?_⟩) ?_; rotate_left; (intro w hSw; (try dsimp only at hSw); go_simp; try (with_reducible rfl)); (try simp only [Act.put, List.setIfInBounds_toArray, List.set_cons_zero, List.set_cons_succ]))
      refine Ord.alone rfl (fun K hK => ?_)
      go_simp
      have hS1 := hS (wr.alloc (.cells #[.int .i64 s.m3n, .int .i64 s.p3n, .int .i64 s.b3] 2)).drew ⟨(hbel.alloc (by omega) _).drew, (hsty.alloc _).drew⟩
      refine hK.out _ _ hS1 (fun _ => ?_)
      clear hK K hS0
      (try simp only [Act.put, List.setIfInBounds_toArray, List.set_cons_zero, List.set_cons_succ])
      refine Ord.alone' rfl rfl (fun K hK => ?_)
      refine wp_append_own _ _ _ 66 rfl B 2 i0 (.int .i64 0) 1 8 Try.underlying66 hi hz0 hz1 hz2 rfl (by decide) u1 _ _ rfl (own_drew (hown.alloc (.cells #[.int .i64 s.m3n, .int .i64 s.p3n, .int .i64 s.b3] 2))) ⟨wr.heap.size, 0, none⟩ 3 3 [.int .i64 s.m3n, .int .i64 s.p3n, .int .i64 s.b3] rfl rfl (news_at (Blk.new wr 2 #[.int .i64 s.m3n, .int .i64 s.p3n, .int .i64 s.b3]).drew rfl) (by simp [Value.oneCell']) (by unfold maxLen; omega) (by omega) (by simp; omega) ?_
      intro v' w' ho' hg' _
      have hS2 := hS w' ⟨hS1.1.1.trans (own_belowB (own_drew (hown.alloc (.cells #[.int .i64 s.m3n, .int .i64 s.p3n, .int .i64 s.b3] 2))) hg' (by simp; omega)), hS1.1.2.grown (own_drew (hown.alloc (.cells #[.int .i64 s.m3n, .int .i64 s.p3n, .int .i64 s.b3] 2))) hg' sty_not_int⟩
      (try simp only [Act.put, List.setIfInBounds_toArray, List.set_cons_zero, List.set_cons_succ])
      refine hK.out _ _ hS2 (fun _ => ?_)
      clear hK K hS1
      (refine Ord.take (v := ?_) (Or.inl ⟨rfl, ?_⟩) ?_; rotate_left; (intro w hSw; (try dsimp only at hSw); go_simp; try (with_reducible rfl)); (try simp only [Act.put, List.setIfInBounds_toArray, List.set_cons_zero, List.set_cons_succ]))
      refine Ord.done (NoPanic.normal ?_)
      obtain ⟨⟨hb2, hs2⟩, -⟩ := hS2
      clear hS hbel hsty hown hg'
      go_wp2_with fail
      go_roundw
      case rel => exact ⟨4, by omega, rfl, hb2, hs2, by simpa [Sty.twelve] using ho'⟩
      case measure => simp [intOf]
    · have c5 : wr.cell? ⟨w.heap.size, 5, none⟩ = some (.int .i64 s.wn) := hsty.cell 5
      have hown' := hown.alloc (.cells #[.int .i64 s.wn] 2)
      go_wp2_with (first | (at_builtin; refine wpList_append_own _ rfl (.tmp 28) (.tmp 32) 66 rfl B 2 i0 (.int .i64 0) 1 8 Try.underlying66 hi hz0 hz1 hz2 rfl (by decide) u1 _ _ rfl hown' ⟨wr.heap.size, 0, none⟩ 1 1 [.int .i64 s.wn] rfl rfl (news_at (Blk.new wr 2 #[.int .i64 s.wn]) rfl) (by simp [Value.oneCell']) (by unfold maxLen; omega) (by omega) (by simp; omega) ?_))
      intro v' w2 ho2 hg2 _
      have hb2 : Below B w w2 := (hbel.alloc (by omega) _).trans (own_belowB hown' hg2 (by simp; omega))
      clear hown hown' hg2 hbel hsty c5 hsz
      replace ho2 : w2.ownsRow B 2 1 v' (n + 13) ((l ++ s.nums).map (Value.int .i64)) := by simpa [Sty.nums, Sty.twelve] using ho2
      obtain ⟨A, c, rfl, hA⟩ := own_seg ho2
      obtain ⟨L, hL⟩ : ∃ L, l ++ s.nums = L := ⟨_, rfl⟩
      have hlen : n + 13 = L.length := by rw [← hL]; simp [Sty.nums, Sty.twelve, hl]
      have hl2 : L.length ≤ 1013 := by omega
      replace hA : Ints w2 w2.heap.size A L := by rw [← hL]; exact hA
      have hQ : Hid (small30 (l ++ s.nums) = small30 L) := by show _ = _; rw [hL]
      clear ho2 hL
      rw [hlen]
      (try simp only [Act.put, List.setIfInBounds_toArray, List.set_cons_zero, List.set_cons_succ])
      go_wp2_with fail
      go_loop [6] (fun i => ∃ k : Nat, k ≤ L.length ∧ i = .int .i64 k ∧ Hid (∀ j, j < k → -1073741824 ≤ L.getD j 0 ∧ L.getD j 0 ≤ 1073741824)) (fun i => L.length - (intOf i).toNat)
      case atStart => exact ⟨0, Nat.zero_le _, rfl, fun j hj => by omega⟩
      case round =>
        obtain ⟨k, hk, rfl, HS⟩ := hrel
        by_cases hlt : k < L.length
        · obtain ⟨b, off, x, rfl, hb, hc, HX⟩ := hA.at_ hlt
          have HF : Hid (¬ (-1073741824 ≤ x ∧ x ≤ 1073741824) → small30 L = false) := by
            intro hn
            unfold small30
            rw [List.all_eq_false]
            refine ⟨L[k], List.getElem_mem hlt, ?_⟩
            have := HX.out
            rw [List.getD_eq_getElem?_getD, List.getElem?_eq_getElem hlt, Option.getD_some] at this
            rw [this]
            simpa using hn
          rcases Int.lt_or_le 1073741824 x with h1 | h1
          · go_wp2_with fail
            go_returns
            exact ⟨by rw [hQ.out, HF.out (by omega)]; rfl, hb2⟩
          · rcases Int.lt_or_le x (-1073741824) with h2 | h2
            · go_wp2_with fail
              go_returns
              exact ⟨by rw [hQ.out, HF.out (by omega)]; rfl, hb2⟩
            · clear HF
              go_wp2_with fail
              go_round
              case rel =>
                refine ⟨k + 1, by omega, by go_num, fun j hj => ?_⟩
                rcases Nat.lt_or_ge j k with h3 | h3
                · exact HS.out j h3
                · obtain rfl : j = k := by omega
                  rw [HX.out]; exact ⟨h2, h1⟩
              case measure => simp [intOf]; omega
        · obtain rfl : k = L.length := by omega
          have HF : Hid (small30 L = true) := by
            show _ = _
            unfold small30
            rw [List.all_eq_true]
            intro x hx
            obtain ⟨j, hj, rfl⟩ := List.getElem_of_mem hx
            have := HS.out j hj
            rw [List.getD_eq_getElem?_getD, List.getElem?_eq_getElem hj, Option.getD_some] at this
            simpa using this
          go_wp2_with fail
          go_returns
          exact ⟨by rw [hQ.out, HF.out]; rfl, hb2⟩
end Go.Proofs.Ytkkabnkhdhlhkaa
