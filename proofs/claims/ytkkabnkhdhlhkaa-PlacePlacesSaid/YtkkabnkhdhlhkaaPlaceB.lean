/-
  The walks of place.one (at each of Shift's closures) and place.Shift.
-/
import Derived.Test.YtkkabnkhdhlhkaaPlaceA
import Derived.Test.YtkkabnkhdhlhkaaOrd
namespace Go.Proofs.Ytkkabnkhdhlhkaa
open Go.RowKit Num Mem Opn
set_option linter.unusedVariables false
set_option linter.unusedSimpArgs false
namespace Num
def Sty.shift (s : Sty) (wd ht : Int) (sure : Bool) : Int × Int := (oneOf (len s.o3k s.o3n wd, given s.o3k) (len s.o1k s.o1n wd, given s.o1k), oneOf (upTo s.o0k s.o0n ht sure) (upTo s.o2k s.o2n ht sure))
end Num
theorem cell_on {w W : World} {p : Addr} {v : Value} {B : Nat} (hp : w.cell? p = some v) (hb : Below B w W) (h : p.block < B) : W.cell? p = some v := (hb.cell h).trans hp
set_option maxRecDepth 100000 in
theorem place_one1 (k n k' n' room : Int) (p : Addr) (w : World) (hp : w.cell? p = some (.int .i64 room)) :
    Calls Try.prog 49 #[.agg #[.int .i64 k, .int .i64 n], .agg #[.int .i64 k', .int .i64 n'], .func (.func 47) #[] #[.pointer (some p)]] w fun e w' => e = .returned (.int .i64 (oneOf (len k n room, given k) (len k' n' room, given k'))) ∧ Below w.heap.size w w' := by
  have hbp := World.block_lt_of_cell? w p hp
  have hB : Blk ((w.alloc (.cells #[.int .i64 k, .int .i64 n] 23)).alloc (.cells #[.int .i64 k', .int .i64 n'] 23)) (w.heap.size + 1) 23 #[.int .i64 k', .int .i64 n'] := Blk.newAt _ _ _ (by simp)
  have hg : Below w.heap.size w ((w.alloc (.cells #[.int .i64 k, .int .i64 n] 23)).alloc (.cells #[.int .i64 k', .int .i64 n'] 23)) := by go_grown
  cases hgv : given k <;> (
  go_enter Try.func49, Try.ntmps49
  go_wp2_with fail
  refine (place_c1 k n room p _ (cell_on hp hg hbp)).mono ?_
  rintro e w1 ⟨rfl, hb⟩
  rw [hgv]
  replace hg := hg.trans (hb.mono hg.size)
  replace hB := hB.below hb (by simp)
  clear hb
  have c0 : w1.cell? ⟨w.heap.size + 1, 0, none⟩ = some (.int .i64 k') := hB.cell 0
  have c1 : w1.cell? ⟨w.heap.size + 1, 1, none⟩ = some (.int .i64 n') := hB.cell 1
  clear hB
  go_wp2_with fail
  first
  | (go_returns
     exact ⟨rfl, hg⟩)
  | (refine (place_c1 k' n' room p _ (cell_on hp hg hbp)).mono ?_
     rintro e w2 ⟨rfl, hb⟩
     replace hg := hg.trans (hb.mono hg.size)
     go_wp2_with (first | (go_at_call 35; refine (fixed_Sub _ _ _).mono ?_; rintro e w' ⟨rfl, rfl⟩))
     go_returns
     exact ⟨rfl, hg⟩))
set_option maxRecDepth 100000 in
theorem place_one2 (k n k' n' room : Int) (sure : Bool) (p q : Addr) (w : World) (hp : w.cell? p = some (.bool sure)) (hq : w.cell? q = some (.int .i64 room)) :
    Calls Try.prog 49 #[.agg #[.int .i64 k, .int .i64 n], .agg #[.int .i64 k', .int .i64 n'], .func (.func 48) #[] #[.pointer (some p), .pointer (some q)]] w fun e w' => e = .returned (.int .i64 (oneOf (upTo k n room sure) (upTo k' n' room sure))) ∧ Below w.heap.size w w' := by
  have hbp := World.block_lt_of_cell? w p hp
  have hbq := World.block_lt_of_cell? w q hq
  have hB : Blk ((w.alloc (.cells #[.int .i64 k, .int .i64 n] 23)).alloc (.cells #[.int .i64 k', .int .i64 n'] 23)) (w.heap.size + 1) 23 #[.int .i64 k', .int .i64 n'] := Blk.newAt _ _ _ (by simp)
  have hg : Below w.heap.size w ((w.alloc (.cells #[.int .i64 k, .int .i64 n] 23)).alloc (.cells #[.int .i64 k', .int .i64 n'] 23)) := by go_grown
  obtain ⟨U, hU⟩ : ∃ U, upTo k n room sure = U := ⟨_, rfl⟩
  obtain ⟨U', hU'⟩ : ∃ U, upTo k' n' room sure = U := ⟨_, rfl⟩
  rw [hU, hU']
  obtain ⟨u, b⟩ := U
  replace hU := hid hU
  replace hU' := hid hU'
  cases b <;> (
  go_enter Try.func49, Try.ntmps49
  go_wp2_with fail
  refine (place_c2 k n room sure p q _ (cell_on hp hg hbp) (cell_on hq hg hbq)).mono ?_
  rw [hU.out]
  rintro e w1 ⟨rfl, hb⟩
  replace hg := hg.trans (hb.mono hg.size)
  replace hB := hB.below hb (by simp)
  clear hb
  have c0 : w1.cell? ⟨w.heap.size + 1, 0, none⟩ = some (.int .i64 k') := hB.cell 0
  have c1 : w1.cell? ⟨w.heap.size + 1, 1, none⟩ = some (.int .i64 n') := hB.cell 1
  clear hB
  go_wp2_with fail
  first
  | (go_returns
     exact ⟨rfl, hg⟩)
  | (refine (place_c2 k' n' room sure p q _ (cell_on hp hg hbp) (cell_on hq hg hbq)).mono ?_
     rw [hU'.out]
     rintro e w2 ⟨rfl, hb⟩
     replace hg := hg.trans (hb.mono hg.size)
     go_wp2_with (first | (go_at_call 35; refine (fixed_Sub _ _ _).mono ?_; rintro e w' ⟨rfl, rfl⟩))
     go_returns
     exact ⟨rfl, hg⟩))
set_option maxRecDepth 100000 in
set_option maxHeartbeats 2000000 in
theorem place_Shift (s : Sty) (wd ht : Int) (sure : Bool) (w : World) : Calls Try.prog 27 #[.agg s.arr, .int .i64 wd, .int .i64 ht, .bool sure] w fun e w' => e = .returned (.tuple #[.int .i64 (s.shift wd ht sure).1, .int .i64 (s.shift wd ht sure).2]) ∧ Below w.heap.size w w' := by
  have hI : (fun W => Below w.heap.size w W ∧ Blk W w.heap.size 28 s.arr ∧ Blk W (w.heap.size + 1) 2 #[.int .i64 wd] ∧ Blk W (w.heap.size + 1 + 1) 2 #[.int .i64 ht] ∧ Blk W (w.heap.size + 1 + 1 + 1) 4 #[.bool sure]) ((((w.alloc (.cells s.arr 28)).alloc (.cells #[.int .i64 wd] 2)).alloc (.cells #[.int .i64 ht] 2)).alloc (.cells #[.bool sure] 4)) := ⟨by go_grown, (((Blk.new _ _ _).alloc _).alloc _).alloc _, ((Blk.newAt _ _ _ (by simp)).alloc _).alloc _, (Blk.newAt _ _ _ (by simp)).alloc _, Blk.newAt _ _ _ (by simp)⟩
  have hS : ∀ W, (Below w.heap.size w W ∧ Blk W w.heap.size 28 s.arr ∧ Blk W (w.heap.size + 1) 2 #[.int .i64 wd] ∧ Blk W (w.heap.size + 1 + 1) 2 #[.int .i64 ht] ∧ Blk W (w.heap.size + 1 + 1 + 1) 4 #[.bool sure]) → (fun W => (Below w.heap.size w W ∧ Blk W w.heap.size 28 s.arr ∧ Blk W (w.heap.size + 1) 2 #[.int .i64 wd] ∧ Blk W (w.heap.size + 1 + 1) 2 #[.int .i64 ht] ∧ Blk W (w.heap.size + 1 + 1 + 1) 4 #[.bool sure]) ∧ W.cell? ⟨w.heap.size, 30, none⟩ = some (.int .i64 s.o3k) ∧ W.cell? ⟨w.heap.size, 31, none⟩ = some (.int .i64 s.o3n) ∧ W.cell? ⟨w.heap.size, 26, none⟩ = some (.int .i64 s.o1k) ∧ W.cell? ⟨w.heap.size, 27, none⟩ = some (.int .i64 s.o1n) ∧ W.cell? ⟨w.heap.size, 24, none⟩ = some (.int .i64 s.o0k) ∧ W.cell? ⟨w.heap.size, 25, none⟩ = some (.int .i64 s.o0n) ∧ W.cell? ⟨w.heap.size, 28, none⟩ = some (.int .i64 s.o2k) ∧ W.cell? ⟨w.heap.size, 29, none⟩ = some (.int .i64 s.o2n)) W := fun W h => ⟨h, h.2.1.cell 30, h.2.1.cell 31, h.2.1.cell 26, h.2.1.cell 27, h.2.1.cell 24, h.2.1.cell 25, h.2.1.cell 28, h.2.1.cell 29⟩
  go_enter Try.func27, Try.ntmps27
  go_wp2_with fail
  refine wp_forget (fun W => Below w.heap.size w W ∧ Blk W w.heap.size 28 s.arr ∧ Blk W (w.heap.size + 1) 2 #[.int .i64 wd] ∧ Blk W (w.heap.size + 1 + 1) 2 #[.int .i64 ht] ∧ Blk W (w.heap.size + 1 + 1 + 1) 4 #[.bool sure]) hI ?_
  clear hI
  intro w0 hI
  refine wp_region_noPanic ?_
  refine Ord.region_ord (S := fun W => (Below w.heap.size w W ∧ Blk W w.heap.size 28 s.arr ∧ Blk W (w.heap.size + 1) 2 #[.int .i64 wd] ∧ Blk W (w.heap.size + 1 + 1) 2 #[.int .i64 ht] ∧ Blk W (w.heap.size + 1 + 1 + 1) 4 #[.bool sure]) ∧ W.cell? ⟨w.heap.size, 30, none⟩ = some (.int .i64 s.o3k) ∧ W.cell? ⟨w.heap.size, 31, none⟩ = some (.int .i64 s.o3n) ∧ W.cell? ⟨w.heap.size, 26, none⟩ = some (.int .i64 s.o1k) ∧ W.cell? ⟨w.heap.size, 27, none⟩ = some (.int .i64 s.o1n) ∧ W.cell? ⟨w.heap.size, 24, none⟩ = some (.int .i64 s.o0k) ∧ W.cell? ⟨w.heap.size, 25, none⟩ = some (.int .i64 s.o0n) ∧ W.cell? ⟨w.heap.size, 28, none⟩ = some (.int .i64 s.o2k) ∧ W.cell? ⟨w.heap.size, 29, none⟩ = some (.int .i64 s.o2n)) [(0, true), (1, true), (2, true), (3, true), (4, true), (5, true), (6, true), (8, true), (9, true), (10, true), (11, true), (12, true), (13, true), (14, true), (7, false), (15, false), (16, true), (17, true)] (by kernel_rfl) (by kernel_rfl) (by kernel_rfl) (by decide) (fun _ _ _ _ _ h => h) (hS _ ⟨hI.1.drew, hI.2.1.drew, hI.2.2.1.drew, hI.2.2.2.1.drew, hI.2.2.2.2.drew⟩) (fun hS0 => ?_)
  simp only [Ord.lay, List.getElem?_cons_zero, List.getElem?_cons_succ]
  (refine Ord.take (v := ?_) (Or.inl ⟨rfl, ?_⟩) ?_; rotate_left; (intro w hSw; (try dsimp only at hSw); go_simp; try (with_reducible rfl)); (try simp only [Act.put, List.setIfInBounds_toArray, List.set_cons_zero, List.set_cons_succ]))
  (refine Ord.take (v := ?_) (Or.inl ⟨rfl, ?_⟩) ?_; rotate_left; (intro w hSw; (try dsimp only at hSw); go_simp; try (with_reducible rfl)); (try simp only [Act.put, List.setIfInBounds_toArray, List.set_cons_zero, List.set_cons_succ]))
  (refine Ord.take (v := ?_) (Or.inl ⟨rfl, ?_⟩) ?_; rotate_left; (intro w hSw; (try dsimp only at hSw); go_simp; try (with_reducible rfl)); (try simp only [Act.put, List.setIfInBounds_toArray, List.set_cons_zero, List.set_cons_succ]))
  (refine Ord.take (v := ?_) (Or.inl ⟨rfl, ?_⟩) ?_; rotate_left; (intro w hSw; (try dsimp only at hSw); go_simp; try (with_reducible rfl)); (try simp only [Act.put, List.setIfInBounds_toArray, List.set_cons_zero, List.set_cons_succ]))
  (refine Ord.take (v := ?_) (Or.inl ⟨rfl, ?_⟩) ?_; rotate_left; (intro w hSw; (try dsimp only at hSw); go_simp; try (with_reducible rfl)); (try simp only [Act.put, List.setIfInBounds_toArray, List.set_cons_zero, List.set_cons_succ]))
  (refine Ord.take (v := ?_) (Or.inl ⟨rfl, ?_⟩) ?_; rotate_left; (intro w hSw; (try dsimp only at hSw); go_simp; try (with_reducible rfl)); (try simp only [Act.put, List.setIfInBounds_toArray, List.set_cons_zero, List.set_cons_succ]))
  (refine Ord.take (v := ?_) (Or.inl ⟨rfl, ?_⟩) ?_; rotate_left; (intro w hSw; (try dsimp only at hSw); go_simp; try (with_reducible rfl)); (try simp only [Act.put, List.setIfInBounds_toArray, List.set_cons_zero, List.set_cons_succ]))
  (refine Ord.take (v := ?_) (Or.inl ⟨rfl, ?_⟩) ?_; rotate_left; (intro w hSw; (try dsimp only at hSw); go_simp; try (with_reducible rfl)); (try simp only [Act.put, List.setIfInBounds_toArray, List.set_cons_zero, List.set_cons_succ]))
  (refine Ord.take (v := ?_) (Or.inl ⟨rfl, ?_⟩) ?_; rotate_left; (intro w hSw; (try dsimp only at hSw); go_simp; try (with_reducible rfl)); (try simp only [Act.put, List.setIfInBounds_toArray, List.set_cons_zero, List.set_cons_succ]))
  (refine Ord.take (v := ?_) (Or.inl ⟨rfl, ?_⟩) ?_; rotate_left; (intro w hSw; (try dsimp only at hSw); go_simp; try (with_reducible rfl)); (try simp only [Act.put, List.setIfInBounds_toArray, List.set_cons_zero, List.set_cons_succ]))
  (refine Ord.take (v := ?_) (Or.inl ⟨rfl, ?_⟩) ?_; rotate_left; (intro w hSw; (try dsimp only at hSw); go_simp; try (with_reducible rfl)); (try simp only [Act.put, List.setIfInBounds_toArray, List.set_cons_zero, List.set_cons_succ]))
  (refine Ord.take (v := ?_) (Or.inl ⟨rfl, ?_⟩) ?_; rotate_left; (intro w hSw; (try dsimp only at hSw); go_simp; try (with_reducible rfl)); (try simp only [Act.put, List.setIfInBounds_toArray, List.set_cons_zero, List.set_cons_succ]))
  (refine Ord.take (v := ?_) (Or.inl ⟨rfl, ?_⟩) ?_; rotate_left; (intro w hSw; (try dsimp only at hSw); go_simp; try (with_reducible rfl)); (try simp only [Act.put, List.setIfInBounds_toArray, List.set_cons_zero, List.set_cons_succ]))
  (refine Ord.take (v := ?_) (Or.inl ⟨rfl, ?_⟩) ?_; rotate_left; (intro w hSw; (try dsimp only at hSw); go_simp; try (with_reducible rfl)); (try simp only [Act.put, List.setIfInBounds_toArray, List.set_cons_zero, List.set_cons_succ]))
  refine Ord.alone rfl (fun K hK => ?_)
  go_simp
  refine (place_one1 _ _ _ _ wd _ _ (hS0.1.2.2.1.cell 0)).mono ?_
  rintro e w1 ⟨rfl, hb⟩
  have hS1 := hS w1 ⟨hS0.1.1.trans (hb.mono hS0.1.1.size), hS0.1.2.1.below hb hS0.1.2.1.lt, hS0.1.2.2.1.below hb hS0.1.2.2.1.lt, hS0.1.2.2.2.1.below hb hS0.1.2.2.2.1.lt, hS0.1.2.2.2.2.below hb hS0.1.2.2.2.2.lt⟩
  go_wp2_with fail
  refine hK.out _ _ hS1 (fun _ => ?_)
  clear hK K hb hS0
  (try simp only [Act.put, List.setIfInBounds_toArray, List.set_cons_zero, List.set_cons_succ])
  refine Ord.alone rfl (fun K hK => ?_)
  go_simp
  refine (place_one2 _ _ _ _ ht sure _ _ _ (hS1.1.2.2.2.2.cell 0) (hS1.1.2.2.2.1.cell 0)).mono ?_
  rintro e w2 ⟨rfl, hb⟩
  have hS2 := hS w2 ⟨hS1.1.1.trans (hb.mono hS1.1.1.size), hS1.1.2.1.below hb hS1.1.2.1.lt, hS1.1.2.2.1.below hb hS1.1.2.2.1.lt, hS1.1.2.2.2.1.below hb hS1.1.2.2.2.1.lt, hS1.1.2.2.2.2.below hb hS1.1.2.2.2.2.lt⟩
  go_wp2_with fail
  refine hK.out _ _ hS2 (fun _ => ?_)
  clear hK K hb hS1
  (try simp only [Act.put, List.setIfInBounds_toArray, List.set_cons_zero, List.set_cons_succ])
  (refine Ord.take (v := ?_) (Or.inl ⟨rfl, ?_⟩) ?_; rotate_left; (intro w hSw; (try dsimp only at hSw); go_simp; try (with_reducible rfl)); (try simp only [Act.put, List.setIfInBounds_toArray, List.set_cons_zero, List.set_cons_succ]))
  (refine Ord.take (v := ?_) (Or.inl ⟨rfl, ?_⟩) ?_; rotate_left; (intro w hSw; (try dsimp only at hSw); go_simp; try (with_reducible rfl)); (try simp only [Act.put, List.setIfInBounds_toArray, List.set_cons_zero, List.set_cons_succ]))
  refine Ord.done (NoPanic.normal ?_)
  have hg := hS2.1.1
  clear hS hS2
  go_wp2_with fail
  go_returns
  exact ⟨rfl, hg⟩
end Go.Proofs.Ytkkabnkhdhlhkaa
