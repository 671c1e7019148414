/-
  The walks of casementref16.Height (of a sure room), casementref20.up, shift, Shift, fit, and casementlaw20.frame.
-/
import Derived.Test.YtkkabnkhdhlhkaaRefD
namespace Go.Proofs.Ytkkabnkhdhlhkaa
open Go.RowKit Num Mem Opn
set_option linter.unusedVariables false
set_option linter.unusedSimpArgs false
namespace Num
def counts (k : Int) (sure : Bool) : Bool := given k && (sure || (k != 2))
def rshift (k n k' n' room : Int) (sure : Bool) : Int := if counts k sure then len k n room else if counts k' sure then sub 0 (len k' n' room) else 0
def Sty.rShift (s : Sty) (wd ht : Int) (sure : Bool) : Int × Int := (rshift s.o3k s.o3n s.o1k s.o1n wd true, rshift s.o0k s.o0n s.o2k s.o2n ht sure)
end Num
theorem ref_up (n : Int) (w : World) : Calls Try.prog 55 #[.int .i64 n] w fun e w' => e = .returned (.int .i64 (max n 0)) ∧ w = w' := by
  go_enter Try.func55, Try.ntmps55
  go_wp2_with fail
  refine (ref_Up n _).mono ?_
  rintro e w' ⟨rfl, rfl⟩
  go_wp2_with fail
  go_ret
  exact ⟨rfl, rfl⟩
set_option maxRecDepth 100000 in
theorem ref_Height1 (s : Sty) (room : Int) (w : World) : Calls Try.prog 60 #[.agg s.arr, .int .i64 room, .bool true] w fun e w' => e = .returned (.tuple #[.int .i64 (if given s.hk then max (len s.hk s.hn room) 0 else 0), .bool (given s.hk)]) ∧ Below w.heap.size w w' := by
  have hB := Blk.new w 28 s.arr
  have hg : Below w.heap.size w (w.alloc (.cells s.arr 28)) := by go_grown
  have c6 : (w.alloc (.cells s.arr 28)).cell? ⟨w.heap.size, 6, none⟩ = some (.int .i64 s.hk) := hB.cell 6
  have c7 : (w.alloc (.cells s.arr 28)).cell? ⟨w.heap.size, 7, none⟩ = some (.int .i64 s.hn) := hB.cell 7
  cases hgv : given s.hk <;> cases hk : (s.hk == 2) <;> (
  go_enter Try.func60, Try.ntmps60
  go_wp2_with fail
  refine (ref_Length s.hk s.hn room _).mono ?_
  rintro e w1 ⟨rfl, hb⟩
  rw [hgv]
  go_wp2_with (first | (go_at_call 68; refine (ref_Up _ _).mono ?_; rintro e w' ⟨rfl, rfl⟩))
  go_returns
  exact ⟨rfl, hg.trans (hb.mono hg.size)⟩)
set_option maxRecDepth 100000 in
set_option maxHeartbeats 2000000 in
theorem ref_shift (k n k' n' room : Int) (sure : Bool) (w : World) : Calls Try.prog 61 #[.agg #[.int .i64 k, .int .i64 n], .agg #[.int .i64 k', .int .i64 n'], .int .i64 room, .bool sure] w fun e w' => e = .returned (.int .i64 (rshift k n k' n' room sure)) ∧ Below w.heap.size w w' := by
  have hA : Blk ((w.alloc (.cells #[.int .i64 k, .int .i64 n] 23)).alloc (.cells #[.int .i64 k', .int .i64 n'] 23)) w.heap.size 23 #[.int .i64 k, .int .i64 n] := (Blk.new _ _ _).alloc _
  have hB : Blk ((w.alloc (.cells #[.int .i64 k, .int .i64 n] 23)).alloc (.cells #[.int .i64 k', .int .i64 n'] 23)) (w.heap.size + 1) 23 #[.int .i64 k', .int .i64 n'] := Blk.newAt _ _ _ (by simp)
  have hg : Below w.heap.size w ((w.alloc (.cells #[.int .i64 k, .int .i64 n] 23)).alloc (.cells #[.int .i64 k', .int .i64 n'] 23)) := by go_grown
  have gen : ∀ ga gb na nb : Bool, Hid (given k = ga) → Hid (given k' = gb) → (k == 2) = na → (k' == 2) = nb → Calls Try.prog 61 #[.agg #[.int .i64 k, .int .i64 n], .agg #[.int .i64 k', .int .i64 n'], .int .i64 room, .bool sure] w fun e w' => e = .returned (.int .i64 (if ga && (sure || !na) then len k n room else if gb && (sure || !nb) then sub 0 (len k' n' room) else 0)) ∧ Below w.heap.size w w' := by
    intro ga gb na nb Ha Hb Hna Hnb
    cases ga <;> cases gb <;> cases na <;> cases nb <;> cases sure <;> (
    go_enter Try.func61, Try.ntmps61
    go_upto_region 1 with fail
    refine wp_forget (fun W => Below w.heap.size w W ∧ Blk W w.heap.size 23 #[.int .i64 k, .int .i64 n] ∧ Blk W (w.heap.size + 1) 23 #[.int .i64 k', .int .i64 n']) ⟨hg, hA, hB⟩ ?_
    clear hg hA hB
    rintro w0 ⟨hg, hA, hB⟩
    have c0 : w0.cell? ⟨w.heap.size, 0, none⟩ = some (.int .i64 k) := hA.cell 0
    have c1 : w0.cell? ⟨w.heap.size, 1, none⟩ = some (.int .i64 n) := hA.cell 1
    go_wp2_with fail
    refine (ref_Length k n room _).mono ?_
    rintro e w1 ⟨rfl, hb⟩
    rw [Ha.out]
    replace hA := hA.below hb hA.lt
    replace hB := hB.below hb hB.lt
    replace hg := hg.trans (hb.mono hg.size)
    clear hb c0 c1
    have c0 : w1.cell? ⟨w.heap.size, 0, none⟩ = some (.int .i64 k) := hA.cell 0
    have d0 : w1.cell? ⟨w.heap.size + 1, 0, none⟩ = some (.int .i64 k') := hB.cell 0
    have d1 : w1.cell? ⟨w.heap.size + 1, 1, none⟩ = some (.int .i64 n') := hB.cell 1
    go_wp2_with fail
    first
    | (go_returns
       exact ⟨rfl, hg⟩)
    | (refine (ref_Length k' n' room _).mono ?_
       rintro e w2 ⟨rfl, hb⟩
       rw [Hb.out]
       replace hB := hB.below hb hB.lt
       replace hg := hg.trans (hb.mono hg.size)
       clear hb c0 d0 d1
       have d0 : w2.cell? ⟨w.heap.size + 1, 0, none⟩ = some (.int .i64 k') := hB.cell 0
       go_wp2_with (first | (go_at_call 56; refine (ref_Sub _ _ _).mono ?_; rintro e w' ⟨rfl, rfl⟩))
       go_returns
       exact ⟨rfl, hg⟩))
  have := gen _ _ _ _ (hid rfl) (hid rfl) rfl rfl
  refine this.mono ?_
  rintro e w' ⟨rfl, hb⟩
  exact ⟨rfl, hb⟩
set_option maxRecDepth 100000 in
set_option maxHeartbeats 2000000 in
theorem ref_Shift (s : Sty) (wd ht : Int) (sure : Bool) (w : World) : Calls Try.prog 31 #[.agg s.arr, .int .i64 wd, .int .i64 ht, .bool sure] w fun e w' => e = .returned (.tuple #[.int .i64 (s.rShift wd ht sure).1, .int .i64 (s.rShift wd ht sure).2]) ∧ Below w.heap.size w w' := by
  have hI : (fun W => Below w.heap.size w W ∧ Blk W w.heap.size 28 s.arr) (w.alloc (.cells s.arr 28)) := ⟨by go_grown, Blk.new _ _ _⟩
  have hS : ∀ W, (Below w.heap.size w W ∧ Blk W w.heap.size 28 s.arr) → (fun W => (Below w.heap.size w W ∧ Blk W w.heap.size 28 s.arr) ∧ W.cell? ⟨w.heap.size, 30, none⟩ = some (.int .i64 s.o3k) ∧ W.cell? ⟨w.heap.size, 31, none⟩ = some (.int .i64 s.o3n) ∧ W.cell? ⟨w.heap.size, 26, none⟩ = some (.int .i64 s.o1k) ∧ W.cell? ⟨w.heap.size, 27, none⟩ = some (.int .i64 s.o1n) ∧ W.cell? ⟨w.heap.size, 24, none⟩ = some (.int .i64 s.o0k) ∧ W.cell? ⟨w.heap.size, 25, none⟩ = some (.int .i64 s.o0n) ∧ W.cell? ⟨w.heap.size, 28, none⟩ = some (.int .i64 s.o2k) ∧ W.cell? ⟨w.heap.size, 29, none⟩ = some (.int .i64 s.o2n)) W := fun W h => ⟨h, h.2.cell 30, h.2.cell 31, h.2.cell 26, h.2.cell 27, h.2.cell 24, h.2.cell 25, h.2.cell 28, h.2.cell 29⟩
  go_enter Try.func31, Try.ntmps31
  go_upto_region 1 with fail
  refine wp_forget (fun W => Below w.heap.size w W ∧ Blk W w.heap.size 28 s.arr) hI ?_
  clear hI
  intro w0 hI
  refine wp_region_noPanic ?_
  refine Ord.region_ord (S := fun W => (Below w.heap.size w W ∧ Blk W w.heap.size 28 s.arr) ∧ W.cell? ⟨w.heap.size, 30, none⟩ = some (.int .i64 s.o3k) ∧ W.cell? ⟨w.heap.size, 31, none⟩ = some (.int .i64 s.o3n) ∧ W.cell? ⟨w.heap.size, 26, none⟩ = some (.int .i64 s.o1k) ∧ W.cell? ⟨w.heap.size, 27, none⟩ = some (.int .i64 s.o1n) ∧ W.cell? ⟨w.heap.size, 24, none⟩ = some (.int .i64 s.o0k) ∧ W.cell? ⟨w.heap.size, 25, none⟩ = some (.int .i64 s.o0n) ∧ W.cell? ⟨w.heap.size, 28, none⟩ = some (.int .i64 s.o2k) ∧ W.cell? ⟨w.heap.size, 29, none⟩ = some (.int .i64 s.o2n)) [(0, true), (1, true), (2, true), (3, true), (4, true), (5, true), (6, true), (8, true), (9, true), (10, true), (11, true), (12, true), (13, true), (14, true), (15, true), (7, false), (16, false), (17, true), (18, true)] (by kernel_rfl) (by kernel_rfl) (by kernel_rfl) (by decide) (fun _ _ _ _ _ h => h) (hS _ ⟨hI.1.drew, hI.2.drew⟩) (fun hS0 => ?_)
  simp only [Ord.lay, List.getElem?_cons_zero, List.getElem?_cons_succ]
  (refine Ord.take (v := ?_) (Or.inl ⟨rfl, ?_⟩) ?_; rotate_left; (intro w hSw; (try dsimp only at hSw); go_simp; try (with_reducible rfl)); (try simp only [Act.put, List.setIfInBounds_toArray, List.set_cons_zero, List.set_cons_succ]))
  (refine Ord.take (v := ?_) (Or.inl ⟨rfl, ?_⟩) ?_; rotate_left; (intro w hSw; (try dsimp only at hSw); go_simp; try (with_reducible rfl)); (try simp only [Act.put, List.setIfInBounds_toArray, List.set_cons_zero, List.set_cons_succ]))
  (refine Ord.take (v := ?_) (Or.inl ⟨rfl, ?_⟩) ?_; rotate_left; (intro w hSw; (try dsimp only at hSw); go_simp; try (with_reducible rfl)); (try simp only [Act.put, List.setIfInBounds_toArray, List.set_cons_zero, List.set_cons_succ]))
  (refine Ord.take (v := ?_) (Or.inl ⟨rfl, ?_⟩) ?_; rotate_left; (intro w hSw; (try dsimp only at hSw); go_simp; try (with_reducible rfl)); (try simp only [Act.put, List.setIfInBounds_toArray, List.set_cons_zero, List.set_cons_succ]))
  (refine Ord.take (v := ?_) (Or.inl ⟨rfl, ?_⟩) ?_; rotate_left; (intro w hSw; (try dsimp only at hSw); go_simp; try (with_reducible rfl)); (try simp only [Act.put, List.setIfInBounds_toArray, List.set_cons_zero, List.set_cons_succ]))
  (refine Ord.take (v := ?_) (Or.inl ⟨rfl, ?_⟩) ?_; rotate_left; (intro w hSw; (try dsimp only at hSw); go_simp; try (with_reducible rfl)); (try simp only [Act.put, List.setIfInBounds_toArray, List.set_cons_zero, List.set_cons_succ]))
  (refine Ord.take (v := ?_) (Or.inl ⟨rfl, ?_⟩) ?_; rotate_left; (intro w hSw; (try dsimp only at hSw); go_simp; try (with_reducible rfl)); (try simp only [Act.put, List.setIfInBounds_toArray, List.set_cons_zero, List.set_cons_succ]))
  (refine Ord.take (v := ?_) (Or.inl ⟨rfl, ?_⟩) ?_; rotate_left; (intro w hSw; (try dsimp only at hSw); go_simp; try (with_reducible rfl)); (try simp only [Act.put, List.setIfInBounds_toArray, List.set_cons_zero, List.set_cons_succ]))
  (refine Ord.take (v := ?_) (Or.inl ⟨rfl, ?_⟩) ?_; rotate_left; (intro w hSw; (try dsimp only at hSw); go_simp; try (with_reducible rfl)); (try simp only [Act.put, List.setIfInBounds_toArray, List.set_cons_zero, List.set_cons_succ]))
  (refine Ord.take (v := ?_) (Or.inl ⟨rfl, ?_⟩) ?_; rotate_left; (intro w hSw; (try dsimp only at hSw); go_simp; try (with_reducible rfl)); (try simp only [Act.put, List.setIfInBounds_toArray, List.set_cons_zero, List.set_cons_succ]))
  (refine Ord.take (v := ?_) (Or.inl ⟨rfl, ?_⟩) ?_; rotate_left; (intro w hSw; (try dsimp only at hSw); go_simp; try (with_reducible rfl)); (try simp only [Act.put, List.setIfInBounds_toArray, List.set_cons_zero, List.set_cons_succ]))
  (refine Ord.take (v := ?_) (Or.inl ⟨rfl, ?_⟩) ?_; rotate_left; (intro w hSw; (try dsimp only at hSw); go_simp; try (with_reducible rfl)); (try simp only [Act.put, List.setIfInBounds_toArray, List.set_cons_zero, List.set_cons_succ]))
  (refine Ord.take (v := ?_) (Or.inl ⟨rfl, ?_⟩) ?_; rotate_left; (intro w hSw; (try dsimp only at hSw); go_simp; try (with_reducible rfl)); (try simp only [Act.put, List.setIfInBounds_toArray, List.set_cons_zero, List.set_cons_succ]))
  (refine Ord.take (v := ?_) (Or.inl ⟨rfl, ?_⟩) ?_; rotate_left; (intro w hSw; (try dsimp only at hSw); go_simp; try (with_reducible rfl)); (try simp only [Act.put, List.setIfInBounds_toArray, List.set_cons_zero, List.set_cons_succ]))
  (refine Ord.take (v := ?_) (Or.inl ⟨rfl, ?_⟩) ?_; rotate_left; (intro w hSw; (try dsimp only at hSw); go_simp; try (with_reducible rfl)); (try simp only [Act.put, List.setIfInBounds_toArray, List.set_cons_zero, List.set_cons_succ]))
  refine Ord.alone rfl (fun K hK => ?_)
  go_simp
  refine (ref_shift s.o3k s.o3n s.o1k s.o1n wd true _).mono ?_
  rintro e w1 ⟨rfl, hb⟩
  have hS1 := hS w1 ⟨hS0.1.1.trans (hb.mono hS0.1.1.size), hS0.1.2.below hb hS0.1.2.lt⟩
  go_wp2_with fail
  refine hK.out _ _ hS1 (fun _ => ?_)
  clear hK K hb hS0
  (try simp only [Act.put, List.setIfInBounds_toArray, List.set_cons_zero, List.set_cons_succ])
  refine Ord.alone rfl (fun K hK => ?_)
  go_simp
  refine (ref_shift s.o0k s.o0n s.o2k s.o2n ht sure _).mono ?_
  rintro e w2 ⟨rfl, hb⟩
  have hS2 := hS w2 ⟨hS1.1.1.trans (hb.mono hS1.1.1.size), hS1.1.2.below hb hS1.1.2.lt⟩
  go_wp2_with fail
  refine hK.out _ _ hS2 (fun _ => ?_)
  clear hK K hb hS1
  (try simp only [Act.put, List.setIfInBounds_toArray, List.set_cons_zero, List.set_cons_succ])
  (refine Ord.take (v := ?_) (Or.inl ⟨rfl, ?_⟩) ?_; rotate_left; (intro w hSw; (try dsimp only at hSw); go_simp; try (with_reducible rfl)); (try simp only [Act.put, List.setIfInBounds_toArray, List.set_cons_zero, List.set_cons_succ]))
  (refine Ord.take (v := ?_) (Or.inl ⟨rfl, ?_⟩) ?_; rotate_left; (intro w hSw; (try dsimp only at hSw); go_simp; try (with_reducible rfl)); (try simp only [Act.put, List.setIfInBounds_toArray, List.set_cons_zero, List.set_cons_succ]))
  refine Ord.done (NoPanic.normal ?_)
  have hg := hS2.1.1
  clear hS hS2
  go_wp2_with fail
  go_returns
  exact ⟨rfl, hg⟩
set_option maxRecDepth 100000 in
theorem ref_fit (s : Sty) (room least most : Int) (w : World) : Calls Try.prog 58 #[.agg s.arr, .int .i64 room, .int .i64 least, .int .i64 most] w fun e w' => e = .returned (.int .i64 (Sty.rfit0 { s with wk := 0, wn := 0 } room least most).w) ∧ Below w.heap.size w w' := by
  have hB := Blk.new w 28 s.arr
  have hg : Below w.heap.size w (w.alloc (.cells s.arr 28)) := by go_grown
  go_enter Try.func58, Try.ntmps58
  go_upto_region 1 with fail
  refine wp_forget (fun W => Below w.heap.size w W ∧ Blk W w.heap.size 28 s.arr) ⟨hg, hB⟩ ?_
  clear hg hB
  rintro w0 ⟨hg, hB⟩
  have c4 : w0.cell? ⟨w.heap.size, 4, none⟩ = some (.int .i64 s.wk) := hB.cell 4
  have c5 : w0.cell? ⟨w.heap.size, 5, none⟩ = some (.int .i64 s.wn) := hB.cell 5
  have f4 : w0.frozen? ⟨w.heap.size, 4, none⟩ = false := hB.free 4
  have f5 : w0.frozen? ⟨w.heap.size, 5, none⟩ = false := hB.free 5
  go_upto_region 2 with fail
  refine wp_forget (fun W => Below w.heap.size w W ∧ Blk W w.heap.size 28 (Sty.arr { s with wk := 0, wn := 0 })) ⟨below_two hg (Nat.le_refl _), style_put4 hB⟩ ?_
  clear hg hB c4 c5 f4 f5
  rintro w1 ⟨hg, hB⟩
  go_wp2_with (first | (first | refine stop_load 28 _ rfl rfl ?_ | refine stop_store 28 _ _ rfl rfl ?_) | (first | refine stop_load 35 _ rfl rfl ?_ | refine stop_store 35 _ _ rfl rfl ?_))
  refine ⟨?_⟩
  refine wl_load rfl 28 _ rfl _ rfl _ _ _ hB rfl rfl (info_style' _) ?_
  (try simp only [Act.put, List.setIfInBounds_toArray, List.set_cons_zero, List.set_cons_succ])
  go_wp2_with (first | (first | refine stop_load 28 _ rfl rfl ?_ | refine stop_store 28 _ _ rfl rfl ?_) | (first | refine stop_load 35 _ rfl rfl ?_ | refine stop_store 35 _ _ rfl rfl ?_))
  refine (ref_Fit0 { s with wk := 0, wn := 0 } room least most rfl _).mono ?_
  rintro e w2 ⟨rfl, hb⟩
  replace hg := hg.trans (hb.mono hg.size)
  clear hb hB
  go_wp2_with fail
  go_returns
  exact ⟨rfl, hg⟩
set_option maxRecDepth 100000 in
theorem law20_frame (f : Fr) (w : World) : Calls Try.prog 29 #[.agg f.arr] w fun e w' => e = .returned (.agg f.arr) ∧ Below w.heap.size w w' := by
  have hS : Blk ((w.alloc (.cells f.arr 35)).alloc (.cells Fr.zero.arr 58)) w.heap.size 35 f.arr := (Blk.new _ _ _).alloc _
  have hR : Blk ((w.alloc (.cells f.arr 35)).alloc (.cells Fr.zero.arr 58)) (w.heap.size + 1) 58 Fr.zero.arr := Blk.newAt _ _ _ (by simp)
  have hg : Below w.heap.size w ((w.alloc (.cells f.arr 35)).alloc (.cells Fr.zero.arr 58)) := by go_grown
  go_enter Try.func29, Try.ntmps29
  go_upto_region 1 with fail
  refine wp_forget (fun W => Below w.heap.size w W ∧ Blk W w.heap.size 35 f.arr ∧ Blk W (w.heap.size + 1) 58 Fr.zero.arr) ⟨hg, hS, hR⟩ ?_
  clear hg hS hR
  rintro w0 ⟨hg, hS, hR⟩
  have c0 : w0.cell? ⟨w.heap.size, 0, none⟩ = some (.int .i64 f.m.t) := hS.cell 0
  have c1 : w0.cell? ⟨w.heap.size, 1, none⟩ = some (.int .i64 f.m.r) := hS.cell 1
  have c2 : w0.cell? ⟨w.heap.size, 2, none⟩ = some (.int .i64 f.m.b) := hS.cell 2
  have c3 : w0.cell? ⟨w.heap.size, 3, none⟩ = some (.int .i64 f.m.l) := hS.cell 3
  have c4 : w0.cell? ⟨w.heap.size, 4, none⟩ = some (.int .i64 f.p.t) := hS.cell 4
  have c5 : w0.cell? ⟨w.heap.size, 5, none⟩ = some (.int .i64 f.p.r) := hS.cell 5
  have c6 : w0.cell? ⟨w.heap.size, 6, none⟩ = some (.int .i64 f.p.b) := hS.cell 6
  have c7 : w0.cell? ⟨w.heap.size, 7, none⟩ = some (.int .i64 f.p.l) := hS.cell 7
  have c8 : w0.cell? ⟨w.heap.size, 8, none⟩ = some (.int .i64 f.b.t) := hS.cell 8
  have c9 : w0.cell? ⟨w.heap.size, 9, none⟩ = some (.int .i64 f.b.r) := hS.cell 9
  have c10 : w0.cell? ⟨w.heap.size, 10, none⟩ = some (.int .i64 f.b.b) := hS.cell 10
  have c11 : w0.cell? ⟨w.heap.size, 11, none⟩ = some (.int .i64 f.b.l) := hS.cell 11
  have c12 : w0.cell? ⟨w.heap.size, 12, none⟩ = some (.int .i64 f.w) := hS.cell 12
  go_wp2_with (first | (first | refine stop_load 58 _ rfl rfl ?_ | refine stop_store 58 _ _ rfl rfl ?_))
  refine ⟨?_⟩
  refine wl_store rfl 58 _ _ rfl (w.heap.size + 1) f.arr rfl rfl 58 Fr.zero.arr hR rfl (info_rf _) (frame_one _) ?_
  intro w9 hQ hc
  replace hg := hg.trans (hc.below (by omega))
  clear hR hS hc
  (try simp only [Act.put, List.setIfInBounds_toArray, List.set_cons_zero, List.set_cons_succ])
  go_wp2_with fail
  refine bodyPost_ret (results_row 2 58 _ rfl rfl hQ _ rfl rfl (info_rf _)) rfl ?_
  exact ⟨rfl, hg⟩
end Go.Proofs.Ytkkabnkhdhlhkaa
