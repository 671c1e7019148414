/-
  The walk of block's framed. (Under way.)
-/
import Derived.Test.YtkkabnkhdhlhkaaBlockF
import Derived.Test.YtkkabnkhdhlhkaaOrd
import Derived.Deep.MidRow
namespace Go.Proofs.Ytkkabnkhdhlhkaa
open Go.RowKit Num Mem Opn
set_option linter.unusedVariables false
namespace Num
def Sty.framed (s : Sty) (room : Int) : Fr := ⟨s.margin room, s.padding room, s.border, 0⟩
end Num
theorem style_range {w' : World} {b : Nat} {s : Sty} (h : Blk w' b 28 s.arr) : w'.rangeAt b 0 s.arr.toList := by
  intro j v hj
  rw [Nat.zero_add, h.cell]
  simpa using hj
theorem info_style : (Try.prog.info? 28).map (·.size) = some 52 := by kernel_rfl
set_option maxRecDepth 100000 in
set_option maxHeartbeats 2000000 in
theorem block_framed (s : Sty) (room : Int) (w : World) : Calls Try.prog 33 #[.agg s.arr, .int .i64 room] w fun e w' => e = .returned (.agg (s.framed room).arr) ∧ Below w.heap.size w w' := by
  have hB := Blk.new w 28 s.arr
  have hR := Blk.new (w.alloc (.cells s.arr 28)) 35 (Array.replicate 13 (.int .i64 0))
  have hg : Below w.heap.size w ((w.alloc (.cells s.arr 28)).alloc (.cells (Array.replicate 13 (.int .i64 0)) 35)) := by go_grown
  have hi : (Try.prog.info? 28).map (·.size) = some s.arr.toList.length := info_style
  unfold Sty.arr
  go_enter Try.func33, Try.ntmps33
  go_wp2_with fail
  refine wp_region_noPanic ?_
  refine Ord.region_ord (S := fun w' => Below w.heap.size w w' ∧ Blk w' w.heap.size 28 s.arr) [(0, true), (1, true), (3, true), (4, true), (6, true), (2, false), (5, false), (7, false), (8, true), (9, false)] (by kernel_rfl) (by kernel_rfl) (by kernel_rfl) (by decide) (fun _ _ _ _ _ h => h) ⟨by go_grown, (hB.alloc _).drew⟩ (fun hS0 => ?_)
  simp only [Ord.lay, List.getElem?_cons_zero, List.getElem?_cons_succ]
  (refine Ord.take (yieldsIf_load_mid rfl _ _ rfl w.heap.size 0 rfl s.arr.toList _ (fun w' h => style_range h.2) Try.underlying28 rfl hi) ?_; try simp only [Act.put, List.setIfInBounds_toArray, List.set_cons_zero, List.set_cons_succ])
  (refine Ord.take (v := ?_) (Or.inl ⟨rfl, ?_⟩) ?_; rotate_left; (intro w hSw; (try dsimp only at hSw); go_simp; try (with_reducible rfl)); try simp only [Act.put, List.setIfInBounds_toArray, List.set_cons_zero, List.set_cons_succ])
  (refine Ord.take (yieldsIf_load_mid rfl _ _ rfl w.heap.size 0 rfl s.arr.toList _ (fun w' h => style_range h.2) Try.underlying28 rfl hi) ?_; try simp only [Act.put, List.setIfInBounds_toArray, List.set_cons_zero, List.set_cons_succ])
  (refine Ord.take (v := ?_) (Or.inl ⟨rfl, ?_⟩) ?_; rotate_left; (intro w hSw; (try dsimp only at hSw); go_simp; try (with_reducible rfl)); try simp only [Act.put, List.setIfInBounds_toArray, List.set_cons_zero, List.set_cons_succ])
  (refine Ord.take (yieldsIf_load_mid rfl _ _ rfl w.heap.size 0 rfl s.arr.toList _ (fun w' h => style_range h.2) Try.underlying28 rfl hi) ?_; try simp only [Act.put, List.setIfInBounds_toArray, List.set_cons_zero, List.set_cons_succ])
  refine Ord.alone rfl (fun K hK => ?_)
  go_simp
  refine (block_Margin s room _).mono ?_
  rintro e w1 ⟨rfl, hb⟩
  have hR1 := (hR.drew).below hb (by simp)
  have hS1 : Below w.heap.size w w1 ∧ Blk w1 w.heap.size 28 s.arr := ⟨hS0.1.trans (hb.mono hS0.1.size), hS0.2.below hb hS0.2.lt⟩
  go_wp2_with fail
  refine hK.out _ _ hS1 (fun _ => ?_)
  clear hK K hb hS0
  try simp only [Act.put, List.setIfInBounds_toArray, List.set_cons_zero, List.set_cons_succ]
  refine Ord.alone rfl (fun K hK => ?_)
  go_simp
  refine (block_Padding s room _).mono ?_
  rintro e w2 ⟨rfl, hb⟩
  have hR2 := hR1.below hb (hR1.lt)
  have hS2 : Below w.heap.size w w2 ∧ Blk w2 w.heap.size 28 s.arr := ⟨hS1.1.trans (hb.mono hS1.1.size), hS1.2.below hb hS1.2.lt⟩
  go_wp2_with fail
  refine hK.out _ _ hS2 (fun _ => ?_)
  clear hK K hb hS1
  try simp only [Act.put, List.setIfInBounds_toArray, List.set_cons_zero, List.set_cons_succ]
  refine Ord.alone rfl (fun K hK => ?_)
  go_simp
  refine (block_Border s _).mono ?_
  rintro e w3 ⟨rfl, hb⟩
  have hR3 := hR2.below hb (hR2.lt)
  have hS3 : Below w.heap.size w w3 ∧ Blk w3 w.heap.size 28 s.arr := ⟨hS2.1.trans (hb.mono hS2.1.size), hS2.2.below hb hS2.2.lt⟩
  go_wp2_with fail
  refine hK.out _ _ hS3 (fun _ => ?_)
  clear hK K hb hS2
  try simp only [Act.put, List.setIfInBounds_toArray, List.set_cons_zero, List.set_cons_succ]
  simp only [Sd.val]
  (refine Ord.take (v := ?_) (Or.inl ⟨rfl, ?_⟩) ?_; rotate_left; (intro w hSw; (try dsimp only at hSw); go_simp; try (with_reducible rfl)); try simp only [Act.put, List.setIfInBounds_toArray, List.set_cons_zero, List.set_cons_succ])
  have z := fun i => hR3.cell i
  have f := fun i => hR3.free i
  simp at z f
  have z0 := z 0; have z1 := z 1; have z2 := z 2; have z3 := z 3; have z4 := z 4; have z5 := z 5; have z6 := z 6; have z7 := z 7; have z8 := z 8; have z9 := z 9; have z10 := z 10; have z11 := z 11; have z12 := z 12
  have f0 := f 0; have f1 := f 1; have f2 := f 2; have f3 := f 3; have f4 := f 4; have f5 := f 5; have f6 := f 6; have f7 := f 7; have f8 := f 8; have f9 := f 9; have f10 := f 10; have f11 := f 11; have f12 := f 12
  simp at z0 z1 z2 z3 z4 z5 z6 z7 z8 z9 z10 z11 z12
  clear z f
  refine Ord.alone rfl (fun K hK => ?_)
  go_simp
  have hz := hS3.1.size
  refine hK.out _ _ ⟨have h3 := hS3.1; by go_grown, ?_⟩ (fun _ => ?_)
  · repeat (refine Blk.far ?_ (by simp) _)
    exact hS3.2
  refine Ord.done (NoPanic.normal ?_)
  go_wp2_with fail
  refine bodyPost_ret (v := .agg (s.framed room).arr) (by simp [results, Try.results33, go_sem, Fr.arr, Sty.framed, *]) rfl ?_
  exact ⟨rfl, have h3 := hS3.1; by go_grown⟩
end Go.Proofs.Ytkkabnkhdhlhkaa
