/-
  The walk of block.Fit.
-/
import Derived.Test.YtkkabnkhdhlhkaaBlockG
import Derived.Test.YtkkabnkhdhlhkaaWhole
namespace Go.Proofs.Ytkkabnkhdhlhkaa
open Go.RowKit Num Mem Opn
set_option linter.unusedVariables false
set_option linter.unusedSimpArgs false
namespace Num
def Fr.zero : Fr := ⟨⟨0, 0, 0, 0⟩, ⟨0, 0, 0, 0⟩, ⟨0, 0, 0, 0⟩, 0⟩
def Sty.fit (s : Sty) (room least most : Int) : Fr := { s.framed room with w := if given s.wk then max (len s.wk s.wn room) 0 else max (max least (min most (max ((s.framed room).left room) 0))) 0 }
end Num
theorem info_style' (s : Sty) : (Try.prog.info? 28).map (·.size) = some s.arr.size := info_style
theorem info_frame' : (Try.prog.info? 35).map (·.size) = some 13 := by kernel_rfl
theorem info_frame (f : Fr) : (Try.prog.info? 35).map (·.size) = some f.arr.size := info_frame'
theorem frame_one (f : Fr) : f.arr.all (·.oneCell') = true := by simp [Fr.arr, Value.oneCell']
theorem frame_free {W : World} {g : Nat} {t : TypeId} {cs : Array Value} (h : Blk W g t cs) : W.frozen? ⟨g, 0, none⟩ = false ∧ W.frozen? ⟨g, 1, none⟩ = false ∧ W.frozen? ⟨g, 2, none⟩ = false ∧ W.frozen? ⟨g, 3, none⟩ = false ∧ W.frozen? ⟨g, 4, none⟩ = false ∧ W.frozen? ⟨g, 5, none⟩ = false ∧ W.frozen? ⟨g, 6, none⟩ = false ∧ W.frozen? ⟨g, 7, none⟩ = false ∧ W.frozen? ⟨g, 8, none⟩ = false ∧ W.frozen? ⟨g, 9, none⟩ = false ∧ W.frozen? ⟨g, 10, none⟩ = false ∧ W.frozen? ⟨g, 11, none⟩ = false ∧ W.frozen? ⟨g, 12, none⟩ = false :=
  ⟨h.free 0, h.free 1, h.free 2, h.free 3, h.free 4, h.free 5, h.free 6, h.free 7, h.free 8, h.free 9, h.free 10, h.free 11, h.free 12⟩
theorem frame_put12 {W : World} {g : Nat} {t : TypeId} {f : Fr} (h : Blk W g t f.arr) (n : Int) : Blk (W.setCell ⟨g, 12, none⟩ (.int .i64 n)) g t { f with w := n }.arr := h.put 12 _
theorem frame_put3 {W : World} {g : Nat} {t : TypeId} {f : Fr} (h : Blk W g t f.arr) (n : Int) : Blk (W.setCell ⟨g, 3, none⟩ (.int .i64 n)) g t { f with m := { f.m with l := n } }.arr := h.put 3 _
theorem frame_put1 {W : World} {g : Nat} {t : TypeId} {f : Fr} (h : Blk W g t f.arr) (n : Int) : Blk (W.setCell ⟨g, 1, none⟩ (.int .i64 n)) g t { f with m := { f.m with r := n } }.arr := h.put 1 _
set_option maxRecDepth 100000 in
set_option maxHeartbeats 2000000 in
theorem block_Fit (s : Sty) (room least most : Int) (w : World) : Calls Try.prog 18 #[.agg s.arr, .int .i64 room, .int .i64 least, .int .i64 most] w fun e w' => e = .returned (.agg (s.fit room least most).arr) ∧ Below w.heap.size w w' := by
  have hB := Blk.new w 28 s.arr
  have hR : Blk ((w.alloc (.cells s.arr 28)).alloc (.cells Fr.zero.arr 35)) (w.heap.size + 1) 35 Fr.zero.arr := Blk.newAt _ _ _ (by simp)
  have hg : Below w.heap.size w ((w.alloc (.cells s.arr 28)).alloc (.cells Fr.zero.arr 35)) := by go_grown
  go_enter Try.func18, Try.ntmps18
  go_wp2_with (first | (first | refine stop_load 28 _ rfl rfl ?_ | refine stop_store 28 _ _ rfl rfl ?_) | (first | refine stop_load 35 _ rfl rfl ?_ | refine stop_store 35 _ _ rfl rfl ?_))
  refine ⟨?_⟩
  refine wl_forget (fun W => Below w.heap.size w W ∧ Blk W w.heap.size 28 s.arr ∧ Blk W (w.heap.size + 1) 35 Fr.zero.arr) ⟨hg, hB.alloc _, hR⟩ ?_
  clear hg hB hR
  rintro w0 ⟨hg, hB, hR⟩
  refine wl_load rfl 28 _ rfl _ rfl _ _ _ hB rfl rfl (info_style' s) ?_
  (try simp only [Act.put, List.setIfInBounds_toArray, List.set_cons_zero, List.set_cons_succ])
  go_wp2_with (first | (first | refine stop_load 28 _ rfl rfl ?_ | refine stop_store 28 _ _ rfl rfl ?_) | (first | refine stop_load 35 _ rfl rfl ?_ | refine stop_store 35 _ _ rfl rfl ?_))
  refine (block_framed s room _).mono ?_
  rintro e w1 ⟨rfl, hb⟩
  have hlt := hR.lt
  have hB1 := hB.below hb hB.lt
  have hR1 := hR.below hb hR.lt
  have hg1 := hg.trans (hb.mono hg.size)
  have hlt1 := hb.size
  clear hg hB hR hb
  go_wp2_with (first | (first | refine stop_load 28 _ rfl rfl ?_ | refine stop_store 28 _ _ rfl rfl ?_) | (first | refine stop_load 35 _ rfl rfl ?_ | refine stop_store 35 _ _ rfl rfl ?_))
  refine ⟨?_⟩
  refine wl_store rfl 35 _ _ rfl w1.heap.size (s.framed room).arr rfl rfl 35 Fr.zero.arr (Blk.new _ _ _) rfl (info_frame _) (frame_one _) ?_
  intro w2 hF hc
  have hB2 := (hB1.alloc _).chg hc (by omega)
  have hR2 := (hR1.alloc _).chg hc (by omega)
  have hg2 : Below w.heap.size w w2 := (hg1.alloc (by omega) _).trans (hc.below (by omega))
  have hsz : w1.heap.size < w2.heap.size := hF.lt
  clear hB1 hR1 hg1 hc
  generalize hgen : w1.heap.size = g at *
  (try simp only [Act.put, List.setIfInBounds_toArray, List.set_cons_zero, List.set_cons_succ])
  have c4 : w2.cell? ⟨w.heap.size, 4, none⟩ = some (.int .i64 s.wk) := hB2.cell 4
  have c5 : w2.cell? ⟨w.heap.size, 5, none⟩ = some (.int .i64 s.wn) := hB2.cell 5
  go_wp2_with (first | (first | refine stop_load 28 _ rfl rfl ?_ | refine stop_store 28 _ _ rfl rfl ?_) | (first | refine stop_load 35 _ rfl rfl ?_ | refine stop_store 35 _ _ rfl rfl ?_))
  refine (block_Length s.wk s.wn room _).mono ?_
  rintro e w3 ⟨rfl, hb⟩
  have hB3 := hB2.below hb hB2.lt
  have hR3 := hR2.below hb hR2.lt
  have hF3 := hF.below hb hF.lt
  have hg3 := hg2.trans (hb.mono hg2.size)
  clear hB2 hR2 hF hg2 hb c4 c5 hsz
  have f12 : w3.frozen? ⟨g, 12, none⟩ = false := hF3.free 12
  have c12 : w3.cell? ⟨g, 12, none⟩ = some (.int .i64 (s.framed room).w) := hF3.cell 12
  clear c12 f12
  cases hgv : given s.wk with
  | true =>
    have f12 : w3.frozen? ⟨g, 12, none⟩ = false := hF3.free 12
    have c12 : w3.cell? ⟨g, 12, none⟩ = some (.int .i64 (s.framed room).w) := hF3.cell 12
    go_wp2_with (first | (first | refine stop_load 28 _ rfl rfl ?_ | refine stop_store 28 _ _ rfl rfl ?_) | (first | refine stop_load 35 _ rfl rfl ?_ | refine stop_store 35 _ _ rfl rfl ?_))
    refine ⟨?_⟩
    refine wl_load rfl 35 _ rfl _ rfl _ _ _ (frame_put12 hF3 _) rfl rfl (info_frame _) ?_
    (try simp only [Act.put, List.setIfInBounds_toArray, List.set_cons_zero, List.set_cons_succ])
    go_wp2_with (first | (first | refine stop_load 28 _ rfl rfl ?_ | refine stop_store 28 _ _ rfl rfl ?_) | (first | refine stop_load 35 _ rfl rfl ?_ | refine stop_store 35 _ _ rfl rfl ?_))
    refine ⟨?_⟩
    refine wl_store rfl 35 _ _ rfl (w.heap.size + 1) _ rfl rfl 35 Fr.zero.arr (hR3.far (by simp; omega) _) rfl (info_frame _) (frame_one _) ?_
    intro w4 hR4 hc
    have hg4 : Below w.heap.size w w4 := (hg3.trans ((Chg.setCell w3 ⟨g, 12, none⟩ _).below (by simp; omega))).trans (hc.below (by omega))
    (try simp only [Act.put, List.setIfInBounds_toArray, List.set_cons_zero, List.set_cons_succ])
    clear c12 f12 hF3 hR3 hB3 hg3
    go_wp2_with (first | (first | refine stop_load 28 _ rfl rfl ?_ | refine stop_store 28 _ _ rfl rfl ?_) | (first | refine stop_load 35 _ rfl rfl ?_ | refine stop_store 35 _ _ rfl rfl ?_))
    refine bodyPost_ret (results_row 8 35 _ rfl rfl hR4 _ rfl rfl (info_frame _)) rfl ?_
    exact ⟨by simp [Sty.fit, hgv], hg4⟩
  | false =>
    go_wp2_with (first | (first | refine stop_load 28 _ rfl rfl ?_ | refine stop_store 28 _ _ rfl rfl ?_) | (first | refine stop_load 35 _ rfl rfl ?_ | refine stop_store 35 _ _ rfl rfl ?_))
    refine ⟨?_⟩
    refine wl_load rfl 35 _ rfl _ rfl _ _ _ hF3 rfl rfl (info_frame _) ?_
    (try simp only [Act.put, List.setIfInBounds_toArray, List.set_cons_zero, List.set_cons_succ])
    go_wp2_with (first | (first | refine stop_load 28 _ rfl rfl ?_ | refine stop_store 28 _ _ rfl rfl ?_) | (first | refine stop_load 35 _ rfl rfl ?_ | refine stop_store 35 _ _ rfl rfl ?_))
    refine (block_left _ room _).mono ?_
    rintro e w4 ⟨rfl, hb⟩
    have hR4 := hR3.below hb hR3.lt
    have hF4 := hF3.below hb hF3.lt
    have hg4 := hg3.trans (hb.mono hg3.size)
    have f12 : w4.frozen? ⟨g, 12, none⟩ = false := hF4.free 12
    have c12 : w4.cell? ⟨g, 12, none⟩ = some (.int .i64 (s.framed room).w) := hF4.cell 12
    clear hF3 hR3 hB3 hg3 hb
    go_wp2_with (first | (first | refine stop_load 28 _ rfl rfl ?_ | refine stop_store 28 _ _ rfl rfl ?_) | (first | refine stop_load 35 _ rfl rfl ?_ | refine stop_store 35 _ _ rfl rfl ?_))
    refine ⟨?_⟩
    refine wl_load rfl 35 _ rfl _ rfl _ _ _ (frame_put12 hF4 _) rfl rfl (info_frame _) ?_
    (try simp only [Act.put, List.setIfInBounds_toArray, List.set_cons_zero, List.set_cons_succ])
    go_wp2_with (first | (first | refine stop_load 28 _ rfl rfl ?_ | refine stop_store 28 _ _ rfl rfl ?_) | (first | refine stop_load 35 _ rfl rfl ?_ | refine stop_store 35 _ _ rfl rfl ?_))
    refine ⟨?_⟩
    refine wl_store rfl 35 _ _ rfl (w.heap.size + 1) _ rfl rfl 35 Fr.zero.arr (hR4.far (by simp; omega) _) rfl (info_frame _) (frame_one _) ?_
    intro w5 hR5 hc
    have hg5 : Below w.heap.size w w5 := (hg4.trans ((Chg.setCell w4 ⟨g, 12, none⟩ _).below (by simp; omega))).trans (hc.below (by omega))
    (try simp only [Act.put, List.setIfInBounds_toArray, List.set_cons_zero, List.set_cons_succ])
    clear c12 f12 hF4 hR4 hg4
    go_wp2_with (first | (first | refine stop_load 28 _ rfl rfl ?_ | refine stop_store 28 _ _ rfl rfl ?_) | (first | refine stop_load 35 _ rfl rfl ?_ | refine stop_store 35 _ _ rfl rfl ?_))
    refine bodyPost_ret (results_row 8 35 _ rfl rfl hR5 _ rfl rfl (info_frame _)) rfl ?_
    exact ⟨by simp [Sty.fit, hgv], hg5⟩
end Go.Proofs.Ytkkabnkhdhlhkaa
