/-
  Boxes of text, pieces of text: the style, Height, initial, box.
-/
import Derived.Test.YteghacdpfhohoaaTextA
import Derived.Test.YteghacdpfhohoaaOrdQ
import Derived.Test.YteghacdpfhohoaaFresh
namespace Go.Proofs.Yteghacdpfhohoaa
open Go.RowKit Num Mem Opn
set_option linter.unusedVariables false
set_option linter.unusedSimpArgs false
set_option linter.unusedSimpArgs false
set_option maxRecDepth 100000
set_option maxHeartbeats 1000000
namespace Num
/-- the style of a plain text. -/
def stI (b : Bool) : Array Value := #[.int .i64 0, .int .i64 0, .int .i64 0, .int .i64 0, .int .i64 0, .int .i64 0, .int .i64 0, .int .i64 0, .int .i64 0, .int .i64 0, .int .i64 0, .int .i64 0, .int .i64 0, .int .i64 0, .int .i64 0, .int .i64 0, .int .i64 0, .int .i64 0, .int .i64 0, .int .i64 0, .int .i64 0, .int .i64 0, .int .i64 0, .int .i64 0, .int .i64 0, .int .i64 0, .int .i64 0, .int .i64 0, .int .i64 0, .int .i64 0, .int .i64 0, .int .i64 0, .int .i64 0, .int .i64 0, .int .i64 0, .int .i64 0, .int .u32 255, .int .u32 0, .int .i64 1024, .int .i64 (-1), .int .i64 0, .bool b, .bool false, .bool false, .bool false, .int .i64 0, .int .i64 0, .int .i64 0, .int .i64 0, .int .i64 0, .int .i64 0, .bool false]
/-- a box of a text. -/
structure Bx where
  kind : Int
  node : Int
  pre : Bool
  text : ByteArray
def Bx.arr (x : Bx) : Array Value := #[.int .i64 x.kind, .int .i64 x.node, .int .i64 0, .int .i64 0, .int .i64 0, .int .i64 0, .int .i64 0, .int .i64 0, .int .i64 0, .int .i64 0, .int .i64 0, .int .i64 0, .int .i64 0, .int .i64 0, .int .i64 0, .int .i64 0, .int .i64 0, .int .i64 0, .int .i64 0, .int .i64 0, .int .i64 0, .int .i64 0, .int .i64 0, .int .i64 0, .int .i64 0, .int .i64 0, .int .i64 0, .int .i64 0, .int .i64 0, .int .i64 0, .int .i64 0, .int .i64 0, .int .i64 0, .int .i64 0, .int .i64 0, .int .i64 0, .int .i64 0, .int .i64 0, .int .i64 0, .int .u32 255, .int .u32 0, .int .i64 1024, .int .i64 (-1), .int .i64 0, .bool x.pre, .bool false, .bool false, .bool false, .int .i64 0, .int .i64 0, .int .i64 0, .int .i64 0, .int .i64 0, .int .i64 0, .bool false, .string x.text, .slice none 0 0]
/-- a piece of a text. -/
structure Pz where
  kind : Int
  node : Int
  text : ByteArray
  width : Int
  height : Int
  pre : Bool
def Pz.arr (x : Pz) : Array Value := #[.int .i64 x.kind, .int .i64 x.node, .string x.text, .int .i64 x.width, .int .i64 x.height, .int .i64 0, .int .i64 0, .int .i64 0, .int .i64 0, .int .i64 0, .int .i64 0, .int .i64 0, .int .i64 0, .int .i64 0, .int .i64 0, .int .i64 0, .int .i64 0, .int .i64 0, .int .i64 0, .int .i64 0, .int .i64 0, .int .i64 0, .int .i64 0, .int .i64 0, .int .i64 0, .int .i64 0, .int .i64 0, .int .i64 0, .int .i64 0, .int .i64 0, .int .i64 0, .int .i64 0, .int .i64 0, .int .i64 0, .int .i64 0, .int .i64 0, .int .i64 0, .int .i64 0, .int .i64 0, .int .i64 0, .int .i64 0, .int .u32 255, .int .u32 0, .int .i64 1024, .int .i64 (-1), .int .i64 0, .bool x.pre, .bool false, .bool false, .bool false, .int .i64 0, .int .i64 0, .int .i64 0, .int .i64 0, .int .i64 0, .int .i64 0, .bool false]
def Pz.cells (x : Pz) : List Value := x.arr.toList
def zeroS : Array Value := #[.int .i64 0, .int .i64 0, .int .i64 0, .int .i64 0, .int .i64 0, .int .i64 0, .int .i64 0, .int .i64 0, .int .i64 0, .int .i64 0, .int .i64 0, .int .i64 0, .int .i64 0, .int .i64 0, .int .i64 0, .int .i64 0, .int .i64 0, .int .i64 0, .int .i64 0, .int .i64 0, .int .i64 0, .int .i64 0, .int .i64 0, .int .i64 0, .int .i64 0, .int .i64 0, .int .i64 0, .int .i64 0, .int .i64 0, .int .i64 0, .int .i64 0, .int .i64 0, .int .i64 0, .int .i64 0, .int .i64 0, .int .i64 0, .int .u32 0, .int .u32 0, .int .i64 0, .int .i64 0, .int .i64 0, .bool false, .bool false, .bool false, .bool false, .int .i64 0, .int .i64 0, .int .i64 0, .int .i64 0, .int .i64 0, .int .i64 0, .bool false]
def zeroP : Array Value := #[.int .i64 0, .int .i64 0, .string ByteArray.empty, .int .i64 0, .int .i64 0, .int .i64 0, .int .i64 0, .int .i64 0, .int .i64 0, .int .i64 0, .int .i64 0, .int .i64 0, .int .i64 0, .int .i64 0, .int .i64 0, .int .i64 0, .int .i64 0, .int .i64 0, .int .i64 0, .int .i64 0, .int .i64 0, .int .i64 0, .int .i64 0, .int .i64 0, .int .i64 0, .int .i64 0, .int .i64 0, .int .i64 0, .int .i64 0, .int .i64 0, .int .i64 0, .int .i64 0, .int .i64 0, .int .i64 0, .int .i64 0, .int .i64 0, .int .i64 0, .int .i64 0, .int .i64 0, .int .i64 0, .int .i64 0, .int .u32 0, .int .u32 0, .int .i64 0, .int .i64 0, .int .i64 0, .bool false, .bool false, .bool false, .bool false, .int .i64 0, .int .i64 0, .int .i64 0, .int .i64 0, .int .i64 0, .int .i64 0, .bool false]
def zeroB : Array Value := #[.int .i64 0, .int .i64 0, .int .i64 0, .int .i64 0, .int .i64 0, .int .i64 0, .int .i64 0, .int .i64 0, .int .i64 0, .int .i64 0, .int .i64 0, .int .i64 0, .int .i64 0, .int .i64 0, .int .i64 0, .int .i64 0, .int .i64 0, .int .i64 0, .int .i64 0, .int .i64 0, .int .i64 0, .int .i64 0, .int .i64 0, .int .i64 0, .int .i64 0, .int .i64 0, .int .i64 0, .int .i64 0, .int .i64 0, .int .i64 0, .int .i64 0, .int .i64 0, .int .i64 0, .int .i64 0, .int .i64 0, .int .i64 0, .int .i64 0, .int .i64 0, .int .i64 0, .int .u32 0, .int .u32 0, .int .i64 0, .int .i64 0, .int .i64 0, .bool false, .bool false, .bool false, .bool false, .int .i64 0, .int .i64 0, .int .i64 0, .int .i64 0, .int .i64 0, .int .i64 0, .bool false, .string ByteArray.empty, .slice none 0 0]
end Num
set_option maxRecDepth 100000 in
theorem sti_size (b : Bool) : (stI b).size = 52 := rfl
theorem bx_size (x : Bx) : x.arr.size = 57 := rfl
theorem pz_size (x : Pz) : x.arr.size = 57 := rfl
theorem pz_length (x : Pz) : x.cells.length = 57 := rfl
theorem info_sti : (Try.prog.info? 43).map (·.size) = some 52 := by kernel_rfl
theorem info_sti_arr (b : Bool) : (Try.prog.info? 43).map (·.size) = some (stI b).size := info_sti
theorem info_sti_list (b : Bool) : (Try.prog.info? 43).map (·.size) = some (stI b).toList.length := info_sti
theorem sti_one (b : Bool) : (stI b).all (·.oneCell') = true := by simp [stI, Value.oneCell']
theorem info_pz : (Try.prog.info? 59).map (·.size) = some 57 := by kernel_rfl
theorem info_pz_arr (x : Pz) : (Try.prog.info? 59).map (·.size) = some x.arr.size := info_pz
theorem info_pz_list (x : Pz) : (Try.prog.info? 59).map (·.size) = some x.arr.toList.length := info_pz
theorem pz_one (x : Pz) : x.arr.all (·.oneCell') = true := by simp [Pz.arr, stI, Value.oneCell']
theorem info_bx : (Try.prog.info? 64).map (·.size) = some 57 := by kernel_rfl
theorem info_bx_arr (x : Bx) : (Try.prog.info? 64).map (·.size) = some x.arr.size := info_bx
theorem info_bx_list (x : Bx) : (Try.prog.info? 64).map (·.size) = some x.arr.toList.length := info_bx
theorem bx_one (x : Bx) : x.arr.all (·.oneCell') = true := by simp [Bx.arr, stI, Value.oneCell']
theorem info_pz57 : (Try.prog.info? 59).map (fun i => (i.zero, i.size, i.bytes)) = some (some (.agg zeroP), 57, 432) := by kernel_rfl
@[go_sem high] theorem build_initial (w : World) : (Instr.build 43 #[(12, .int .i64 1024), (13, .int .i64 (-1)), (10, .int .u32 255)]).run Try.prog w = .ok (.agg (stI false)) w := by kernel_rfl
@[go_sem high] theorem build_chars (k n : Int) (b : Bool) (s : ByteArray) (w : World) : (Instr.build 64 #[(0, .int .i64 k), (1, .int .i64 n), (3, .agg (stI b)), (4, .string s)]).run Try.prog w = .ok (.agg (Bx.arr ⟨k, n, b, s⟩)) w := by kernel_rfl
@[go_sem high] theorem build_pz (k n wd ht : Int) (s : ByteArray) (b : Bool) (w : World) : (Instr.build 59 #[(0, .int .i64 k), (1, .int .i64 n), (2, .string s), (3, .int .i64 wd), (4, .int .i64 ht), (5, .agg (stI b))]).run Try.prog w = .ok (.agg (Pz.arr ⟨k, n, s, wd, ht, b⟩)) w := by kernel_rfl
theorem sti_set (b : Bool) : (stI false).setIfInBounds 41 (.bool b) = stI b := by kernel_rfl
theorem bx_split (x : Bx) : x.arr.toList = [Value.int .i64 x.kind, .int .i64 x.node, .int .i64 0] ++ ((stI x.pre).toList ++ [.string x.text, .slice none 0 0]) := rfl
theorem sti_mid {w : World} {b : Nat} {t : TypeId} {x : Bx} (h : Blk w b t x.arr) : w.rangeAt b 3 (stI x.pre).toList := by
  intro j v hv
  have hj := (List.getElem?_eq_some_iff.1 hv).1
  rw [h.cell, ← Array.getElem?_toList, bx_split, List.getElem?_append_right (by simp), List.getElem?_append_left (by simpa using hj)]
  simpa using hv
theorem stop_build {P : Program} {ops : Array Oper} {rest : List Oper} {op : Oper} {a : Act} {w : World} {Q : Exit → Act → World → Prop} (t : TypeId) (fs : Array (Nat × Operand)) (ho : op.op = .build t fs)
    (h : Stop (wpList P ops Q (op :: rest) a w)) : wpList P ops Q (op :: rest) a w := h.out
theorem wl_exec {P : Program} {ops : Array Oper} {rest : List Oper} {op : Oper} {a : Act} {w : World} {Q : Exit → Act → World → Prop} (hw : Region.wanted op (yielded ops a.tmps) = true) (v : Value)
    (h : (execOp a.eval op).run P w = .ok (.value v) w) (hk : wpList P ops Q rest (a.put op.dst v) w) : wpList P ops Q (op :: rest) a w :=
  BigFrame.wpList_want hw fun _ hK => by
    unfold Oper.wp
    rw [h]
    exact hK _ _ (by simpa using hk)
theorem text_Height (b : Bool) (w : World) : Calls Try.prog 25 #[.agg (stI b)] w fun e w' => e = .returned (.int .i64 1280) ∧ Below w.heap.size w w' := by
  have hX : Blk (w.alloc (.cells (stI b) 43)) w.heap.size 43 (stI b) := Blk.new _ _ _
  have hB : Below w.heap.size w (w.alloc (.cells (stI b) 43)) := (Below.refl _ _).alloc (Nat.le_refl _) _
  have hp : prt 1024 5 4 = 1280 := by decide
  go_enter Try.func25, Try.ntmps25
  go_upto_region 1 with fail
  refine wp_forget (fun Z => Blk Z w.heap.size 43 (stI b) ∧ Below w.heap.size w Z) ⟨hX, hB⟩ ?_
  clear hX hB
  rintro w1 ⟨hX, hB⟩
  have c38 : w1.cell? ⟨w.heap.size, 38, none⟩ = some (.int .i64 1024) := hX.cell 38
  have c39 : w1.cell? ⟨w.heap.size, 39, none⟩ = some (.int .i64 (-1)) := hX.cell 39
  go_wp2_with (go_at_call 55; refine (fixed_Part _ _ _ _).mono ?_; rintro e w' ⟨rfl, rfl⟩)
  go_ret
  exact ⟨by rw [← hp]; rfl, hB⟩
theorem law14_initial (w : World) : Calls Try.prog 35 #[] w fun e w' => e = .returned (.agg (stI false)) ∧ Below w.heap.size w w' := by
  have hR : Blk (w.alloc (.cells zeroS 43)) w.heap.size 43 zeroS := Blk.new _ _ _
  have hB : Below w.heap.size w (w.alloc (.cells zeroS 43)) := (Below.refl _ _).alloc (Nat.le_refl _) _
  go_enter Try.func35, Try.ntmps35
  go_upto_region 1 with fail
  refine wp_forget (fun Z => Blk Z w.heap.size 43 zeroS ∧ Below w.heap.size w Z) ⟨hR, hB⟩ ?_
  clear hR hB
  rintro w1 ⟨hR, hB⟩
  go_wp2_with (first | refine stop_load 43 _ rfl rfl ?_ | refine stop_store 43 _ _ rfl rfl ?_)
  refine ⟨?_⟩
  refine wl_store rfl 43 _ _ rfl w.heap.size (stI false) rfl rfl 43 zeroS hR rfl (info_sti_arr _) (sti_one _) ?_
  intro w2 hR2 hC
  (try simp only [Act.put, List.setIfInBounds_toArray, List.set_cons_zero, List.set_cons_succ])
  go_wp2_with fail
  refine bodyPost_ret (results_row 0 43 w.heap.size rfl rfl hR2 _ Try.underlying43 rfl (info_sti_arr _)) rfl ?_
  exact ⟨rfl, hB.trans (hC.below (Nat.le_refl _))⟩
set_option maxRecDepth 100000 in
set_option maxHeartbeats 2000000 in
theorem law14_box (s : ByteArray) (b : Bool) (w : World) : Calls Try.prog 32 #[.string s, .bool b] w fun e w' => e = .returned (.agg (Bx.arr ⟨7, 1, b, s⟩)) ∧ Below w.heap.size w w' := by
  have hR : Blk (w.alloc (.cells zeroB 64)) w.heap.size 64 zeroB := Blk.new _ _ _
  have hB : Below w.heap.size w (w.alloc (.cells zeroB 64)) := (Below.refl _ _).alloc (Nat.le_refl _) _
  go_enter Try.func32, Try.ntmps32
  go_upto_region 1 with fail
  refine wp_forget (fun Z => Blk Z w.heap.size 64 zeroB ∧ Below w.heap.size w Z) ⟨hR, hB⟩ ?_
  clear hR hB
  rintro w1 ⟨hR, hB⟩
  go_wp2_with (first | (first | refine stop_load 43 _ rfl rfl ?_ | refine stop_store 43 _ _ rfl rfl ?_) | (first | refine stop_load 64 _ rfl rfl ?_ | refine stop_store 64 _ _ rfl rfl ?_))
  refine (law14_initial _).mono ?_
  rintro e w2 ⟨rfl, hb⟩
  replace hR := hR.below hb hR.lt
  replace hB := hB.trans (hb.mono hB.size)
  clear hb
  have hlt := hR.lt
  go_wp2_with (first | (first | refine stop_load 43 _ rfl rfl ?_ | refine stop_store 43 _ _ rfl rfl ?_) | (first | refine stop_load 64 _ rfl rfl ?_ | refine stop_store 64 _ _ rfl rfl ?_))
  refine ⟨?_⟩
  refine wl_store rfl 43 _ _ rfl w2.heap.size (stI false) rfl rfl 43 zeroS (Blk.new _ _ _) rfl (info_sti_arr _) (sti_one _) ?_
  intro w3 hS hC
  (try simp only [Act.put, List.setIfInBounds_toArray, List.set_cons_zero, List.set_cons_succ])
  have hR3 : Blk w3 w.heap.size 64 zeroB := (hR.alloc _).chg hC (by omega)
  have hB3 : Below w.heap.size w w3 := (hB.alloc (by omega) _).trans (hC.below (by omega))
  clear hR hB hC
  generalize w2.heap.size = g at *
  have f41 : w3.frozen? ⟨g, 41, none⟩ = false := hS.free 41
  have c41 : w3.cell? ⟨g, 41, none⟩ = some (.bool false) := hS.cell 41
  have hS4 : Blk (w3.setCell ⟨g, 41, none⟩ (.bool b)) g 43 (stI b) := by
    have := hS.put 41 (.bool b)
    rwa [sti_set] at this
  have hR4 : Blk (w3.setCell ⟨g, 41, none⟩ (.bool b)) w.heap.size 64 zeroB := hR3.far (by simp; omega) _
  have hB4 : Below w.heap.size w (w3.setCell ⟨g, 41, none⟩ (.bool b)) := hB3.setCell (by simp; omega) _
  go_wp2_with (first | (first | refine stop_load 43 _ rfl rfl ?_ | refine stop_store 43 _ _ rfl rfl ?_) | (first | refine stop_load 64 _ rfl rfl ?_ | refine stop_store 64 _ _ rfl rfl ?_))
  generalize w3.setCell ⟨g, 41, none⟩ (.bool b) = w4 at *
  clear hS hR3 hB3 f41 c41
  refine ⟨?_⟩
  refine wl_load rfl 43 _ rfl _ rfl _ _ _ hS4 Try.underlying43 rfl (info_sti_arr _) ?_
  (try simp only [Act.put, List.setIfInBounds_toArray, List.set_cons_zero, List.set_cons_succ])
  go_wp2_with (refine stop_build _ _ rfl ?_)
  refine ⟨?_⟩
  refine wl_exec rfl (.agg (Bx.arr ⟨7, 1, b, s⟩)) (by kernel_rfl) ?_
  (try simp only [Act.put, List.setIfInBounds_toArray, List.set_cons_zero, List.set_cons_succ])
  go_wp2_with (first | (first | refine stop_load 43 _ rfl rfl ?_ | refine stop_store 43 _ _ rfl rfl ?_) | (first | refine stop_load 64 _ rfl rfl ?_ | refine stop_store 64 _ _ rfl rfl ?_))
  refine ⟨?_⟩
  refine wl_store rfl 64 _ _ rfl w.heap.size (Bx.arr ⟨7, 1, b, s⟩) rfl rfl 64 zeroB hR4 rfl (info_bx_arr _) (bx_one _) ?_
  intro w5 hR5 hC
  (try simp only [Act.put, List.setIfInBounds_toArray, List.set_cons_zero, List.set_cons_succ])
  go_wp2_with fail
  refine bodyPost_ret (results_row 4 64 w.heap.size rfl rfl hR5 _ Try.underlying64 rfl (info_bx_arr _)) rfl ?_
  exact ⟨rfl, hB4.trans (hC.below (Nat.le_refl _))⟩
end Go.Proofs.Yteghacdpfhohoaa
