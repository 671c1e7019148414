/-
  The walks of floats' Float: bottom, end, stands.
-/
import Derived.Test.YtkoanijiihnioaaFloatA
import Derived.Test.YtkoanijiihnioaaRect2
import Derived.Test.YtkoanijiihnioaaMid
import Derived.Test.YtkoanijiihnioaaGrow
import Derived.Deep.CutBlock
import Derived.Deep.LoopGhost
import Derived.Outline
namespace Go.Proofs.Ytkoanijiihnioaa
open Go.RowKit Num Mem
set_option linter.unusedVariables false
namespace Num
def Fl.arr (f : Fl) : Array Value := #[.bool f.right, .int .i64 f.x, .int .i64 f.y, .int .i64 f.w, .int .i64 f.h]
def Fl.cells (f : Fl) : List Value := [.bool f.right, .int .i64 f.x, .int .i64 f.y, .int .i64 f.w, .int .i64 f.h]
theorem emp_eq (w h : Int) : empR w h = emp w h := rfl
end Num
theorem ret_bool {a b : Bool} (h : a = b) : Ending.returned (.bool a) = .returned (.bool b) := by rw [h]
theorem fl_length (f : Fl) : f.cells.length = 5 := rfl
theorem float_bottom (f : Fl) (w : World) : Calls Try.prog 51 #[.agg f.arr] w fun e w' => e = .returned (.int .i64 f.bot) ∧ Below w.heap.size w w' := by
  obtain ⟨r, x, y, wd, h⟩ := f
  simp only [Fl.arr, Fl.bot]
  have hB : Below w.heap.size w (w.alloc (.cells #[.bool r, .int .i64 x, .int .i64 y, .int .i64 wd, .int .i64 h] 38)) := by go_grown
  go_enter Try.func51, Try.ntmps51
  go_wp2_with (go_at_call 49; refine (fixed_Add _ _ _).mono ?_; rintro e w' ⟨rfl, rfl⟩)
  go_ret
  exact ⟨rfl, hB⟩
theorem float_end (f : Fl) (w : World) : Calls Try.prog 59 #[.agg f.arr] w fun e w' => e = .returned (.int .i64 f.fin) ∧ Below w.heap.size w w' := by
  obtain ⟨r, x, y, wd, h⟩ := f
  simp only [Fl.arr, Fl.fin]
  have hB : Below w.heap.size w (w.alloc (.cells #[.bool r, .int .i64 x, .int .i64 y, .int .i64 wd, .int .i64 h] 38)) := by go_grown
  go_enter Try.func59, Try.ntmps59
  go_wp2_with (go_at_call 49; refine (fixed_Add _ _ _).mono ?_; rintro e w' ⟨rfl, rfl⟩)
  go_ret
  exact ⟨rfl, hB⟩
set_option maxHeartbeats 1000000 in
theorem float_stands (f : Fl) (y : Int) (w : World) : Calls Try.prog 58 #[.agg f.arr, .int .i64 y] w fun e w' => e = .returned (.bool (f.stands y)) ∧ Below w.heap.size w w' := by
  obtain ⟨r, x, fy, wd, h⟩ := f
  have HS : Hid (Fl.stands ⟨r, x, fy, wd, h⟩ y = (!emp wd h && decide (fy ≤ y) && decide (y < Fl.bot ⟨r, x, fy, wd, h⟩))) := rfl
  have hF : Blk (w.alloc (.cells (Fl.arr ⟨r, x, fy, wd, h⟩) 38)) w.heap.size 38 (Fl.arr ⟨r, x, fy, wd, h⟩) := Blk.new _ _ _
  have hB : Below w.heap.size w (w.alloc (.cells (Fl.arr ⟨r, x, fy, wd, h⟩) 38)) := by go_grown
  go_enter Try.func58, Try.ntmps58
  go_upto_region 1 with fail
  refine wp_forget (fun Z => Blk Z w.heap.size 38 (Fl.arr ⟨r, x, fy, wd, h⟩) ∧ Below w.heap.size w Z) ⟨hF, hB⟩ ?_
  clear hF hB
  rintro w0 ⟨hF, hB⟩
  have c1 : w0.cell? ⟨w.heap.size, 1, none⟩ = some (.int .i64 x) := hF.cell 1
  have c2 : w0.cell? ⟨w.heap.size, 2, none⟩ = some (.int .i64 fy) := hF.cell 2
  have c3 : w0.cell? ⟨w.heap.size, 3, none⟩ = some (.int .i64 wd) := hF.cell 3
  have c4 : w0.cell? ⟨w.heap.size, 4, none⟩ = some (.int .i64 h) := hF.cell 4
  go_wp2_with fail
  refine (rect_Empty_b _ _ _ _ _).mono ?_
  rintro e w1 ⟨rfl, hb⟩
  replace hF := hF.below hb hF.lt
  replace hB := hB.trans (hb.mono hB.size)
  clear hb c1 c2 c3 c4
  have c0 : w1.cell? ⟨w.heap.size, 0, none⟩ = some (.bool r) := hF.cell 0
  have c1 : w1.cell? ⟨w.heap.size, 1, none⟩ = some (.int .i64 x) := hF.cell 1
  have c2 : w1.cell? ⟨w.heap.size, 2, none⟩ = some (.int .i64 fy) := hF.cell 2
  have c3 : w1.cell? ⟨w.heap.size, 3, none⟩ = some (.int .i64 wd) := hF.cell 3
  have c4 : w1.cell? ⟨w.heap.size, 4, none⟩ = some (.int .i64 h) := hF.cell 4
  obtain ⟨em, hem⟩ : ∃ em, emp wd h = em := ⟨_, rfl⟩
  rw [hem] at HS ⊢
  clear hem
  cases em
  · by_cases hy : fy ≤ y
    · have g1 : decide (fy ≤ y) = true := by simpa using hy
      have HZ : Hid (Fl.stands ⟨r, x, fy, wd, h⟩ y = decide (y < Fl.bot ⟨r, x, fy, wd, h⟩)) := hid (by rw [HS.out, g1]; rfl)
      go_wp2_with fail
      refine (float_bottom ⟨r, x, fy, wd, h⟩ _).mono ?_
      rintro e w2 ⟨rfl, hb⟩
      go_wp2_with fail
      go_ret
      exact ⟨ret_bool HZ.out.symm, hB.trans (hb.mono hB.size)⟩
    · have g1 : decide (fy ≤ y) = false := by simpa using hy
      have HZ : Hid (Fl.stands ⟨r, x, fy, wd, h⟩ y = false) := hid (by rw [HS.out, g1]; rfl)
      go_wp2_with fail
      go_ret
      exact ⟨ret_bool HZ.out.symm, hB⟩
  · have HZ : Hid (Fl.stands ⟨r, x, fy, wd, h⟩ y = false) := hid (by rw [HS.out]; rfl)
    go_wp2_with fail
    go_ret
    exact ⟨ret_bool HZ.out.symm, hB⟩
/-- a room's box, and its floats. -/
structure RoomAt (W : World) (g base : Nat) (left right : Int) (l : List Fl) (v : Value) : Prop where
  blk : Blk W g 89 #[.int .i64 left, .int .i64 right, v]
  own : W.ownsRow base 38 5 v l.length (l.flatMap Fl.cells)
theorem RoomAt.below {w W : World} {g base : Nat} {left right : Int} {l : List Fl} {v : Value} (h : RoomAt w g base left right l v) (hb : Below w.heap.size w W) : RoomAt W g base left right l v :=
  ⟨h.blk.below hb h.blk.lt, own_below h.own hb⟩
theorem RoomAt.drawn {w W : World} {g base : Nat} {left right : Int} {l : List Fl} {v : Value} (h : RoomAt w g base left right l v) (hd : Drawn w W) : RoomAt W g base left right l v := h.below (hd.below _)
theorem floats_at {w : World} {B b off : Nat} {l : List Fl} (h : Recs w B (some ⟨b, off, none⟩) 5 Fl.cells l) {k : Nat} {f : Fl} (hx : l[k]? = some f) :
    w.cell? ⟨b, off + k * 5, none⟩ = some (.bool f.right) ∧ w.cell? ⟨b, off + k * 5 + 1, none⟩ = some (.int .i64 f.x) ∧ w.cell? ⟨b, off + k * 5 + 2, none⟩ = some (.int .i64 f.y) ∧ w.cell? ⟨b, off + k * 5 + 3, none⟩ = some (.int .i64 f.w) ∧ w.cell? ⟨b, off + k * 5 + 4, none⟩ = some (.int .i64 f.h) := by
  obtain ⟨b', off', e, _, hc⟩ := h (by rintro rfl; simp at hx)
  injection e with e
  injection e with e1 e2 e3
  subst e1 e2
  exact ⟨hc k f hx 0 _ rfl, hc k f hx 1 _ rfl, hc k f hx 2 _ rfl, hc k f hx 3 _ rfl, hc k f hx 4 _ rfl⟩
theorem drop_step {α : Type} {l : List α} {k : Nat} {x : α} (hx : l[k]? = some x) : l.drop k = x :: l.drop (k + 1) := by
  have hlt := (List.getElem?_eq_some_iff.1 hx).1
  have h2 : l[k] = x := (List.getElem?_eq_some_iff.1 hx).2
  rw [List.drop_eq_getElem_cons hlt, h2]
end Go.Proofs.Ytkoanijiihnioaa
