/-
  The walks of package rect: what each computes, in plain words.
-/
import Derived.Test.YtkoanijiihnioaaFix
import Derived.Test.YtkoanijiihnioaaMem
import Derived.StillTailTactics
import Derived.StillTactics
import Derived.Deep.RegionHeld3
import Derived.Deep.QuietTactic
import Derived.BigQuiet
import Derived.Deep.DeepCutAuto
namespace Go.Proofs.Ytkoanijiihnioaa
open Go.RowKit Num Mem
namespace Num
/-- a rectangle. -/
structure Rc where
  x : Int
  y : Int
  w : Int
  h : Int
deriving DecidableEq
def emp (w h : Int) : Bool := decide (w ≤ 0) || decide (h ≤ 0)
/-- the rectangle of edges. -/
def ofEdges (l t r b : Int) : Rc := ⟨l, t, sub r l, sub b t⟩
def nought : Rc := ⟨0, 0, 0, 0⟩
def between (a : Rc) : Rc := ⟨sat a.x, sat a.y, sat a.w, sat a.h⟩
def meetE (a b : Rc) : Rc := ofEdges (max (sat a.x) (sat b.x)) (max (sat a.y) (sat b.y)) (min (add a.x a.w) (add b.x b.w)) (min (add a.y a.h) (add b.y b.h))
def meet (a b : Rc) : Rc := if emp a.w a.h || emp b.w b.h then nought else if emp (meetE a b).w (meetE a b).h then nought else meetE a b
def joinE (a b : Rc) : Rc := ofEdges (min (sat a.x) (sat b.x)) (min (sat a.y) (sat b.y)) (max (add a.x a.w) (add b.x b.w)) (max (add a.y a.h) (add b.y b.h))
def join (a b : Rc) : Rc := if emp a.w a.h && emp b.w b.h then nought else if emp a.w a.h then between b else if emp b.w b.h then between a else joinE a b
def has (a : Rc) (x y : Int) : Bool := !emp a.w a.h && decide (sat a.x ≤ sat x) && decide (sat x < add a.x a.w) && decide (sat a.y ≤ sat y) && decide (sat y < add a.y a.h)
def move (a : Rc) (dx dy : Int) : Rc := ⟨add a.x dx, add a.y dy, sat a.w, sat a.h⟩
def inset (a : Rc) (t r b l : Int) : Rc := ⟨add a.x l, add a.y t, max (sub (sub a.w l) r) 0, max (sub (sub a.h t) b) 0⟩
end Num

/-- a region that reads and calls quietly, and then stores: in the text's order. -/
theorem region_tail {P : Program} {id : Nat} {Q : Exit → Act → World → Prop} {a : Act} {w : World} {l : List Oper} (n : Nat) (hm : P.follows .mixedOrders = true) (hB : Region.lexTailB .any l.toArray n = true)
    (h : wpStill P l.toArray w.drew (fun a' => wpList P l.toArray Q (l.drop n) a' w.drew) (l.take n) a) : (Code.region id l.toArray true).wp P Q a w :=
  wp_region_still_tail n hm hB h
theorem sat_still (n : Int) (w : World) : Calls Try.prog 48 #[.int .i64 n] w fun e w' => e = .returned (.int .i64 (sat n)) ∧ w' = w := (fixed_Sat n w).mono fun _ _ ⟨h, h'⟩ => ⟨h, h'.symm⟩
theorem add_still (a b : Int) (w : World) : Calls Try.prog 49 #[.int .i64 a, .int .i64 b] w fun e w' => e = .returned (.int .i64 (add a b)) ∧ w' = w := (fixed_Add a b w).mono fun _ _ ⟨h, h'⟩ => ⟨h, h'.symm⟩
theorem sub_still (a b : Int) (w : World) : Calls Try.prog 50 #[.int .i64 a, .int .i64 b] w fun e w' => e = .returned (.int .i64 (sub a b)) ∧ w' = w := (fixed_Sub a b w).mono fun _ _ ⟨h, h'⟩ => ⟨h, h'.symm⟩

theorem rect_Empty (x y ww hh : Int) (w : World) : Calls Try.prog 36 #[.agg #[.int .i64 x, .int .i64 y, .int .i64 ww, .int .i64 hh]] w fun e w' => e = .returned (.bool (emp ww hh)) ∧ w.alloc (.cells #[.int .i64 x, .int .i64 y, .int .i64 ww, .int .i64 hh] 27) = w' := by
  by_cases h1 : ww ≤ 0
  · have HE : Hid (emp ww hh = true) := by show _ = _; unfold emp; simp [h1]
    go_enter Try.func36, Try.ntmps36
    go_wp2
    go_ret
    exact ⟨by rw [HE.out]; rfl, rfl⟩
  · have HE : Hid (emp ww hh = decide (hh ≤ 0)) := by show _ = _; unfold emp; simp; omega
    go_enter Try.func36, Try.ntmps36
    go_wp2
    go_ret
    exact ⟨by rw [HE.out]; rfl, rfl⟩

set_option maxRecDepth 100000 in
theorem rect_of (x y ww hh : Int) (w : World) : Calls Try.prog 54 #[.agg #[.int .i64 x, .int .i64 y, .int .i64 ww, .int .i64 hh]] w fun e w' =>
    e = .returned (.agg #[.int .i64 (sat x), .int .i64 (sat y), .int .i64 (add x ww), .int .i64 (add y hh)]) ∧ ((w.alloc (.cells #[.int .i64 x, .int .i64 y, .int .i64 ww, .int .i64 hh] 27)).alloc (.cells #[.int .i64 (sat x), .int .i64 (sat y), .int .i64 (add x ww), .int .i64 (add y hh)] 92)).drew = w' := by
  go_enter Try.func54, Try.ntmps54
  go_wp2
  refine region_tail 17 (by kernel_rfl) (by kernel_rfl) ?_
  simp only [List.take_succ_cons, List.take_zero, List.drop_succ_cons, List.drop_zero]
  repeat (first | still_step | still_call (sat_still _ _) | still_call (add_still _ _ _) | still_call (sub_still _ _ _))
  refine wpStill_nil ?_
  go_wp2
  go_returns
  exact ⟨rfl, rfl⟩

set_option maxRecDepth 100000 in
theorem rect_rect (x y ww hh : Int) (w : World) : Calls Try.prog 55 #[.agg #[.int .i64 x, .int .i64 y, .int .i64 ww, .int .i64 hh]] w fun e w' =>
    e = .returned (.agg #[.int .i64 (x), .int .i64 (y), .int .i64 (sub ww x), .int .i64 (sub hh y)]) ∧ ((w.alloc (.cells #[.int .i64 x, .int .i64 y, .int .i64 ww, .int .i64 hh] 92)).alloc (.cells #[.int .i64 (x), .int .i64 (y), .int .i64 (sub ww x), .int .i64 (sub hh y)] 27)).drew = w' := by
  go_enter Try.func55, Try.ntmps55
  go_wp2
  refine region_tail 15 (by kernel_rfl) (by kernel_rfl) ?_
  simp only [List.take_succ_cons, List.take_zero, List.drop_succ_cons, List.drop_zero]
  repeat (first | still_step | still_call (sat_still _ _) | still_call (add_still _ _ _) | still_call (sub_still _ _ _))
  refine wpStill_nil ?_
  go_wp2
  go_returns
  exact ⟨rfl, rfl⟩

end Go.Proofs.Ytkoanijiihnioaa
