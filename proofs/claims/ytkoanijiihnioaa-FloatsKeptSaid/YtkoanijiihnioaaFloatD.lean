/-
  The walks of floats' Room: Clear, Bottom, New, Put.
-/
import Derived.Test.YtkoanijiihnioaaFloatC
import Derived.Deep.DeepCutAuto
namespace Go.Proofs.Ytkoanijiihnioaa
open Go.RowKit Num Mem
set_option linter.unusedVariables false
namespace Num
def hits (which : Int) (r : Bool) : Bool := (which == 3) || ((which == 1) && !r) || ((which == 2) && r)
theorem clear_step (which : Int) (f : Fl) (t : List Fl) (y : Int) : clear_ which (f :: t) y = clear_ which t (if hits which f.right = true then max y f.bot else y) := by
  rw [clear_]
  congr 1
  cases f.right <;> simp [hits]
end Num
set_option maxRecDepth 100000 in
set_option maxHeartbeats 2000000 in
theorem room_Clear (g base : Nat) (left right : Int) (l : List Fl) (v : Value) (y which : Int) (w : World) (hl : l.length ≤ 1000) (hr : RoomAt w g base left right l v) :
    Calls Try.prog 17 #[.pointer (some ⟨g, 0, none⟩), .int .i64 y, .int .i64 which] w fun e w' =>
      e = .returned (.int .i64 (clear_ which l y)) ∧ Below w.heap.size w w' := by
  have c2 : w.cell? ⟨g, 2, none⟩ = some v := hr.blk.cell 2
  obtain ⟨A, c, rfl, hc⟩ := own_some hr.own
  have hA : Recs w w.heap.size A 5 Fl.cells l := Recs.of_own fl_length (by decide) hr.own
  obtain ⟨R, hR⟩ : ∃ R, clear_ which l y = R := ⟨_, rfl⟩
  have HR := hid hR
  rw [hR]
  clear hR
  go_enter Try.func17, Try.ntmps17
  go_wp2_with fail
  go_loopg [1, 14] l.length (fun g' s1 s14 wr => ∃ (k : Nat) (n : Int), g' = l.length - k ∧ k ≤ l.length ∧ s14 = .int .i64 k ∧ s1 = .int .i64 n ∧ Hid (clear_ which (l.drop k) n = R) ∧ Below w.heap.size w wr)
  case atStart => exact ⟨0, y, rfl, Nat.zero_le _, rfl, rfl, HR, Below.refl _ _⟩
  case round =>
    obtain ⟨k, n, rfl, hk, rfl, rfl, HB, hB⟩ := hrel
    have hsz := hB.size
    by_cases hlt : k < l.length
    · obtain ⟨bb, off, f, rfl, hb, hf, -⟩ := (hA.below hB).at_ hlt
      obtain ⟨f0, f1, f2, f3, f4⟩ := floats_at (hA.below hB) hf.out
      have HB1 : Hid (clear_ which (l.drop (k + 1)) (if hits which f.right = true then max n f.bot else n) = R) := hid (by
        have := HB.out
        rw [drop_step hf.out, clear_step] at this
        exact this)
      have hBx : Below w.heap.size w (wr.alloc (.cells f.arr 38)) := hB.alloc hsz _
      have hFx : Blk (wr.alloc (.cells f.arr 38)) wr.heap.size 38 f.arr := Blk.new _ _ _
      clear HB
      obtain ⟨r, x, fy, wd, h⟩ := f
      simp only [Fl.arr] at hBx hFx
      simp only at f0 f1 f2 f3 f4
      go_upto_region 4 with fail
      refine wp_forget (fun Z => Blk Z wr.heap.size 38 #[.bool r, .int .i64 x, .int .i64 fy, .int .i64 wd, .int .i64 h] ∧ Below w.heap.size w Z) ⟨hFx, hBx⟩ ?_
      clear hFx hBx f0 f1 f2 f3 f4
      rintro w1 ⟨hFx, hBx⟩
      have e0 : w1.cell? ⟨wr.heap.size, 0, none⟩ = some (.bool r) := hFx.cell 0
      have e1 : w1.cell? ⟨wr.heap.size, 1, none⟩ = some (.int .i64 x) := hFx.cell 1
      have e2 : w1.cell? ⟨wr.heap.size, 2, none⟩ = some (.int .i64 fy) := hFx.cell 2
      have e3 : w1.cell? ⟨wr.heap.size, 3, none⟩ = some (.int .i64 wd) := hFx.cell 3
      have e4 : w1.cell? ⟨wr.heap.size, 4, none⟩ = some (.int .i64 h) := hFx.cell 4
      obtain ⟨q, hq⟩ : ∃ q, hits which r = q := ⟨_, rfl⟩
      have HQ := hid hq
      rw [hq] at HB1
      clear hq hFx
      go_cut [36] (fun s36 wx => s36 = .bool q ∧ w1 = wx)
      case first =>
        by_cases a3 : which = 3
        · have g3 : (which == 3) = true := by simpa using a3
          have HZ : Hid (q = true) := hid (by rw [← HQ.out]; simp [hits, a3])
          clear a3
          go_wp2_with fail
          go_meet
          exact ⟨by rw [HZ.out], rfl⟩
        · have g3 : (which == 3) = false := by simpa using a3
          by_cases a1 : which = 1
          · have g1 : (which == 1) = true := by simpa using a1
            have g2 : (which == 2) = false := by rw [a1]; rfl
            cases r
            · have HZ : Hid (q = true) := hid (by rw [← HQ.out]; simp [hits, a1])
              clear a3 a1
              go_wp2_with fail
              go_meet
              exact ⟨by rw [HZ.out], rfl⟩
            · have HZ : Hid (q = false) := hid (by rw [← HQ.out]; simp [hits, a1])
              clear a3 a1
              go_wp2_with fail
              go_meet
              exact ⟨by rw [HZ.out], rfl⟩
          · have g1 : (which == 1) = false := by simpa using a1
            by_cases a2 : which = 2
            · have g2 : (which == 2) = true := by simpa using a2
              have HZ : Hid (q = r) := hid (by rw [← HQ.out]; simp [hits, a2])
              clear a3 a1 a2
              go_wp2_with fail
              go_meet
              exact ⟨by rw [HZ.out], rfl⟩
            · have g2 : (which == 2) = false := by simpa using a2
              have HZ : Hid (q = false) := hid (by rw [← HQ.out]; simp [hits, a1, a2, a3])
              clear a3 a1 a2
              go_wp2_with fail
              go_meet
              exact ⟨by rw [HZ.out], rfl⟩
      case rest =>
      obtain ⟨rfl, rfl⟩ := hcut
      clear HQ
      cases q
      · have HB2 : Hid (clear_ which (l.drop (k + 1)) n = R) := hid (by simpa using HB1.out)
        go_wp2_with fail
        go_roundg (l.length - (k + 1))
        case rel => exact ⟨k + 1, n, rfl, by omega, by go_num, rfl, HB2, hBx⟩
        case measure => omega
      · have HB2 : Hid (clear_ which (l.drop (k + 1)) (max n (Fl.bot ⟨r, x, fy, wd, h⟩)) = R) := hid (by simpa using HB1.out)
        go_wp2_with fail
        refine (float_bottom ⟨r, x, fy, wd, h⟩ _).mono ?_
        rintro e w2 ⟨rfl, hb2⟩
        go_wp2_with fail
        go_roundg (l.length - (k + 1))
        case rel => exact ⟨k + 1, _, rfl, by omega, by go_num, rfl, HB2, hBx.trans (hb2.mono hBx.size)⟩
        case measure => omega
    · obtain rfl : k = l.length := by omega
      have HZ : Hid (n = R) := hid (by have := HB.out; rw [List.drop_of_length_le (Nat.le_refl _), clear_] at this; exact this)
      go_wp2_with fail
      go_ret
      exact ⟨ret_int HZ.out, hB⟩
theorem room_Bottom (g base : Nat) (left right : Int) (l : List Fl) (v : Value) (w : World) (hl : l.length ≤ 1000) (hr : RoomAt w g base left right l v) :
    Calls Try.prog 18 #[.pointer (some ⟨g, 0, none⟩)] w fun e w' =>
      e = .returned (.int .i64 (clear_ 3 l (-70368744177664))) ∧ Below w.heap.size w w' := by
  go_enter Try.func18, Try.ntmps18
  go_wp2_with fail
  refine (room_Clear g base left right l v _ _ _ hl hr).mono ?_
  rintro e w1 ⟨rfl, hb⟩
  go_wp2_with fail
  go_ret
  exact ⟨rfl, hb⟩
theorem room_New (left width : Int) (w : World) :
    Calls Try.prog 14 #[.int .i64 left, .int .i64 width] w fun e w' =>
      e = .returned (.pointer (some ⟨w.heap.size, 0, none⟩)) ∧ Below w.heap.size w w' ∧ w'.heap.size = w.heap.size + 1 ∧ RoomAt w' w.heap.size (w.heap.size + 1) (sat left) (add (sat left) (max width 0)) [] (.slice none 0 0) := by
  have hN : Blk (w.alloc (.cells #[.int .i64 (sat left), .int .i64 (add (sat left) (max width 0)), .slice none 0 0] 89)) w.heap.size 89 #[.int .i64 (sat left), .int .i64 (add (sat left) (max width 0)), .slice none 0 0] := Blk.new _ _ _
  have hB : Below w.heap.size w (w.alloc (.cells #[.int .i64 (sat left), .int .i64 (add (sat left) (max width 0)), .slice none 0 0] 89)) := by go_grown
  go_enter Try.func14, Try.ntmps14
  go_wp2_with (first | (go_at_call 48; refine (fixed_Sat _ _).mono ?_; rintro e w' ⟨rfl, rfl⟩) | (go_at_call 49; refine (fixed_Add _ _ _).mono ?_; rintro e w' ⟨rfl, rfl⟩))
  go_ret
  exact ⟨rfl, hB, by simp, hN, own_nil _ _ _ _⟩
end Go.Proofs.Ytkoanijiihnioaa
