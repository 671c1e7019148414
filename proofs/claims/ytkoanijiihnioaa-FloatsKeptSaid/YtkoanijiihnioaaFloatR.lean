/-
  The walks of the document's room of floats: stands, Band, Next.
-/
import Derived.Test.YtkoanijiihnioaaFloatE
import Derived.Test.YtkoanijiihnioaaOrdQ
namespace Go.Proofs.Ytkoanijiihnioaa
open Go.RowKit Num Mem
set_option linter.unusedVariables false
set_option linter.unusedSimpArgs false
theorem ref2_Empty (x y ww hh : Int) (w : World) : Calls Try.prog 68 #[.agg #[.int .i64 x, .int .i64 y, .int .i64 ww, .int .i64 hh]] w fun e w' => e = .returned (.bool (emp ww hh)) ∧ Below w.heap.size w w' := by
  have hB : Below w.heap.size w (w.alloc (.cells #[.int .i64 x, .int .i64 y, .int .i64 ww, .int .i64 hh] 27)) := by go_grown
  by_cases h1 : ww ≤ 0
  · have g1 : decide (ww ≤ 0) = true := by simpa using h1
    have HZ : Hid (true = emp ww hh) := hid (by simp [emp, h1])
    go_enter Try.func68, Try.ntmps68
    go_wp2_with fail
    go_ret
    exact ⟨ret_bool HZ.out, hB⟩
  · have g1 : decide (ww ≤ 0) = false := by simpa using h1
    by_cases h2 : hh ≤ 0
    · have g2 : decide (hh ≤ 0) = true := by simpa using h2
      have HZ : Hid (true = emp ww hh) := hid (by simp [emp, h2])
      go_enter Try.func68, Try.ntmps68
      go_wp2_with fail
      go_ret
      exact ⟨ret_bool HZ.out, hB⟩
    · have g2 : decide (hh ≤ 0) = false := by simpa using h2
      have HZ : Hid (false = emp ww hh) := hid (by simp [emp, h1, h2])
      go_enter Try.func68, Try.ntmps68
      go_wp2_with fail
      go_ret
      exact ⟨ret_bool HZ.out, hB⟩
set_option maxHeartbeats 1000000 in
theorem ref17_stands (f : Fl) (y : Int) (w : World) : Calls Try.prog 61 #[.agg f.arr, .int .i64 y] w fun e w' => e = .returned (.bool (f.stands y)) ∧ Below w.heap.size w w' := by
  obtain ⟨r, x, fy, wd, h⟩ := f
  have HS : Hid (Fl.stands ⟨r, x, fy, wd, h⟩ y = (!emp wd h && decide (fy ≤ y) && decide (y < add fy h))) := rfl
  have hF : Blk (w.alloc (.cells (Fl.arr ⟨r, x, fy, wd, h⟩) 44)) w.heap.size 44 (Fl.arr ⟨r, x, fy, wd, h⟩) := Blk.new _ _ _
  have hB : Below w.heap.size w (w.alloc (.cells (Fl.arr ⟨r, x, fy, wd, h⟩) 44)) := by go_grown
  go_enter Try.func61, Try.ntmps61
  go_upto_region 1 with fail
  refine wp_forget (fun Z => Blk Z w.heap.size 44 (Fl.arr ⟨r, x, fy, wd, h⟩) ∧ Below w.heap.size w Z) ⟨hF, hB⟩ ?_
  clear hF hB
  rintro w0 ⟨hF, hB⟩
  have c1 : w0.cell? ⟨w.heap.size, 1, none⟩ = some (.int .i64 x) := hF.cell 1
  have c2 : w0.cell? ⟨w.heap.size, 2, none⟩ = some (.int .i64 fy) := hF.cell 2
  have c3 : w0.cell? ⟨w.heap.size, 3, none⟩ = some (.int .i64 wd) := hF.cell 3
  have c4 : w0.cell? ⟨w.heap.size, 4, none⟩ = some (.int .i64 h) := hF.cell 4
  go_wp2_with fail
  refine (ref2_Empty _ _ _ _ _).mono ?_
  rintro e w1 ⟨rfl, hb⟩
  replace hF := hF.below hb hF.lt
  replace hB := hB.trans (hb.mono hB.size)
  clear hb c1 c2 c3 c4
  have c0 : w1.cell? ⟨w.heap.size, 0, none⟩ = some (.bool r) := hF.cell 0
  have c1 : w1.cell? ⟨w.heap.size, 1, none⟩ = some (.int .i64 x) := hF.cell 1
  have c2 : w1.cell? ⟨w.heap.size, 2, none⟩ = some (.int .i64 fy) := hF.cell 2
  have c3 : w1.cell? ⟨w.heap.size, 3, none⟩ = some (.int .i64 wd) := hF.cell 3
  have c4 : w1.cell? ⟨w.heap.size, 4, none⟩ = some (.int .i64 h) := hF.cell 4
  obtain ⟨em, hem⟩ : ∃ em, emp wd h = em := ⟨_, rfl⟩
  rw [hem] at HS ⊢
  clear hem
  cases em
  · by_cases hy : fy ≤ y
    · have g1 : decide (fy ≤ y) = true := by simpa using hy
      have HZ : Hid (Fl.stands ⟨r, x, fy, wd, h⟩ y = decide (y < add fy h)) := hid (by rw [HS.out, g1]; rfl)
      go_wp2_with (go_at_call 60; refine (ref_Add _ _ _).mono ?_; rintro e w' ⟨rfl, rfl⟩)
      go_ret
      exact ⟨ret_bool HZ.out.symm, hB⟩
    · have g1 : decide (fy ≤ y) = false := by simpa using hy
      have HZ : Hid (Fl.stands ⟨r, x, fy, wd, h⟩ y = false) := hid (by rw [HS.out, g1]; rfl)
      go_wp2_with fail
      go_ret
      exact ⟨ret_bool HZ.out.symm, hB⟩
  · have HZ : Hid (Fl.stands ⟨r, x, fy, wd, h⟩ y = false) := hid (by rw [HS.out]; rfl)
    go_wp2_with fail
    go_ret
    exact ⟨ret_bool HZ.out.symm, hB⟩
/-- the document's room: its box, and its floats. -/
structure RefAt (W : World) (g base : Nat) (left width : Int) (l : List Fl) (v : Value) : Prop where
  blk : Blk W g 43 #[.int .i64 left, .int .i64 width, v]
  own : W.ownsRow base 44 5 v l.length (l.flatMap Fl.cells)
theorem RefAt.below {w W : World} {g base : Nat} {left width : Int} {l : List Fl} {v : Value} (h : RefAt w g base left width l v) (hb : Below w.heap.size w W) : RefAt W g base left width l v :=
  ⟨h.blk.below hb h.blk.lt, own_below h.own hb⟩
theorem RefAt.drawn {w W : World} {g base : Nat} {left width : Int} {l : List Fl} {v : Value} (h : RefAt w g base left width l v) (hd : Drawn w W) : RefAt W g base left width l v := h.below (hd.below _)
def fl5 (r : Bool) (x y w h : Int) : Array Value := #[.bool r, .int .i64 x, .int .i64 y, .int .i64 w, .int .i64 h]
theorem info_rfl5 : (Try.prog.info? 44).map (fun i => (i.zero, i.size, i.bytes)) = some (some (.agg #[.bool false, .int .i64 0, .int .i64 0, .int .i64 0, .int .i64 0]), 5, 40) := by kernel_rfl
set_option maxRecDepth 100000 in
set_option maxHeartbeats 2000000 in
theorem ref17_Band (g base : Nat) (left width : Int) (l : List Fl) (v : Value) (y : Int) (w : World) (hl : l.length ≤ 1000) (hr : RefAt w g base left width l v) :
    Calls Try.prog 32 #[.pointer (some ⟨g, 0, none⟩), .int .i64 y] w fun e w' =>
      e = .returned (.tuple #[.int .i64 (band y l left (add left width)).1, .int .i64 (band y l left (add left width)).2]) ∧ Below w.heap.size w w' := by
  have c0 : w.drew.cell? ⟨g, 0, none⟩ = some (.int .i64 left) := hr.blk.cell 0
  have c1 : w.drew.cell? ⟨g, 1, none⟩ = some (.int .i64 width) := hr.blk.cell 1
  have d0 : w.cell? ⟨g, 0, none⟩ = some (.int .i64 left) := hr.blk.cell 0
  have HC : Hid (∀ W, Below w.heap.size w W → W.cell? ⟨g, 2, none⟩ = some v) := hid fun W h => (hr.below h).blk.cell 2
  obtain ⟨A, c, rfl, hc⟩ := own_some hr.own
  have hA : Recs w w.heap.size A 5 Fl.cells l := Recs.of_own fl_length (by decide) hr.own
  obtain ⟨R, hR⟩ : ∃ R, band y l left (add left width) = R := ⟨_, rfl⟩
  have HR := hid hR
  rw [hR]
  clear hR hr
  go_enter Try.func32, Try.ntmps32
  go_upto_region 2 with fail
  refine wp_region_noPanic ?_
  refine Ord.region_Q (S := fun Z : World => Z.cell? ⟨g, 0, none⟩ = some (.int .i64 left) ∧ Z.cell? ⟨g, 1, none⟩ = some (.int .i64 width)) 999 (.one 0 true (.one 1 true (.one 2 true (.one 3 true (.one 4 true (.one 5 true (.one 6 true (.one 7 true (.one 8 true (.one 9 true .nil)))))))))) (by kernel_rfl) (by kernel_rfl) (by kernel_rfl) (by decide) (fun _ _ _ _ _ h => h) (⟨c0, c1⟩) (fun hS0 => ?_)
  simp only [Ord.layT, List.getElem?_cons_zero, List.getElem?_cons_succ]
  (refine Ord.takeQ (v := ?_) (Or.inl ⟨rfl, ?_⟩) ?_; rotate_left; (intro w hSw; (try dsimp only at hSw); go_simp; try (with_reducible rfl)); (try simp only [Act.put, List.setIfInBounds_toArray, List.set_cons_zero, List.set_cons_succ]))
  (refine Ord.takeQ (v := ?_) (Or.inl ⟨rfl, ?_⟩) ?_; rotate_left; (intro w hSw; (try dsimp only at hSw); go_simp; try (with_reducible rfl)); (try simp only [Act.put, List.setIfInBounds_toArray, List.set_cons_zero, List.set_cons_succ]))
  (refine Ord.takeQ (v := ?_) (Or.inl ⟨rfl, ?_⟩) ?_; rotate_left; (intro w hSw; (try dsimp only at hSw); go_simp; try (with_reducible rfl)); (try simp only [Act.put, List.setIfInBounds_toArray, List.set_cons_zero, List.set_cons_succ]))
  (refine Ord.takeQ (v := ?_) (Or.inl ⟨rfl, ?_⟩) ?_; rotate_left; (intro w hSw; (try dsimp only at hSw); go_simp; try (with_reducible rfl)); (try simp only [Act.put, List.setIfInBounds_toArray, List.set_cons_zero, List.set_cons_succ]))
  (refine Ord.takeQ (v := ?_) (Or.inl ⟨rfl, ?_⟩) ?_; rotate_left; (intro w hSw; (try dsimp only at hSw); go_simp; try (with_reducible rfl)); (try simp only [Act.put, List.setIfInBounds_toArray, List.set_cons_zero, List.set_cons_succ]))
  (refine Ord.takeQ (v := ?_) (Or.inl ⟨rfl, ?_⟩) ?_; rotate_left; (intro w hSw; (try dsimp only at hSw); go_simp; try (with_reducible rfl)); (try simp only [Act.put, List.setIfInBounds_toArray, List.set_cons_zero, List.set_cons_succ]))
  (refine Ord.takeQ (v := ?_) (Or.inl ⟨rfl, ?_⟩) ?_; rotate_left; (intro w hSw; (try dsimp only at hSw); go_simp; try (with_reducible rfl)); (try simp only [Act.put, List.setIfInBounds_toArray, List.set_cons_zero, List.set_cons_succ]))
  (refine Ord.takeQ (v := ?_) (Or.inl ⟨rfl, ?_⟩) ?_; rotate_left; (intro w hSw; (try dsimp only at hSw); go_simp; try (with_reducible rfl)); (try simp only [Act.put, List.setIfInBounds_toArray, List.set_cons_zero, List.set_cons_succ]))
  (refine Ord.takeC 60 #[.int .i64 left, .int .i64 width] rfl (fun _ _ => by kernel_rfl) (fun w hSw => ref_Add _ _ _) ?_; (try simp only [Act.put, List.setIfInBounds_toArray, List.set_cons_zero, List.set_cons_succ]))
  (refine Ord.takeQ (v := ?_) (Or.inl ⟨rfl, ?_⟩) ?_; rotate_left; (intro w hSw; (try dsimp only at hSw); go_simp; try (with_reducible rfl)); (try simp only [Act.put, List.setIfInBounds_toArray, List.set_cons_zero, List.set_cons_succ]))
  refine Ord.doneQ (NoPanic.normal ?_)
  clear hS0
  obtain ⟨wq, hwq⟩ : ∃ wq, w.drew = wq := ⟨_, rfl⟩
  have hD : Drawn w wq := ⟨1, hwq⟩
  rw [hwq]
  clear hwq c0 c1 d0
  generalize add left width = right at *
  go_wp2_with fail
  go_loopg [6, 7, 8] l.length (fun g' s6 s7 s8 wr => ∃ (k : Nat) (a b : Int), g' = l.length - k ∧ k ≤ l.length ∧ s8 = .int .i64 k ∧ s6 = .int .i64 a ∧ s7 = .int .i64 b ∧ Hid (band y (l.drop k) a b = R) ∧ Below w.heap.size w wr)
  case atStart => exact ⟨0, left, right, rfl, Nat.zero_le _, rfl, rfl, rfl, HR, hD.below _⟩
  case round =>
    clear hD
    obtain ⟨k, a, b, rfl, hk, rfl, rfl, rfl, HB, hB⟩ := hrel
    have c2 := HC.out wr hB
    have hsz := hB.size
    by_cases hlt : k < l.length
    · obtain ⟨bb, off, f, rfl, hb, hf, -⟩ := (hA.below hB).at_ hlt
      obtain ⟨f0, f1, f2, f3, f4⟩ := floats_at (hA.below hB) hf.out
      have HB1 : Hid ((if f.stands y = false then band y (l.drop (k + 1)) a b else if f.right = true then band y (l.drop (k + 1)) a (min b f.x) else band y (l.drop (k + 1)) (max a f.fin) b) = R) := hid (by
        have := HB.out
        rw [drop_step hf.out, band] at this
        exact this)
      have hBx : Below w.heap.size w (wr.alloc (.cells f.arr 44)) := hB.alloc hsz _
      have hFx : Blk (wr.alloc (.cells f.arr 44)) wr.heap.size 44 f.arr := Blk.new _ _ _
      clear HB
      obtain ⟨r, x, fy, wd, h⟩ := f
      simp only [Fl.arr] at hBx hFx
      simp only at f0 f1 f2 f3 f4
      go_wp2_with fail
      refine (ref17_stands ⟨r, x, fy, wd, h⟩ y _).mono ?_
      rintro e w1 ⟨rfl, hb1⟩
      replace hFx := hFx.below hb1 hFx.lt
      replace hBx := hBx.trans (hb1.mono hBx.size)
      have e0 : w1.cell? ⟨wr.heap.size, 0, none⟩ = some (.bool r) := hFx.cell 0
      have e1 : w1.cell? ⟨wr.heap.size, 1, none⟩ = some (.int .i64 x) := hFx.cell 1
      have e2 : w1.cell? ⟨wr.heap.size, 2, none⟩ = some (.int .i64 fy) := hFx.cell 2
      have e3 : w1.cell? ⟨wr.heap.size, 3, none⟩ = some (.int .i64 wd) := hFx.cell 3
      have e4 : w1.cell? ⟨wr.heap.size, 4, none⟩ = some (.int .i64 h) := hFx.cell 4
      clear hb1 hFx f0 f1 f2 f3 f4 c2
      obtain ⟨st, hst⟩ : ∃ st, Fl.stands ⟨r, x, fy, wd, h⟩ y = st := ⟨_, rfl⟩
      rw [hst] at HB1 ⊢
      clear hst
      cases st
      · have HB2 : Hid (band y (l.drop (k + 1)) a b = R) := hid (by simpa using HB1.out)
        go_wp2_with fail
        go_roundg (l.length - (k + 1))
        case rel => exact ⟨k + 1, a, b, rfl, by omega, by go_num, rfl, rfl, HB2, hBx⟩
        case measure => omega
      · cases r
        · have HF : Hid (Fl.fin ⟨false, x, fy, wd, h⟩ = add x wd) := rfl
          by_cases hm : a < add x wd
          · have g1 : decide (a < add x wd) = true := by simpa using hm
            have HB2 : Hid (band y (l.drop (k + 1)) (add x wd) b = R) := hid (by
              have := HB1.out
              simp only [HF.out] at this
              rw [show max a (add x wd) = add x wd by omega] at this
              simpa using this)
            go_wp2_with (go_at_call 60; refine (ref_Add _ _ _).mono ?_; rintro e w' ⟨rfl, rfl⟩)
            go_roundg (l.length - (k + 1))
            case rel => exact ⟨k + 1, _, b, rfl, by omega, by go_num, rfl, rfl, HB2, hBx⟩
            case measure => omega
          · have g1 : decide (a < add x wd) = false := by simpa using hm
            have HB2 : Hid (band y (l.drop (k + 1)) a b = R) := hid (by
              have := HB1.out
              simp only [HF.out] at this
              rw [show max a (add x wd) = a by omega] at this
              simpa using this)
            go_wp2_with (go_at_call 60; refine (ref_Add _ _ _).mono ?_; rintro e w' ⟨rfl, rfl⟩)
            go_roundg (l.length - (k + 1))
            case rel => exact ⟨k + 1, a, b, rfl, by omega, by go_num, rfl, rfl, HB2, hBx⟩
            case measure => omega
        · by_cases hm : x < b
          · have g1 : decide (x < b) = true := by simpa using hm
            have HB2 : Hid (band y (l.drop (k + 1)) a x = R) := hid (by
              have := HB1.out
              simp only at this
              rw [show min b x = x by omega] at this
              simpa using this)
            go_wp2_with (go_at_call 60; refine (ref_Add _ _ _).mono ?_; rintro e w' ⟨rfl, rfl⟩)
            go_roundg (l.length - (k + 1))
            case rel => exact ⟨k + 1, a, x, rfl, by omega, by go_num, rfl, rfl, HB2, hBx⟩
            case measure => omega
          · have g1 : decide (x < b) = false := by simpa using hm
            have HB2 : Hid (band y (l.drop (k + 1)) a b = R) := hid (by
              have := HB1.out
              simp only at this
              rw [show min b x = b by omega] at this
              simpa using this)
            go_wp2_with (go_at_call 60; refine (ref_Add _ _ _).mono ?_; rintro e w' ⟨rfl, rfl⟩)
            go_roundg (l.length - (k + 1))
            case rel => exact ⟨k + 1, a, b, rfl, by omega, by go_num, rfl, rfl, HB2, hBx⟩
            case measure => omega
    · obtain rfl : k = l.length := by omega
      have HZ : Hid ((a, max a b) = R) := hid (by have := HB.out; rw [List.drop_of_length_le (Nat.le_refl _), band] at this; exact this)
      by_cases hm : b < a
      · have g1 : decide (b < a) = true := by simpa using hm
        have HZ2 : Hid ((a, a) = R) := hid (by rw [← HZ.out, show max a b = a by omega])
        go_wp2_with fail
        go_ret2
        rw [← HZ2.out]
        exact ⟨rfl, hB⟩
      · have g1 : decide (b < a) = false := by simpa using hm
        have HZ2 : Hid ((a, b) = R) := hid (by rw [← HZ.out, show max a b = b by omega])
        go_wp2_with fail
        go_ret2
        rw [← HZ2.out]
        exact ⟨rfl, hB⟩
set_option maxRecDepth 100000 in
set_option maxHeartbeats 2000000 in
theorem ref17_Next (g base : Nat) (left width : Int) (l : List Fl) (v : Value) (y : Int) (w : World) (hl : l.length ≤ 1000) (hr : RefAt w g base left width l v) :
    Calls Try.prog 33 #[.pointer (some ⟨g, 0, none⟩), .int .i64 y] w fun e w' =>
      e = .returned (.tuple #[.int .i64 (next y l 0 false).1, .bool (next y l 0 false).2]) ∧ Below w.heap.size w w' := by
  have HC : Hid (∀ W, Below w.heap.size w W → W.cell? ⟨g, 2, none⟩ = some v) := hid fun W h => (hr.below h).blk.cell 2
  obtain ⟨A, c, rfl, hc⟩ := own_some hr.own
  have hA : Recs w w.heap.size A 5 Fl.cells l := Recs.of_own fl_length (by decide) hr.own
  obtain ⟨R, hR⟩ : ∃ R, next y l 0 false = R := ⟨_, rfl⟩
  have HR := hid hR
  rw [hR]
  clear hR hr
  go_enter Try.func33, Try.ntmps33
  go_wp2_with fail
  go_loopg [6, 7, 8] l.length (fun g' s6 s7 s8 wr => ∃ (k : Nat) (n : Int) (m : Bool), g' = l.length - k ∧ k ≤ l.length ∧ s8 = .int .i64 k ∧ s6 = .int .i64 n ∧ s7 = .bool m ∧ Hid (next y (l.drop k) n m = R) ∧ Below w.heap.size w wr)
  case atStart => exact ⟨0, 0, false, rfl, Nat.zero_le _, rfl, rfl, rfl, HR, Below.refl _ _⟩
  case round =>
    obtain ⟨k, n, m, rfl, hk, rfl, rfl, rfl, HB, hB⟩ := hrel
    have c2 := HC.out wr hB
    have hsz := hB.size
    by_cases hlt : k < l.length
    · obtain ⟨bb, off, f, rfl, hb, hf, -⟩ := (hA.below hB).at_ hlt
      have HFF : Hid (∀ W, Below w.heap.size w W → W.cell? ⟨bb, off + k * 5 + 2, none⟩ = some (.int .i64 f.y) ∧ W.cell? ⟨bb, off + k * 5 + 4, none⟩ = some (.int .i64 f.h)) := hid fun W h => ⟨(floats_at (hA.below h) hf.out).2.2.1, (floats_at (hA.below h) hf.out).2.2.2.2⟩
      obtain ⟨f0, f1, f2, f3, f4⟩ := floats_at (hA.below hB) hf.out
      have HB1 : Hid ((if f.stands y = true ∧ (m = false ∨ f.bot < n) then next y (l.drop (k + 1)) f.bot true else next y (l.drop (k + 1)) n m) = R) := hid (by
        have := HB.out
        rw [drop_step hf.out, next] at this
        exact this)
      clear HB
      obtain ⟨r, x, fy, wd, h⟩ := f
      simp only at f0 f1 f2 f3 f4
      replace HFF := hid HFF.out
      go_wp2_with fail
      refine (ref17_stands ⟨r, x, fy, wd, h⟩ y _).mono ?_
      rintro e w1 ⟨rfl, hb1⟩
      have hBx := hB.trans (hb1.mono hB.size)
      clear f0 f1 f2 f3 f4 c2 hb1
      obtain ⟨st, hst⟩ : ∃ st, Fl.stands ⟨r, x, fy, wd, h⟩ y = st := ⟨_, rfl⟩
      rw [hst] at HB1 ⊢
      clear hst
      cases st
      · have HB2 : Hid (next y (l.drop (k + 1)) n m = R) := hid (by simpa using HB1.out)
        go_wp2_with fail
        go_roundg (l.length - (k + 1))
        case rel => exact ⟨k + 1, n, m, rfl, by omega, by go_num, rfl, rfl, HB2, hBx⟩
        case measure => omega
      · have c2 := HC.out w1.drew hBx.drew
        obtain ⟨f2, f4⟩ := HFF.out w1.drew hBx.drew
        have HBO : Hid (Fl.bot ⟨r, x, fy, wd, h⟩ = add fy h) := rfl
        go_upto_region 7 with fail
        refine wp_region_noPanic ?_
        refine Ord.region_Q (S := fun Z : World => Z.cell? ⟨g, 2, none⟩ = some (.slice (some ⟨bb, off, none⟩) l.length c) ∧ Z.cell? ⟨bb, off + k * 5 + 2, none⟩ = some (.int .i64 fy) ∧ Z.cell? ⟨bb, off + k * 5 + 4, none⟩ = some (.int .i64 h)) 999 (.one 0 true (.one 1 true (.one 2 true (.one 3 true (.one 4 true (.one 5 true (.one 6 true (.one 7 true (.one 8 true (.one 9 true (.one 10 true (.one 11 true (.one 12 true (.one 13 true (.one 14 true (.one 15 true (.one 16 true (.one 17 true (.one 18 true (.one 19 true .nil)))))))))))))))))))) (by kernel_rfl) (by kernel_rfl) (by kernel_rfl) (by decide) (fun _ _ _ _ _ h => h) (⟨c2, f2, f4⟩) (fun hS0 => ?_)
        simp only [Ord.layT, List.getElem?_cons_zero, List.getElem?_cons_succ]
        (refine Ord.takeQ (v := ?_) (Or.inl ⟨rfl, ?_⟩) ?_; rotate_left; (intro w hSw; (try dsimp only at hSw); go_simp; try (with_reducible rfl)); (try simp only [Act.put, List.setIfInBounds_toArray, List.set_cons_zero, List.set_cons_succ]))
        (refine Ord.takeQ (v := ?_) (Or.inl ⟨rfl, ?_⟩) ?_; rotate_left; (intro w hSw; (try dsimp only at hSw); go_simp; try (with_reducible rfl)); (try simp only [Act.put, List.setIfInBounds_toArray, List.set_cons_zero, List.set_cons_succ]))
        (refine Ord.takeQ (v := ?_) (Or.inl ⟨rfl, ?_⟩) ?_; rotate_left; (intro w hSw; (try dsimp only at hSw); go_simp; try (with_reducible rfl)); (try simp only [Act.put, List.setIfInBounds_toArray, List.set_cons_zero, List.set_cons_succ]))
        (refine Ord.takeQ (v := ?_) (Or.inl ⟨rfl, ?_⟩) ?_; rotate_left; (intro w hSw; (try dsimp only at hSw); go_simp; try (with_reducible rfl)); (try simp only [Act.put, List.setIfInBounds_toArray, List.set_cons_zero, List.set_cons_succ]))
        (refine Ord.takeQ (v := ?_) (Or.inl ⟨rfl, ?_⟩) ?_; rotate_left; (intro w hSw; (try dsimp only at hSw); go_simp; try (with_reducible rfl)); (try simp only [Act.put, List.setIfInBounds_toArray, List.set_cons_zero, List.set_cons_succ]))
        (refine Ord.takeQ (v := ?_) (Or.inl ⟨rfl, ?_⟩) ?_; rotate_left; (intro w hSw; (try dsimp only at hSw); go_simp; try (with_reducible rfl)); (try simp only [Act.put, List.setIfInBounds_toArray, List.set_cons_zero, List.set_cons_succ]))
        (refine Ord.takeQ (v := ?_) (Or.inl ⟨rfl, ?_⟩) ?_; rotate_left; (intro w hSw; (try dsimp only at hSw); go_simp; try (with_reducible rfl)); (try simp only [Act.put, List.setIfInBounds_toArray, List.set_cons_zero, List.set_cons_succ]))
        (refine Ord.takeQ (v := ?_) (Or.inl ⟨rfl, ?_⟩) ?_; rotate_left; (intro w hSw; (try dsimp only at hSw); go_simp; try (with_reducible rfl)); (try simp only [Act.put, List.setIfInBounds_toArray, List.set_cons_zero, List.set_cons_succ]))
        (refine Ord.takeQ (v := ?_) (Or.inl ⟨rfl, ?_⟩) ?_; rotate_left; (intro w hSw; (try dsimp only at hSw); go_simp; try (with_reducible rfl)); (try simp only [Act.put, List.setIfInBounds_toArray, List.set_cons_zero, List.set_cons_succ]))
        (refine Ord.takeQ (v := ?_) (Or.inl ⟨rfl, ?_⟩) ?_; rotate_left; (intro w hSw; (try dsimp only at hSw); go_simp; try (with_reducible rfl)); (try simp only [Act.put, List.setIfInBounds_toArray, List.set_cons_zero, List.set_cons_succ]))
        (refine Ord.takeQ (v := ?_) (Or.inl ⟨rfl, ?_⟩) ?_; rotate_left; (intro w hSw; (try dsimp only at hSw); go_simp; try (with_reducible rfl)); (try simp only [Act.put, List.setIfInBounds_toArray, List.set_cons_zero, List.set_cons_succ]))
        (refine Ord.takeQ (v := ?_) (Or.inl ⟨rfl, ?_⟩) ?_; rotate_left; (intro w hSw; (try dsimp only at hSw); go_simp; try (with_reducible rfl)); (try simp only [Act.put, List.setIfInBounds_toArray, List.set_cons_zero, List.set_cons_succ]))
        (refine Ord.takeQ (v := ?_) (Or.inl ⟨rfl, ?_⟩) ?_; rotate_left; (intro w hSw; (try dsimp only at hSw); go_simp; try (with_reducible rfl)); (try simp only [Act.put, List.setIfInBounds_toArray, List.set_cons_zero, List.set_cons_succ]))
        (refine Ord.takeQ (v := ?_) (Or.inl ⟨rfl, ?_⟩) ?_; rotate_left; (intro w hSw; (try dsimp only at hSw); go_simp; try (with_reducible rfl)); (try simp only [Act.put, List.setIfInBounds_toArray, List.set_cons_zero, List.set_cons_succ]))
        (refine Ord.takeQ (v := ?_) (Or.inl ⟨rfl, ?_⟩) ?_; rotate_left; (intro w hSw; (try dsimp only at hSw); go_simp; try (with_reducible rfl)); (try simp only [Act.put, List.setIfInBounds_toArray, List.set_cons_zero, List.set_cons_succ]))
        (refine Ord.takeQ (v := ?_) (Or.inl ⟨rfl, ?_⟩) ?_; rotate_left; (intro w hSw; (try dsimp only at hSw); go_simp; try (with_reducible rfl)); (try simp only [Act.put, List.setIfInBounds_toArray, List.set_cons_zero, List.set_cons_succ]))
        (refine Ord.takeQ (v := ?_) (Or.inl ⟨rfl, ?_⟩) ?_; rotate_left; (intro w hSw; (try dsimp only at hSw); go_simp; try (with_reducible rfl)); (try simp only [Act.put, List.setIfInBounds_toArray, List.set_cons_zero, List.set_cons_succ]))
        (refine Ord.takeQ (v := ?_) (Or.inl ⟨rfl, ?_⟩) ?_; rotate_left; (intro w hSw; (try dsimp only at hSw); go_simp; try (with_reducible rfl)); (try simp only [Act.put, List.setIfInBounds_toArray, List.set_cons_zero, List.set_cons_succ]))
        (refine Ord.takeC 60 #[.int .i64 fy, .int .i64 h] rfl (fun _ _ => by kernel_rfl) (fun w hSw => ref_Add _ _ _) ?_; (try simp only [Act.put, List.setIfInBounds_toArray, List.set_cons_zero, List.set_cons_succ]))
        (refine Ord.takeQ (v := ?_) (Or.inl ⟨rfl, ?_⟩) ?_; rotate_left; (intro w hSw; (try dsimp only at hSw); go_simp; try (with_reducible rfl)); (try simp only [Act.put, List.setIfInBounds_toArray, List.set_cons_zero, List.set_cons_succ]))
        refine Ord.doneQ (NoPanic.normal ?_)
        clear hS0 c2 f2 f4
        have hBz := hBx.drew
        generalize w1.drew = w2 at *
        obtain ⟨bo, hbo⟩ : ∃ bo, add fy h = bo := ⟨_, rfl⟩
        rw [hbo] at HBO ⊢
        rw [HBO.out] at HB1
        clear hbo HBO
        cases m
        · have HB2 : Hid (next y (l.drop (k + 1)) bo true = R) := hid (by simpa using HB1.out)
          go_wp2_with fail
          go_roundg (l.length - (k + 1))
          case rel => exact ⟨k + 1, bo, true, rfl, by omega, by go_num, rfl, rfl, HB2, hBz⟩
          case measure => omega
        · by_cases hlt3 : bo < n
          · have g3 : decide (bo < n) = true := by simpa using hlt3
            have HB2 : Hid (next y (l.drop (k + 1)) bo true = R) := hid (by simpa [hlt3] using HB1.out)
            go_wp2_with fail
            go_roundg (l.length - (k + 1))
            case rel => exact ⟨k + 1, bo, true, rfl, by omega, by go_num, rfl, rfl, HB2, hBz⟩
            case measure => omega
          · have g3 : decide (bo < n) = false := by simpa using hlt3
            have HB2 : Hid (next y (l.drop (k + 1)) n true = R) := hid (by simpa [hlt3] using HB1.out)
            go_wp2_with fail
            go_roundg (l.length - (k + 1))
            case rel => exact ⟨k + 1, n, true, rfl, by omega, by go_num, rfl, rfl, HB2, hBz⟩
            case measure => omega
    · obtain rfl : k = l.length := by omega
      have HZ : Hid ((n, m) = R) := hid (by have := HB.out; rw [List.drop_of_length_le (Nat.le_refl _), next] at this; exact this)
      go_wp2_with fail
      go_ret2
      rw [← HZ.out]
      exact ⟨rfl, hB⟩
end Go.Proofs.Ytkoanijiihnioaa
