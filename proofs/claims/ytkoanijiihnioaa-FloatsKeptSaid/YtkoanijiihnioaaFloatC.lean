/-
  The walks of floats' Room: Band, Next, Clear, Bottom.
-/
import Derived.Test.YtkoanijiihnioaaFloatB
import Derived.Test.YtkoanijiihnioaaOrd
import Derived.Test.YtkoanijiihnioaaOrdM
namespace Go.Proofs.Ytkoanijiihnioaa
open Go.RowKit Num Mem
set_option linter.unusedVariables false
set_option linter.unusedSimpArgs false
theorem info_float5 : (Try.prog.info? 38).map (fun i => (i.zero, i.size, i.bytes)) = some (some (.agg #[.bool false, .int .i64 0, .int .i64 0, .int .i64 0, .int .i64 0]), 5, 40) := by kernel_rfl
set_option maxRecDepth 100000 in
set_option maxHeartbeats 2000000 in
theorem room_Band (g base : Nat) (left right : Int) (l : List Fl) (v : Value) (y : Int) (w : World) (hl : l.length ≤ 1000) (hr : RoomAt w g base left right l v) :
    Calls Try.prog 31 #[.pointer (some ⟨g, 0, none⟩), .int .i64 y] w fun e w' =>
      e = .returned (.tuple #[.int .i64 (band y l left right).1, .int .i64 (band y l left right).2]) ∧ Below w.heap.size w w' := by
  have c0 : w.drew.cell? ⟨g, 0, none⟩ = some (.int .i64 left) := hr.blk.cell 0
  have c1 : w.drew.cell? ⟨g, 1, none⟩ = some (.int .i64 right) := hr.blk.cell 1
  have c2 : ∀ W, Drawn w W → W.cell? ⟨g, 2, none⟩ = some v := fun W h => (hr.drawn h).blk.cell 2
  have HC := hid c2
  clear c2
  obtain ⟨A, c, rfl, hc⟩ := own_some hr.own
  have hA : Recs w w.heap.size A 5 Fl.cells l := Recs.of_own fl_length (by decide) hr.own
  obtain ⟨R, hR⟩ : ∃ R, band y l left right = R := ⟨_, rfl⟩
  have HR := hid hR
  rw [hR]
  clear hR
  go_enter Try.func31, Try.ntmps31
  go_upto_region 1 with fail
  refine wp_region_noPanic ?_
  refine Ord.region_ord (S := fun Z => Z.cell? ⟨g, 0, none⟩ = some (.int .i64 left) ∧ Z.cell? ⟨g, 1, none⟩ = some (.int .i64 right)) [(0, true), (1, true), (2, true), (3, true), (4, true), (5, true), (6, true), (7, true), (8, true), (9, true)] (by kernel_rfl) (by kernel_rfl) (by kernel_rfl) (by decide) (fun _ _ _ _ _ h => h) (⟨c0, c1⟩) (fun hS0 => ?_)
  simp only [Ord.lay, List.getElem?_cons_zero, List.getElem?_cons_succ]
  (refine Ord.take (v := ?_) (Or.inl ⟨rfl, ?_⟩) ?_; rotate_left; (intro w hSw; (try dsimp only at hSw); go_simp; try (with_reducible rfl)); (try simp only [Act.put, List.setIfInBounds_toArray, List.set_cons_zero, List.set_cons_succ]))
  (refine Ord.take (v := ?_) (Or.inl ⟨rfl, ?_⟩) ?_; rotate_left; (intro w hSw; (try dsimp only at hSw); go_simp; try (with_reducible rfl)); (try simp only [Act.put, List.setIfInBounds_toArray, List.set_cons_zero, List.set_cons_succ]))
  (refine Ord.take (v := ?_) (Or.inl ⟨rfl, ?_⟩) ?_; rotate_left; (intro w hSw; (try dsimp only at hSw); go_simp; try (with_reducible rfl)); (try simp only [Act.put, List.setIfInBounds_toArray, List.set_cons_zero, List.set_cons_succ]))
  (refine Ord.take (v := ?_) (Or.inl ⟨rfl, ?_⟩) ?_; rotate_left; (intro w hSw; (try dsimp only at hSw); go_simp; try (with_reducible rfl)); (try simp only [Act.put, List.setIfInBounds_toArray, List.set_cons_zero, List.set_cons_succ]))
  (refine Ord.take (v := ?_) (Or.inl ⟨rfl, ?_⟩) ?_; rotate_left; (intro w hSw; (try dsimp only at hSw); go_simp; try (with_reducible rfl)); (try simp only [Act.put, List.setIfInBounds_toArray, List.set_cons_zero, List.set_cons_succ]))
  (refine Ord.take (v := ?_) (Or.inl ⟨rfl, ?_⟩) ?_; rotate_left; (intro w hSw; (try dsimp only at hSw); go_simp; try (with_reducible rfl)); (try simp only [Act.put, List.setIfInBounds_toArray, List.set_cons_zero, List.set_cons_succ]))
  (refine Ord.take (v := ?_) (Or.inl ⟨rfl, ?_⟩) ?_; rotate_left; (intro w hSw; (try dsimp only at hSw); go_simp; try (with_reducible rfl)); (try simp only [Act.put, List.setIfInBounds_toArray, List.set_cons_zero, List.set_cons_succ]))
  (refine Ord.take (v := ?_) (Or.inl ⟨rfl, ?_⟩) ?_; rotate_left; (intro w hSw; (try dsimp only at hSw); go_simp; try (with_reducible rfl)); (try simp only [Act.put, List.setIfInBounds_toArray, List.set_cons_zero, List.set_cons_succ]))
  (refine Ord.take (v := ?_) (Or.inl ⟨rfl, ?_⟩) ?_; rotate_left; (intro w hSw; (try dsimp only at hSw); go_simp; try (with_reducible rfl)); (try simp only [Act.put, List.setIfInBounds_toArray, List.set_cons_zero, List.set_cons_succ]))
  (refine Ord.take (v := ?_) (Or.inl ⟨rfl, ?_⟩) ?_; rotate_left; (intro w hSw; (try dsimp only at hSw); go_simp; try (with_reducible rfl)); (try simp only [Act.put, List.setIfInBounds_toArray, List.set_cons_zero, List.set_cons_succ]))
  refine Ord.done (NoPanic.normal ?_)
  clear hS0
  obtain ⟨wq, hwq⟩ : ∃ wq, w.drew = wq := ⟨_, rfl⟩
  have hD : Drawn w wq := ⟨1, hwq⟩
  rw [hwq]
  clear hwq c0 c1
  have c2 := HC.out wq hD
  go_wp2_with fail
  go_loopg [6, 7, 23] l.length (fun g' s6 s7 s23 wr => ∃ (k : Nat) (a b : Int), g' = l.length - k ∧ k ≤ l.length ∧ s23 = .int .i64 k ∧ s6 = .int .i64 a ∧ s7 = .int .i64 b ∧ Hid (band y (l.drop k) a b = R) ∧ Below w.heap.size w wr)
  case atStart => exact ⟨0, left, right, rfl, Nat.zero_le _, rfl, rfl, rfl, HR, hD.below _⟩
  case round =>
    obtain ⟨k, a, b, rfl, hk, rfl, rfl, rfl, HB, hB⟩ := hrel
    have hsz := hB.size
    by_cases hlt : k < l.length
    · obtain ⟨bb, off, f, rfl, hb, hf, -⟩ := (hA.below hB).at_ hlt
      obtain ⟨f0, f1, f2, f3, f4⟩ := floats_at (hA.below hB) hf.out
      have HB1 : Hid ((if f.stands y = false then band y (l.drop (k + 1)) a b else if f.right = true then band y (l.drop (k + 1)) a (min b f.x) else band y (l.drop (k + 1)) (max a f.fin) b) = R) := hid (by
        have := HB.out
        rw [drop_step hf.out, band] at this
        exact this)
      have hBx : Below w.heap.size w (wr.alloc (.cells f.arr 38)) := hB.alloc hsz _
      have hFx : Blk (wr.alloc (.cells f.arr 38)) wr.heap.size 38 f.arr := Blk.new _ _ _
      clear HB
      obtain ⟨r, x, fy, wd, h⟩ := f
      simp only [Fl.arr] at hBx hFx
      simp only at f0 f1 f2 f3 f4
      go_wp2_with fail
      refine (float_stands ⟨r, x, fy, wd, h⟩ y _).mono ?_
      rintro e w1 ⟨rfl, hb1⟩
      replace hFx := hFx.below hb1 hFx.lt
      replace hBx := hBx.trans (hb1.mono hBx.size)
      have e0 : w1.cell? ⟨wr.heap.size, 0, none⟩ = some (.bool r) := hFx.cell 0
      have e1 : w1.cell? ⟨wr.heap.size, 1, none⟩ = some (.int .i64 x) := hFx.cell 1
      have e2 : w1.cell? ⟨wr.heap.size, 2, none⟩ = some (.int .i64 fy) := hFx.cell 2
      have e3 : w1.cell? ⟨wr.heap.size, 3, none⟩ = some (.int .i64 wd) := hFx.cell 3
      have e4 : w1.cell? ⟨wr.heap.size, 4, none⟩ = some (.int .i64 h) := hFx.cell 4
      clear hb1 hFx f0 f1 f2 f3 f4
      obtain ⟨st, hst⟩ : ∃ st, Fl.stands ⟨r, x, fy, wd, h⟩ y = st := ⟨_, rfl⟩
      rw [hst] at HB1 ⊢
      clear hst
      cases st
      · have HB2 : Hid (band y (l.drop (k + 1)) a b = R) := hid (by simpa using HB1.out)
        go_wp2_with fail
        go_roundg (l.length - (k + 1))
        case rel => exact ⟨k + 1, a, b, rfl, by omega, by go_num, rfl, rfl, HB2, hBx⟩
        case measure => omega
      · cases r
        · have HB2 : Hid (band y (l.drop (k + 1)) (max a (Fl.fin ⟨false, x, fy, wd, h⟩)) b = R) := hid (by simpa using HB1.out)
          go_wp2_with fail
          refine (float_end ⟨false, x, fy, wd, h⟩ _).mono ?_
          rintro e w2 ⟨rfl, hb2⟩
          go_wp2_with fail
          go_roundg (l.length - (k + 1))
          case rel => exact ⟨k + 1, _, b, rfl, by omega, by go_num, rfl, rfl, HB2, hBx.trans (hb2.mono hBx.size)⟩
          case measure => omega
        · have HB2 : Hid (band y (l.drop (k + 1)) a (min b x) = R) := hid (by simpa using HB1.out)
          go_wp2_with fail
          go_roundg (l.length - (k + 1))
          case rel => exact ⟨k + 1, a, _, rfl, by omega, by go_num, rfl, rfl, HB2, hBx⟩
          case measure => omega
    · obtain rfl : k = l.length := by omega
      have HZ : Hid ((a, max a b) = R) := hid (by have := HB.out; rw [List.drop_of_length_le (Nat.le_refl _), band] at this; exact this)
      go_wp2_with fail
      go_ret2
      rw [← HZ.out]
      exact ⟨rfl, hB⟩
set_option maxRecDepth 100000 in
set_option maxHeartbeats 2000000 in
theorem room_Next (g base : Nat) (left right : Int) (l : List Fl) (v : Value) (y : Int) (w : World) (hl : l.length ≤ 1000) (hr : RoomAt w g base left right l v) :
    Calls Try.prog 30 #[.pointer (some ⟨g, 0, none⟩), .int .i64 y] w fun e w' =>
      e = .returned (.tuple #[.int .i64 (next y l 0 false).1, .bool (next y l 0 false).2]) ∧ Below w.heap.size w w' := by
  have c2 : w.cell? ⟨g, 2, none⟩ = some v := hr.blk.cell 2
  obtain ⟨A, c, rfl, hc⟩ := own_some hr.own
  have hA : Recs w w.heap.size A 5 Fl.cells l := Recs.of_own fl_length (by decide) hr.own
  obtain ⟨R, hR⟩ : ∃ R, next y l 0 false = R := ⟨_, rfl⟩
  have HR := hid hR
  rw [hR]
  clear hR
  go_enter Try.func30, Try.ntmps30
  go_wp2_with fail
  go_loopg [6, 7, 15] l.length (fun g' s6 s7 s15 wr => ∃ (k : Nat) (n : Int) (m : Bool), g' = l.length - k ∧ k ≤ l.length ∧ s15 = .int .i64 k ∧ s6 = .int .i64 n ∧ s7 = .bool m ∧ Hid (next y (l.drop k) n m = R) ∧ Below w.heap.size w wr)
  case atStart => exact ⟨0, 0, false, rfl, Nat.zero_le _, rfl, rfl, rfl, HR, Below.refl _ _⟩
  case round =>
    obtain ⟨k, n, m, rfl, hk, rfl, rfl, rfl, HB, hB⟩ := hrel
    have hsz := hB.size
    by_cases hlt : k < l.length
    · obtain ⟨bb, off, f, rfl, hb, hf, -⟩ := (hA.below hB).at_ hlt
      obtain ⟨f0, f1, f2, f3, f4⟩ := floats_at (hA.below hB) hf.out
      have HB1 : Hid ((if f.stands y = true ∧ (m = false ∨ f.bot < n) then next y (l.drop (k + 1)) f.bot true else next y (l.drop (k + 1)) n m) = R) := hid (by
        have := HB.out
        rw [drop_step hf.out, next] at this
        exact this)
      have hBx : Below w.heap.size w (wr.alloc (.cells f.arr 38)) := hB.alloc hsz _
      have hFx : Blk (wr.alloc (.cells f.arr 38)) wr.heap.size 38 f.arr := Blk.new _ _ _
      clear HB
      obtain ⟨r, x, fy, wd, h⟩ := f
      simp only [Fl.arr] at hBx hFx
      simp only at f0 f1 f2 f3 f4
      go_wp2_with fail
      refine (float_stands ⟨r, x, fy, wd, h⟩ y _).mono ?_
      rintro e w1 ⟨rfl, hb1⟩
      replace hFx := hFx.below hb1 hFx.lt
      replace hBx := hBx.trans (hb1.mono hBx.size)
      have HE : ∀ W, Blk W wr.heap.size 38 #[.bool r, .int .i64 x, .int .i64 fy, .int .i64 wd, .int .i64 h] → W.cell? ⟨wr.heap.size, 0, none⟩ = some (.bool r) ∧ W.cell? ⟨wr.heap.size, 1, none⟩ = some (.int .i64 x) ∧ W.cell? ⟨wr.heap.size, 2, none⟩ = some (.int .i64 fy) ∧ W.cell? ⟨wr.heap.size, 3, none⟩ = some (.int .i64 wd) ∧ W.cell? ⟨wr.heap.size, 4, none⟩ = some (.int .i64 h) := fun W h => ⟨h.cell 0, h.cell 1, h.cell 2, h.cell 3, h.cell 4⟩
      have HE2 := hid HE
      obtain ⟨e0, e1, e2, e3, e4⟩ := HE w1 hFx
      clear hb1 HE f0 f1 f2 f3 f4
      obtain ⟨bo, hbo⟩ : ∃ bo, Fl.bot ⟨r, x, fy, wd, h⟩ = bo := ⟨_, rfl⟩
      have HBO := hid hbo
      rw [hbo] at HB1
      clear hbo
      obtain ⟨st, hst⟩ : ∃ st, Fl.stands ⟨r, x, fy, wd, h⟩ y = st := ⟨_, rfl⟩
      rw [hst] at HB1 ⊢
      clear hst
      cases st
      · have HB2 : Hid (next y (l.drop (k + 1)) n m = R) := hid (by simpa using HB1.out)
        go_wp2_with fail
        go_roundg (l.length - (k + 1))
        case rel => exact ⟨k + 1, n, m, rfl, by omega, by go_num, rfl, rfl, HB2, hBx⟩
        case measure => omega
      · cases m
        · have HB2 : Hid (next y (l.drop (k + 1)) bo true = R) := hid (by simpa using HB1.out)
          go_wp2_with fail
          refine (float_bottom ⟨r, x, fy, wd, h⟩ _).mono ?_
          rintro e w2 ⟨rfl, hb2⟩
          rw [HBO.out]
          go_wp2_with fail
          go_roundg (l.length - (k + 1))
          case rel => exact ⟨k + 1, bo, true, rfl, by omega, by go_num, rfl, rfl, HB2, hBx.trans (hb2.mono hBx.size)⟩
          case measure => omega
        · go_wp2_with fail
          refine (float_bottom ⟨r, x, fy, wd, h⟩ _).mono ?_
          rintro e w2 ⟨rfl, hb2⟩
          rw [HBO.out]
          clear e0 e1 e2 e3 e4
          replace hFx := hFx.below hb2 hFx.lt
          replace hBx := hBx.trans (hb2.mono hBx.size)
          obtain ⟨e0, e1, e2, e3, e4⟩ := HE2.out w2 hFx
          clear hb2
          by_cases hlt3 : bo < n
          · have g3 : decide (bo < n) = true := by simpa using hlt3
            have HB2 : Hid (next y (l.drop (k + 1)) bo true = R) := hid (by simpa [hlt3] using HB1.out)
            go_wp2_with fail
            refine (float_bottom ⟨r, x, fy, wd, h⟩ _).mono ?_
            rintro e w3 ⟨rfl, hb3⟩
            rw [HBO.out]
            go_wp2_with fail
            go_roundg (l.length - (k + 1))
            case rel => exact ⟨k + 1, bo, true, rfl, by omega, by go_num, rfl, rfl, HB2, hBx.trans (hb3.mono hBx.size)⟩
            case measure => omega
          · have g3 : decide (bo < n) = false := by simpa using hlt3
            have HB2 : Hid (next y (l.drop (k + 1)) n true = R) := hid (by simpa [hlt3] using HB1.out)
            go_wp2_with fail
            go_roundg (l.length - (k + 1))
            case rel => exact ⟨k + 1, n, true, rfl, by omega, by go_num, rfl, rfl, HB2, hBx⟩
            case measure => omega
    · obtain rfl : k = l.length := by omega
      have HZ : Hid ((n, m) = R) := hid (by have := HB.out; rw [List.drop_of_length_le (Nat.le_refl _), next] at this; exact this)
      go_wp2_with fail
      go_ret2
      rw [← HZ.out]
      exact ⟨rfl, hB⟩
end Go.Proofs.Ytkoanijiihnioaa
