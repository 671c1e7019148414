/-
  The walk of the document's Room.Put.
-/
import Derived.Test.YtkoanijiihnioaaFloatS
namespace Go.Proofs.Ytkoanijiihnioaa
open Go.RowKit Num Mem
set_option linter.unusedVariables false
set_option linter.unusedSimpArgs false
/-- what a put changes: the room's box and its row. -/
structure RefKeep (w w' : World) (g base : Nat) : Prop where
  below : ∀ B, B ≤ g → B ≤ base → B ≤ w.heap.size → Below B w w'
  blk : ∀ {k : Nat} {t : TypeId} {cs : Array Value}, Blk w k t cs → k ≠ g → t ≠ 44 → Blk w' k t cs
  size : w.heap.size ≤ w'.heap.size
theorem RefKeep.of_below {w w' : World} {g base : Nat} (h : Below w.heap.size w w') : RefKeep w w' g base :=
  ⟨fun B _ _ hB => h.mono hB, fun hk _ _ => hk.below h hk.lt, h.size⟩
theorem RefKeep.end_ {w a b : World} {g base : Nat} (h : RefKeep w a g base) (k : Below w.heap.size a b) : RefKeep w b g base :=
  ⟨fun B h1 h2 h3 => (h.below B h1 h2 h3).trans (k.mono h3), fun hk h1 h2 => (h.blk hk h1 h2).below k hk.lt, Nat.le_trans h.size k.size⟩
theorem RefKeep.trans {w a b : World} {g base : Nat} (h : RefKeep w a g base) (k : RefKeep a b g base) : RefKeep w b g base :=
  ⟨fun B h1 h2 h3 => (h.below B h1 h2 h3).trans (k.below B h1 h2 (Nat.le_trans h3 h.size)), fun hk h1 h2 => k.blk (h.blk hk h1 h2) h1 h2, Nat.le_trans h.size k.size⟩
theorem RefKeep.grown {w w' : World} {g base size n : Nat} {v : Value} {xs : List Value} (ho : w.ownsRow base 44 size v n xs) (hg : w.grownBy w' v.ownBlock) (hb : base ≤ w.heap.size) : RefKeep w w' g base :=
  ⟨fun B _ h2 _ => (own_belowB ho hg hb).mono h2, fun hk _ h2 => hk.grown ho hg h2, hg.size⟩
theorem RefKeep.set {w : World} {g base i : Nat} {v : Value} : RefKeep w (w.setCell ⟨g, i, none⟩ v) g base :=
  ⟨fun B h1 _ _ => (Chg.setCell w ⟨g, i, none⟩ v).below h1, fun hk h1 _ => hk.far h1 _, by simp⟩
theorem from_none {l : List Fl} {y : Int} (hs : sat y = y) (h0 : l.length = 0) : from_ l y = y := by
  have : l = [] := List.length_eq_zero_iff.1 h0
  rw [this]
  exact hs
set_option maxRecDepth 100000 in
set_option maxHeartbeats 4000000 in
theorem ref17_Put (g base : Nat) (left width : Int) (l : List Fl) (v : Value) (side : Bool) (wd ht y : Int) (w : World) (hl : l.length ≤ 1000) (hsy : sat y = y) (hbase : base ≤ w.heap.size) (hr : RefAt w g base left width l v) :
    Calls Try.prog 22 #[.pointer (some ⟨g, 0, none⟩), .bool side, .int .i64 wd, .int .i64 ht, .int .i64 y] w fun e w' =>
      e = .returned (.agg (rect4 (place l left (add left width) side wd ht y).x (place l left (add left width) side wd ht y).y (place l left (add left width) side wd ht y).w (place l left (add left width) side wd ht y).h)) ∧
      (∃ v', RefAt w' g base left width (l ++ [place l left (add left width) side wd ht y]) v') ∧ RefKeep w w' g base := by
  have hRes : Blk (w.alloc (.cells (rect4 0 0 0 0) 27)) w.heap.size 27 (rect4 0 0 0 0) := Blk.new _ _ _
  have hB : Below w.heap.size w (w.alloc (.cells (rect4 0 0 0 0) 27)) := by go_grown
  obtain ⟨right, hrt⟩ : ∃ right, add left width = right := ⟨_, rfl⟩
  have hBand := ref17_Band g base left width l v
  rw [hrt] at hBand ⊢
  clear hrt
  have HBand := hid hBand
  clear hBand
  obtain ⟨w1, hw1⟩ : ∃ w1, max wd 0 = w1 := ⟨_, rfl⟩
  obtain ⟨h1, hh1⟩ : ∃ h1, max ht 0 = h1 := ⟨_, rfl⟩
  obtain ⟨Y, hY⟩ : ∃ Y, fall l left right w1 (later l (from_ l y)) (from_ l y) = Y := ⟨_, rfl⟩
  have HF : Hid (place l left right side wd ht y = ⟨side, if side = true then sub (band Y l left right).2 w1 else (band Y l left right).1, Y, w1, h1⟩) := hid (by rw [← hY, ← hh1, ← hw1]; rfl)
  obtain ⟨F, hF⟩ : ∃ F, place l left right side wd ht y = F := ⟨_, rfl⟩
  rw [hF] at HF ⊢
  clear hF
  have HW1 := hid hw1
  have HH1 := hid hh1
  clear hw1 hh1
  obtain ⟨i0, hi, hz0, hz1, hz2⟩ := info_parts info_rfl5
  go_enter Try.func22, Try.ntmps22
  go_upto_region 1 with fail
  refine wp_forget (fun Z => Blk Z w.heap.size 27 (rect4 0 0 0 0) ∧ Below w.heap.size w Z) ⟨hRes, hB⟩ ?_
  clear hRes hB
  rintro w0 ⟨hRes, hB⟩
  have hsz := hB.size
  have hlt0 := hRes.lt
  have hr0 := hr.below hB
  obtain ⟨A, c, rfl, hc⟩ := own_some hr.own
  have hA : Recs w0 w0.heap.size A 5 Fl.cells l := Recs.of_own fl_length (by decide) hr0.own
  go_upto_if 19 with fail
  go_cut [2] (fun s2 wx => s2 = .int .i64 w1 ∧ w0 = wx)
  case first =>
    by_cases hn : wd < 0
    · have g1 : decide (wd < 0) = true := by simpa using hn
      have HZ : Hid ((0 : Int) = w1) := hid (by have := HW1.out; omega)
      go_wp2_with fail
      go_meet
      exact ⟨by rw [← HZ.out], rfl⟩
    · have g1 : decide (wd < 0) = false := by simpa using hn
      have HZ : Hid (wd = w1) := hid (by have := HW1.out; omega)
      go_wp2_with fail
      go_meet
      exact ⟨by rw [HZ.out], rfl⟩
  case rest =>
  obtain ⟨rfl, rfl⟩ := hcut
  go_upto_if 21 with fail
  go_cut [3] (fun s3 wx => s3 = .int .i64 h1 ∧ w0 = wx)
  case first =>
    by_cases hn : ht < 0
    · have g1 : decide (ht < 0) = true := by simpa using hn
      have HZ : Hid ((0 : Int) = h1) := hid (by have := HH1.out; omega)
      go_wp2_with fail
      go_meet
      exact ⟨by rw [← HZ.out], rfl⟩
    · have g1 : decide (ht < 0) = false := by simpa using hn
      have HZ : Hid (ht = h1) := hid (by have := HH1.out; omega)
      go_wp2_with fail
      go_meet
      exact ⟨by rw [HZ.out], rfl⟩
  case rest =>
  obtain ⟨rfl, rfl⟩ := hcut
  clear HW1 HH1
  go_upto_region 6 with fail
  go_cut [46] (fun s46 wx => ∃ q, s46 = .bool q ∧ w0.drew = wx ∧ ((q = false ∧ Hid (from_ l y = y)) ∨ (q = true ∧ ∃ (k : Nat) (b off : Nat) (fy : Int), A = some ⟨b, off, none⟩ ∧ Hid (l.length = k + 1) ∧ Hid (w0.cell? ⟨b, off + k * 5 + 2, none⟩ = some (.int .i64 fy)) ∧ Hid (from_ l y = fy))))
  case first =>
    have z2 : w0.drew.cell? ⟨g, 2, none⟩ = some (.slice A l.length c) := hr0.blk.cell 2
    rcases Nat.eq_zero_or_pos l.length with h0 | h0
    · have gd : decide ((0 : Int) < (l.length : Int)) = false := decide_eq_false (by omega)
      have gd2 : decide (0 < l.length) = false := decide_eq_false (by omega)
      have H0 := hid (from_none hsy h0)
      clear h0
      refine wp_region_noPanic ?_
      refine Ord.region_Q (S := fun Z : World => Z.cell? ⟨g, 2, none⟩ = some (.slice A l.length c)) 999 (.one 0 true (.one 1 true (.one 2 true (.one 3 true (.one 4 true (.one 5 true (.one 6 true (.one 7 true (.one 8 true (.one 9 true (.one 10 true (.one 11 true (.one 12 true (.one 13 true (.one 14 true (.one 15 true (.one 16 true (.one 17 true (.one 18 true (.one 19 true (.one 20 true (.one 21 true (.one 22 true (.one 23 true .nil)))))))))))))))))))))))) (by kernel_rfl) (by kernel_rfl) (by kernel_rfl) (by decide) (fun _ _ _ _ _ h => h) (z2) (fun hS0 => ?_)
      simp only [Ord.layT, List.getElem?_cons_zero, List.getElem?_cons_succ]
      (refine Ord.takeQ (v := ?_) (Or.inl ⟨rfl, ?_⟩) ?_; rotate_left; (intro w hSw; (try dsimp only at hSw); go_simp; try (with_reducible rfl)); (try simp only [Act.put, List.setIfInBounds_toArray, List.set_cons_zero, List.set_cons_succ]))
      (refine Ord.takeQ (v := ?_) (Or.inl ⟨rfl, ?_⟩) ?_; rotate_left; (intro w hSw; (try dsimp only at hSw); go_simp; try (with_reducible rfl)); (try simp only [Act.put, List.setIfInBounds_toArray, List.set_cons_zero, List.set_cons_succ]))
      (refine Ord.takeQ (v := ?_) (Or.inl ⟨rfl, ?_⟩) ?_; rotate_left; (intro w hSw; (try dsimp only at hSw); go_simp; try (with_reducible rfl)); (try simp only [Act.put, List.setIfInBounds_toArray, List.set_cons_zero, List.set_cons_succ]))
      (refine Ord.takeQ (v := ?_) (Or.inl ⟨rfl, ?_⟩) ?_; rotate_left; (intro w hSw; (try dsimp only at hSw); go_simp; try (with_reducible rfl)); (try simp only [Act.put, List.setIfInBounds_toArray, List.set_cons_zero, List.set_cons_succ]))
      (refine Ord.takeQ (v := ?_) (Or.inl ⟨rfl, ?_⟩) ?_; rotate_left; (intro w hSw; (try dsimp only at hSw); go_simp; try (with_reducible rfl)); (try simp only [Act.put, List.setIfInBounds_toArray, List.set_cons_zero, List.set_cons_succ]))
      (refine Ord.takeQ (v := ?_) (Or.inl ⟨rfl, ?_⟩) ?_; rotate_left; (intro w hSw; (try dsimp only at hSw); go_simp; try (with_reducible rfl)); (try simp only [Act.put, List.setIfInBounds_toArray, List.set_cons_zero, List.set_cons_succ]))
      (refine Ord.takeQ (v := ?_) (Or.inl ⟨rfl, ?_⟩) ?_; rotate_left; (intro w hSw; (try dsimp only at hSw); go_simp; try (with_reducible rfl)); (try simp only [Act.put, List.setIfInBounds_toArray, List.set_cons_zero, List.set_cons_succ]))
      (refine Ord.takeQ (Or.inr ⟨rfl, rfl⟩) ?_; (try simp only [Act.put, List.setIfInBounds_toArray, List.set_cons_zero, List.set_cons_succ]))
      (refine Ord.takeQ (Or.inr ⟨rfl, rfl⟩) ?_; (try simp only [Act.put, List.setIfInBounds_toArray, List.set_cons_zero, List.set_cons_succ]))
      (refine Ord.takeQ (Or.inr ⟨rfl, rfl⟩) ?_; (try simp only [Act.put, List.setIfInBounds_toArray, List.set_cons_zero, List.set_cons_succ]))
      (refine Ord.takeQ (Or.inr ⟨rfl, rfl⟩) ?_; (try simp only [Act.put, List.setIfInBounds_toArray, List.set_cons_zero, List.set_cons_succ]))
      (refine Ord.takeQ (Or.inr ⟨rfl, rfl⟩) ?_; (try simp only [Act.put, List.setIfInBounds_toArray, List.set_cons_zero, List.set_cons_succ]))
      (refine Ord.takeQ (Or.inr ⟨rfl, rfl⟩) ?_; (try simp only [Act.put, List.setIfInBounds_toArray, List.set_cons_zero, List.set_cons_succ]))
      (refine Ord.takeQ (Or.inr ⟨rfl, rfl⟩) ?_; (try simp only [Act.put, List.setIfInBounds_toArray, List.set_cons_zero, List.set_cons_succ]))
      (refine Ord.takeQ (Or.inr ⟨rfl, rfl⟩) ?_; (try simp only [Act.put, List.setIfInBounds_toArray, List.set_cons_zero, List.set_cons_succ]))
      (refine Ord.takeQ (Or.inr ⟨rfl, rfl⟩) ?_; (try simp only [Act.put, List.setIfInBounds_toArray, List.set_cons_zero, List.set_cons_succ]))
      (refine Ord.takeQ (Or.inr ⟨rfl, rfl⟩) ?_; (try simp only [Act.put, List.setIfInBounds_toArray, List.set_cons_zero, List.set_cons_succ]))
      (refine Ord.takeQ (Or.inr ⟨rfl, rfl⟩) ?_; (try simp only [Act.put, List.setIfInBounds_toArray, List.set_cons_zero, List.set_cons_succ]))
      (refine Ord.takeQ (Or.inr ⟨rfl, rfl⟩) ?_; (try simp only [Act.put, List.setIfInBounds_toArray, List.set_cons_zero, List.set_cons_succ]))
      (refine Ord.takeQ (Or.inr ⟨rfl, rfl⟩) ?_; (try simp only [Act.put, List.setIfInBounds_toArray, List.set_cons_zero, List.set_cons_succ]))
      (refine Ord.takeQ (Or.inr ⟨rfl, rfl⟩) ?_; (try simp only [Act.put, List.setIfInBounds_toArray, List.set_cons_zero, List.set_cons_succ]))
      (refine Ord.takeQ (Or.inr ⟨rfl, rfl⟩) ?_; (try simp only [Act.put, List.setIfInBounds_toArray, List.set_cons_zero, List.set_cons_succ]))
      (refine Ord.takeQ (Or.inr ⟨rfl, rfl⟩) ?_; (try simp only [Act.put, List.setIfInBounds_toArray, List.set_cons_zero, List.set_cons_succ]))
      (refine Ord.takeQ (v := ?_) (Or.inl ⟨rfl, ?_⟩) ?_; rotate_left; (intro w hSw; (try dsimp only at hSw); go_simp; try (with_reducible rfl)); (try simp only [Act.put, List.setIfInBounds_toArray, List.set_cons_zero, List.set_cons_succ]))
      refine Ord.doneQ (NoPanic.normal ?_)
      clear hS0
      go_wp2_with fail
      go_meet
      exact ⟨false, rfl, rfl, .inl ⟨rfl, H0⟩⟩
    · obtain ⟨k, hk⟩ : ∃ k, l.length = k + 1 := ⟨l.length - 1, by omega⟩
      obtain ⟨b, off, f, rfl, hb, hf, -⟩ := hA.at_ (k := k) (by omega)
      obtain ⟨f0, f1, f2, f3, f4⟩ := floats_at hA hf.out
      have HZ : Hid (from_ l y = max y f.y) := hid (by rw [from_last hk hf.out y, hsy])
      have gd : decide ((0 : Int) < (l.length : Int)) = true := by simp; omega
      have e1 : (l.length : Int) - 1 = (k : Int) := by omega
      have e3 : IntKind.i64.wrap ((l.length : Int) - 1) = (k : Int) := by rw [e1]; exact IntWalk.i64_in _ (by omega)
      have e2 : decide ((k : Int) < (l.length : Int)) = true := decide_eq_true (by omega)
      have e4 : IntKind.i64.wrap (k : Int) = (k : Int) := IntWalk.i64_in _ (by omega)
      have e5 : ¬ (k : Int) < 0 := by omega
      have e6 : k < l.length := by omega
      have e7 : decide (k < l.length) = true := decide_eq_true e6
      have z3 : w0.drew.cell? ⟨b, off + k * 5 + 2, none⟩ = some (.int .i64 f.y) := f2
      have HK := hid hk
      have H2 := hid f2
      clear f0 f1 f2 f3 f4 hk
      generalize f.y = fy at *
      obtain ⟨q, hq⟩ : ∃ q, decide (y < fy) = q := ⟨_, rfl⟩
      refine wp_region_noPanic ?_
      refine Ord.region_Q (S := fun Z : World => Z.cell? ⟨g, 2, none⟩ = some (.slice (some ⟨b, off, none⟩) l.length c) ∧ Z.cell? ⟨b, off + k * 5 + 2, none⟩ = some (.int .i64 fy)) 999 (.one 0 true (.one 1 true (.one 2 true (.one 3 true (.one 4 true (.one 5 true (.one 6 true (.one 7 true (.one 8 true (.one 9 true (.one 10 true (.one 11 true (.one 12 true (.one 13 true (.one 14 true (.one 15 true (.one 16 true (.one 17 true (.one 18 true (.one 19 true (.one 20 true (.one 21 true (.one 22 true (.one 23 true .nil)))))))))))))))))))))))) (by kernel_rfl) (by kernel_rfl) (by kernel_rfl) (by decide) (fun _ _ _ _ _ h => h) (⟨z2, z3⟩) (fun hS0 => ?_)
      simp only [Ord.layT, List.getElem?_cons_zero, List.getElem?_cons_succ]
      (refine Ord.takeQ (v := ?_) (Or.inl ⟨rfl, ?_⟩) ?_; rotate_left; (intro w hSw; (try dsimp only at hSw); go_simp; try (with_reducible rfl)); (try simp only [Act.put, List.setIfInBounds_toArray, List.set_cons_zero, List.set_cons_succ]))
      (refine Ord.takeQ (v := ?_) (Or.inl ⟨rfl, ?_⟩) ?_; rotate_left; (intro w hSw; (try dsimp only at hSw); go_simp; try (with_reducible rfl)); (try simp only [Act.put, List.setIfInBounds_toArray, List.set_cons_zero, List.set_cons_succ]))
      (refine Ord.takeQ (v := ?_) (Or.inl ⟨rfl, ?_⟩) ?_; rotate_left; (intro w hSw; (try dsimp only at hSw); go_simp; try (with_reducible rfl)); (try simp only [Act.put, List.setIfInBounds_toArray, List.set_cons_zero, List.set_cons_succ]))
      (refine Ord.takeQ (v := ?_) (Or.inl ⟨rfl, ?_⟩) ?_; rotate_left; (intro w hSw; (try dsimp only at hSw); go_simp; try (with_reducible rfl)); (try simp only [Act.put, List.setIfInBounds_toArray, List.set_cons_zero, List.set_cons_succ]))
      (refine Ord.takeQ (v := ?_) (Or.inl ⟨rfl, ?_⟩) ?_; rotate_left; (intro w hSw; (try dsimp only at hSw); go_simp; try (with_reducible rfl)); (try simp only [Act.put, List.setIfInBounds_toArray, List.set_cons_zero, List.set_cons_succ]))
      (refine Ord.takeQ (v := ?_) (Or.inl ⟨rfl, ?_⟩) ?_; rotate_left; (intro w hSw; (try dsimp only at hSw); go_simp; try (with_reducible rfl)); (try simp only [Act.put, List.setIfInBounds_toArray, List.set_cons_zero, List.set_cons_succ]))
      (refine Ord.takeQ (v := ?_) (Or.inl ⟨rfl, ?_⟩) ?_; rotate_left; (intro w hSw; (try dsimp only at hSw); go_simp; try (with_reducible rfl)); (try simp only [Act.put, List.setIfInBounds_toArray, List.set_cons_zero, List.set_cons_succ]))
      (refine Ord.takeQ (v := ?_) (Or.inl ⟨rfl, ?_⟩) ?_; rotate_left; (intro w hSw; (try dsimp only at hSw); go_simp; try (with_reducible rfl)); (try simp only [Act.put, List.setIfInBounds_toArray, List.set_cons_zero, List.set_cons_succ]))
      (refine Ord.takeQ (v := ?_) (Or.inl ⟨rfl, ?_⟩) ?_; rotate_left; (intro w hSw; (try dsimp only at hSw); go_simp; try (with_reducible rfl)); (try simp only [Act.put, List.setIfInBounds_toArray, List.set_cons_zero, List.set_cons_succ]))
      (refine Ord.takeQ (v := ?_) (Or.inl ⟨rfl, ?_⟩) ?_; rotate_left; (intro w hSw; (try dsimp only at hSw); go_simp; try (with_reducible rfl)); (try simp only [Act.put, List.setIfInBounds_toArray, List.set_cons_zero, List.set_cons_succ]))
      (refine Ord.takeQ (v := ?_) (Or.inl ⟨rfl, ?_⟩) ?_; rotate_left; (intro w hSw; (try dsimp only at hSw); go_simp; try (with_reducible rfl)); (try simp only [Act.put, List.setIfInBounds_toArray, List.set_cons_zero, List.set_cons_succ]))
      (refine Ord.takeQ (v := ?_) (Or.inl ⟨rfl, ?_⟩) ?_; rotate_left; (intro w hSw; (try dsimp only at hSw); go_simp; try (with_reducible rfl)); (try simp only [Act.put, List.setIfInBounds_toArray, List.set_cons_zero, List.set_cons_succ]))
      (refine Ord.takeQ (v := ?_) (Or.inl ⟨rfl, ?_⟩) ?_; rotate_left; (intro w hSw; (try dsimp only at hSw); go_simp; try (with_reducible rfl)); (try simp only [Act.put, List.setIfInBounds_toArray, List.set_cons_zero, List.set_cons_succ]))
      (refine Ord.takeQ (v := ?_) (Or.inl ⟨rfl, ?_⟩) ?_; rotate_left; (intro w hSw; (try dsimp only at hSw); go_simp; try (with_reducible rfl)); (try simp only [Act.put, List.setIfInBounds_toArray, List.set_cons_zero, List.set_cons_succ]))
      (refine Ord.takeQ (v := ?_) (Or.inl ⟨rfl, ?_⟩) ?_; rotate_left; (intro w hSw; (try dsimp only at hSw); go_simp; try (with_reducible rfl)); (try simp only [Act.put, List.setIfInBounds_toArray, List.set_cons_zero, List.set_cons_succ]))
      (refine Ord.takeQ (v := ?_) (Or.inl ⟨rfl, ?_⟩) ?_; rotate_left; (intro w hSw; (try dsimp only at hSw); go_simp; try (with_reducible rfl)); (try simp only [Act.put, List.setIfInBounds_toArray, List.set_cons_zero, List.set_cons_succ]))
      (refine Ord.takeQ (v := ?_) (Or.inl ⟨rfl, ?_⟩) ?_; rotate_left; (intro w hSw; (try dsimp only at hSw); go_simp; try (with_reducible rfl)); (try simp only [Act.put, List.setIfInBounds_toArray, List.set_cons_zero, List.set_cons_succ]))
      (refine Ord.takeQ (v := ?_) (Or.inl ⟨rfl, ?_⟩) ?_; rotate_left; (intro w hSw; (try dsimp only at hSw); go_simp; try (with_reducible rfl)); (try simp only [Act.put, List.setIfInBounds_toArray, List.set_cons_zero, List.set_cons_succ]))
      (refine Ord.takeQ (v := ?_) (Or.inl ⟨rfl, ?_⟩) ?_; rotate_left; (intro w hSw; (try dsimp only at hSw); go_simp; try (with_reducible rfl)); (try simp only [Act.put, List.setIfInBounds_toArray, List.set_cons_zero, List.set_cons_succ]))
      (refine Ord.takeQ (v := ?_) (Or.inl ⟨rfl, ?_⟩) ?_; rotate_left; (intro w hSw; (try dsimp only at hSw); go_simp; try (with_reducible rfl)); (try simp only [Act.put, List.setIfInBounds_toArray, List.set_cons_zero, List.set_cons_succ]))
      (refine Ord.takeQ (v := ?_) (Or.inl ⟨rfl, ?_⟩) ?_; rotate_left; (intro w hSw; (try dsimp only at hSw); go_simp; try (with_reducible rfl)); (try simp only [Act.put, List.setIfInBounds_toArray, List.set_cons_zero, List.set_cons_succ]))
      (refine Ord.takeQ (v := ?_) (Or.inl ⟨rfl, ?_⟩) ?_; rotate_left; (intro w hSw; (try dsimp only at hSw); go_simp; try (with_reducible rfl)); (try simp only [Act.put, List.setIfInBounds_toArray, List.set_cons_zero, List.set_cons_succ]))
      (refine Ord.takeQ (v := ?_) (Or.inl ⟨rfl, ?_⟩) ?_; rotate_left; (intro w hSw; (try dsimp only at hSw); go_simp; try (with_reducible rfl)); (try simp only [Act.put, List.setIfInBounds_toArray, List.set_cons_zero, List.set_cons_succ]))
      (refine Ord.takeQ (v := ?_) (Or.inl ⟨rfl, ?_⟩) ?_; rotate_left; (intro w hSw; (try dsimp only at hSw); go_simp; try (with_reducible rfl)); (try simp only [Act.put, List.setIfInBounds_toArray, List.set_cons_zero, List.set_cons_succ]))
      refine Ord.doneQ (NoPanic.normal ?_)
      clear hS0
      go_wp2_with fail
      go_meet
      cases q
      · exact ⟨false, rfl, rfl, .inl ⟨rfl, hid (by have := HZ.out; simp at hq; omega)⟩⟩
      · exact ⟨true, rfl, rfl, .inr ⟨rfl, k, b, off, fy, rfl, HK, H2, hid (by have := HZ.out; simp at hq; omega)⟩⟩
  case rest =>
  obtain ⟨q, rfl, rfl, hq⟩ := hcut
  replace hq := hid hq
  have hBd := hB.drew
  have hRd : Blk w0.drew w.heap.size 27 (rect4 0 0 0 0) := hRes.drew
  have hrd := hr.below hBd
  go_upto_if 46 with fail
  go_cut [11] (fun s11 wx => s11 = .int .i64 (from_ l y) ∧ Below w.heap.size w wx ∧ Blk wx w.heap.size 27 (rect4 0 0 0 0))
  case first =>
    rcases hq.out with ⟨rfl, HZ⟩ | ⟨rfl, k, b, off, fy, rfl, HK, H2, HZ⟩
    · go_wp2_with fail
      go_meet
      exact ⟨by rw [HZ.out], hBd, hRd⟩
    · have hk := HK.out
      have e1 : (l.length : Int) - 1 = (k : Int) := by omega
      have e3 : IntKind.i64.wrap ((l.length : Int) - 1) = (k : Int) := by rw [e1]; exact IntWalk.i64_in _ (by omega)
      have e2 : decide ((k : Int) < (l.length : Int)) = true := decide_eq_true (by omega)
      have e4 : IntKind.i64.wrap (k : Int) = (k : Int) := IntWalk.i64_in _ (by omega)
      have e5 : ¬ (k : Int) < 0 := by omega
      have e6 : k < l.length := by omega
      have e7 : decide (k < l.length) = true := decide_eq_true e6
      have z2 : w0.drew.drew.cell? ⟨g, 2, none⟩ = some (.slice (some ⟨b, off, none⟩) l.length c) := hr0.blk.cell 2
      have z3 : w0.drew.drew.cell? ⟨b, off + k * 5 + 2, none⟩ = some (.int .i64 fy) := H2.out
      clear hk
      go_upto_region 7 with fail
      refine wp_region_noPanic ?_
      refine Ord.region_Q (S := fun Z : World => Z.cell? ⟨g, 2, none⟩ = some (.slice (some ⟨b, off, none⟩) l.length c) ∧ Z.cell? ⟨b, off + k * 5 + 2, none⟩ = some (.int .i64 fy)) 999 (.one 0 true (.one 1 true (.one 2 true (.one 3 true (.one 4 true (.one 5 true (.one 6 true (.one 7 true (.one 8 true (.one 9 true (.one 10 true (.one 11 true (.one 12 true (.one 13 true (.one 14 true .nil))))))))))))))) (by kernel_rfl) (by kernel_rfl) (by kernel_rfl) (by decide) (fun _ _ _ _ _ h => h) (⟨z2, z3⟩) (fun hS0 => ?_)
      simp only [Ord.layT, List.getElem?_cons_zero, List.getElem?_cons_succ]
      (refine Ord.takeQ (v := ?_) (Or.inl ⟨rfl, ?_⟩) ?_; rotate_left; (intro w hSw; (try dsimp only at hSw); go_simp; try (with_reducible rfl)); (try simp only [Act.put, List.setIfInBounds_toArray, List.set_cons_zero, List.set_cons_succ]))
      (refine Ord.takeQ (v := ?_) (Or.inl ⟨rfl, ?_⟩) ?_; rotate_left; (intro w hSw; (try dsimp only at hSw); go_simp; try (with_reducible rfl)); (try simp only [Act.put, List.setIfInBounds_toArray, List.set_cons_zero, List.set_cons_succ]))
      (refine Ord.takeQ (v := ?_) (Or.inl ⟨rfl, ?_⟩) ?_; rotate_left; (intro w hSw; (try dsimp only at hSw); go_simp; try (with_reducible rfl)); (try simp only [Act.put, List.setIfInBounds_toArray, List.set_cons_zero, List.set_cons_succ]))
      (refine Ord.takeQ (v := ?_) (Or.inl ⟨rfl, ?_⟩) ?_; rotate_left; (intro w hSw; (try dsimp only at hSw); go_simp; try (with_reducible rfl)); (try simp only [Act.put, List.setIfInBounds_toArray, List.set_cons_zero, List.set_cons_succ]))
      (refine Ord.takeQ (v := ?_) (Or.inl ⟨rfl, ?_⟩) ?_; rotate_left; (intro w hSw; (try dsimp only at hSw); go_simp; try (with_reducible rfl)); (try simp only [Act.put, List.setIfInBounds_toArray, List.set_cons_zero, List.set_cons_succ]))
      (refine Ord.takeQ (v := ?_) (Or.inl ⟨rfl, ?_⟩) ?_; rotate_left; (intro w hSw; (try dsimp only at hSw); go_simp; try (with_reducible rfl)); (try simp only [Act.put, List.setIfInBounds_toArray, List.set_cons_zero, List.set_cons_succ]))
      (refine Ord.takeQ (v := ?_) (Or.inl ⟨rfl, ?_⟩) ?_; rotate_left; (intro w hSw; (try dsimp only at hSw); go_simp; try (with_reducible rfl)); (try simp only [Act.put, List.setIfInBounds_toArray, List.set_cons_zero, List.set_cons_succ]))
      (refine Ord.takeQ (v := ?_) (Or.inl ⟨rfl, ?_⟩) ?_; rotate_left; (intro w hSw; (try dsimp only at hSw); go_simp; try (with_reducible rfl)); (try simp only [Act.put, List.setIfInBounds_toArray, List.set_cons_zero, List.set_cons_succ]))
      (refine Ord.takeQ (v := ?_) (Or.inl ⟨rfl, ?_⟩) ?_; rotate_left; (intro w hSw; (try dsimp only at hSw); go_simp; try (with_reducible rfl)); (try simp only [Act.put, List.setIfInBounds_toArray, List.set_cons_zero, List.set_cons_succ]))
      (refine Ord.takeQ (v := ?_) (Or.inl ⟨rfl, ?_⟩) ?_; rotate_left; (intro w hSw; (try dsimp only at hSw); go_simp; try (with_reducible rfl)); (try simp only [Act.put, List.setIfInBounds_toArray, List.set_cons_zero, List.set_cons_succ]))
      (refine Ord.takeQ (v := ?_) (Or.inl ⟨rfl, ?_⟩) ?_; rotate_left; (intro w hSw; (try dsimp only at hSw); go_simp; try (with_reducible rfl)); (try simp only [Act.put, List.setIfInBounds_toArray, List.set_cons_zero, List.set_cons_succ]))
      (refine Ord.takeQ (v := ?_) (Or.inl ⟨rfl, ?_⟩) ?_; rotate_left; (intro w hSw; (try dsimp only at hSw); go_simp; try (with_reducible rfl)); (try simp only [Act.put, List.setIfInBounds_toArray, List.set_cons_zero, List.set_cons_succ]))
      (refine Ord.takeQ (v := ?_) (Or.inl ⟨rfl, ?_⟩) ?_; rotate_left; (intro w hSw; (try dsimp only at hSw); go_simp; try (with_reducible rfl)); (try simp only [Act.put, List.setIfInBounds_toArray, List.set_cons_zero, List.set_cons_succ]))
      (refine Ord.takeQ (v := ?_) (Or.inl ⟨rfl, ?_⟩) ?_; rotate_left; (intro w hSw; (try dsimp only at hSw); go_simp; try (with_reducible rfl)); (try simp only [Act.put, List.setIfInBounds_toArray, List.set_cons_zero, List.set_cons_succ]))
      (refine Ord.takeQ (v := ?_) (Or.inl ⟨rfl, ?_⟩) ?_; rotate_left; (intro w hSw; (try dsimp only at hSw); go_simp; try (with_reducible rfl)); (try simp only [Act.put, List.setIfInBounds_toArray, List.set_cons_zero, List.set_cons_succ]))
      refine Ord.doneQ (NoPanic.normal ?_)
      clear hS0
      go_wp2_with fail
      go_meet
      exact ⟨by rw [HZ.out], hBd.drew, hRd.drew⟩
  case rest =>
  obtain ⟨rfl, hB, hRes⟩ := hcut
  clear hA hq hBd hRd hrd hr0 hsz hlt0
  have HY := hid hY
  clear hY
  generalize from_ l y = y0 at *
  generalize w0.drew = w0d at *
  go_wp2_with fail
  go_loopg [11] (later l y0) (fun g' s11 wr => ∃ n : Int, g' = later l n ∧ s11 = .int .i64 n ∧ Hid (fall l left right w1 (later l n) n = Y) ∧ Blk wr w.heap.size 27 (rect4 0 0 0 0) ∧ Below w.heap.size w wr)
  case atStart => exact ⟨y0, rfl, rfl, HY, hRes, hB⟩
  case round =>
    clear hRes hB HY
    obtain ⟨n, rfl, rfl, HY, hRes, hB⟩ := hrel
    have hr1 := hr.below hB
    have hbd := HBand.out n _ hl hr1
    go_wp2_with fail
    refine hbd.mono ?_
    clear hbd
    rintro e w2 ⟨rfl, hb2⟩
    replace hRes := hRes.below hb2 hRes.lt
    replace hB := hB.trans (hb2.mono hB.size)
    clear hb2 hr1
    have hr1 := hr.below hB
    go_wp2_with fail
    refine (ref17_Next g base left width l _ n _ hl hr1).mono ?_
    rintro e w3 ⟨rfl, hb3⟩
    replace hRes := hRes.below hb3 hRes.lt
    replace hB := hB.trans (hb3.mono hB.size)
    clear hb3 hr1
    have hr1 := hr.below hB
    have HY1 : Hid ((if sub (band n l left right).2 (band n l left right).1 < w1 ∧ (next n l 0 false).2 = true then fall l left right w1 (later l (next n l 0 false).1) (next n l 0 false).1 else n) = Y) := hid (by rw [← HY.out]; exact fall_step.symm)
    have HL : Hid ((next n l 0 false).2 = true → later l (next n l 0 false).1 < later l n) := hid (fun h => (later_next h).2)
    obtain ⟨P, hP⟩ : ∃ P, band n l left right = P := ⟨_, rfl⟩
    obtain ⟨N, hN⟩ : ∃ N, next n l 0 false = N := ⟨_, rfl⟩
    have HP := hid hP
    rw [hP] at HY1 ⊢
    rw [hN] at HY1 HL ⊢
    clear HY hP hN
    obtain ⟨a, b⟩ := P
    obtain ⟨nx, mt⟩ := N
    simp only at HY1 HL ⊢
    obtain ⟨qd, hqd⟩ : ∃ qd, (decide (sub b a < w1) && mt) = qd := ⟨_, rfl⟩
    have HQ := hid hqd
    clear hqd
    go_upto_region 10 with fail
    go_cut [80] (fun s80 wx => s80 = .bool qd ∧ w3 = wx)
    case first =>
      cases mt
      · have HZ : Hid (qd = false) := hid (by rw [← HQ.out]; simp)
        go_wp2_with fail
        go_meet
        exact ⟨by rw [HZ.out], rfl⟩
      · have HZ : Hid (decide (sub b a < w1) = qd) := hid (by rw [← HQ.out]; simp)
        go_wp2_with (go_at_call 53; refine (ref_Sub _ _ _).mono ?_; rintro e w' ⟨rfl, rfl⟩)
        go_meet
        exact ⟨by rw [HZ.out], rfl⟩
    case rest =>
    obtain ⟨rfl, rfl⟩ := hcut
    cases qd
    · have HY2 : n = Y := by
        have h1 := HY1.out
        rw [if_neg] at h1
        · exact h1
        · have := HQ.out
          intro hx
          rw [hx.2] at this
          simp at this
          omega
      subst HY2
      have HF2 : Hid (F = ⟨side, if side = true then sub b w1 else a, n, w1, h1⟩) := hid (by rw [HF.out, HP.out])
      clear HY1 HL HP HF HQ
      obtain ⟨X, hXX⟩ : ∃ X, (if side = true then sub b w1 else a) = X := ⟨_, rfl⟩
      rw [hXX] at HF2
      have HX := hid hXX
      clear hXX
      go_upto_if 83 with fail
      go_cut [16] (fun s16 wx => s16 = .int .i64 X ∧ w3 = wx)
      case first =>
        cases side
        · have HZ : Hid (a = X) := hid (by rw [← HX.out]; rfl)
          go_wp2_with fail
          go_meet
          exact ⟨by rw [HZ.out], rfl⟩
        · have HZ : Hid (sub b w1 = X) := hid (by rw [← HX.out]; rfl)
          go_wp2_with (go_at_call 53; refine (ref_Sub _ _ _).mono ?_; rintro e w' ⟨rfl, rfl⟩)
          go_meet
          exact ⟨by rw [HZ.out], rfl⟩
      case rest =>
      obtain ⟨rfl, rfl⟩ := hcut
      have hX : Blk (w3.alloc (.cells (rect4 X n w1 h1) 27)) w3.heap.size 27 (rect4 X n w1 h1) := Blk.new _ _ _
      have hR2 := hRes.alloc (.cells (rect4 X n w1 h1) 27)
      have hB2 : Below w.heap.size w (w3.alloc (.cells (rect4 X n w1 h1) 27)) := hB.alloc hB.size _
      have hgx : w.heap.size < w3.heap.size := hRes.lt
      go_upto_region 16 with fail
      refine wp_forget (fun Z => Blk Z w3.heap.size 27 (rect4 X n w1 h1) ∧ Blk Z w.heap.size 27 (rect4 0 0 0 0) ∧ Below w.heap.size w Z) ⟨hX, hR2, hB2⟩ ?_
      clear hX hR2 hB2 hRes hB hr1
      rintro wc ⟨hX, hR2, hB2⟩
      generalize w3.heap.size = gx at *
      have ho := (hr.below hB2).own
      have hG := (hr.below hB2).blk
      have hK0 : RefKeep w wc g base := RefKeep.of_below hB2
      have hsz4 := hB2.size
      have hgl : g < w.heap.size := hr.blk.lt
      have hS : ∀ Z, (Blk Z gx 27 (rect4 X n w1 h1) ∧ Blk Z w.heap.size 27 (rect4 0 0 0 0) ∧ Blk Z g 43 #[.int .i64 left, .int .i64 width, .slice A l.length c] ∧ RefKeep w Z g base) → (fun Z => (Blk Z gx 27 (rect4 X n w1 h1) ∧ Blk Z w.heap.size 27 (rect4 0 0 0 0) ∧ Blk Z g 43 #[.int .i64 left, .int .i64 width, .slice A l.length c] ∧ RefKeep w Z g base) ∧ Z.cell? ⟨g, 2, none⟩ = some (.slice A l.length c) ∧ Z.rangeAt gx 0 (rect4 X n w1 h1).toList) Z := fun Z h => ⟨h, h.2.2.1.cell 2, h.1.range⟩
      refine wp_region_noPanic ?_
      refine Ord.region_N (S := fun Z => (Blk Z gx 27 (rect4 X n w1 h1) ∧ Blk Z w.heap.size 27 (rect4 0 0 0 0) ∧ Blk Z g 43 #[.int .i64 left, .int .i64 width, .slice A l.length c] ∧ RefKeep w Z g base) ∧ Z.cell? ⟨g, 2, none⟩ = some (.slice A l.length c) ∧ Z.rangeAt gx 0 (rect4 X n w1 h1).toList) 12 (.one 0 true (.one 1 true (.one 2 true (.one 3 true (.one 4 true (.one 5 true (.one 6 true (.one 7 true (.one 8 false (.one 9 false (.one 10 true (.one 11 true (.one 12 false .nil))))))))))))) (by kernel_rfl) (by kernel_rfl) (by kernel_rfl) (by decide) (fun _ _ _ _ _ h => h) (hS _ ⟨hX.drew, hR2.drew, hG.drew, hK0.trans (RefKeep.of_below ((Drawn.refl _).drew.below _))⟩) (fun hS0 => ?_)
      simp only [Ord.layT, List.getElem?_cons_zero, List.getElem?_cons_succ]
      (refine Ord.takeM (v := ?_) (Or.inl ⟨rfl, ?_⟩) ?_; rotate_left; (intro w hSw; (try dsimp only at hSw); go_simp; try (with_reducible rfl)); (try simp only [Act.put, List.setIfInBounds_toArray, List.set_cons_zero, List.set_cons_succ]))
      (refine Ord.takeM (v := ?_) (Or.inl ⟨rfl, ?_⟩) ?_; rotate_left; (intro w hSw; (try dsimp only at hSw); go_simp; try (with_reducible rfl)); (try simp only [Act.put, List.setIfInBounds_toArray, List.set_cons_zero, List.set_cons_succ]))
      (refine Ord.takeM (v := ?_) (Or.inl ⟨rfl, ?_⟩) ?_; rotate_left; (intro w hSw; (try dsimp only at hSw); go_simp; try (with_reducible rfl)); (try simp only [Act.put, List.setIfInBounds_toArray, List.set_cons_zero, List.set_cons_succ]))
      (refine Ord.takeM (v := ?_) (Or.inl ⟨rfl, ?_⟩) ?_; rotate_left; (intro w hSw; (try dsimp only at hSw); go_simp; try (with_reducible rfl)); (try simp only [Act.put, List.setIfInBounds_toArray, List.set_cons_zero, List.set_cons_succ]))
      (refine Ord.takeM (v := ?_) (Or.inl ⟨rfl, ?_⟩) ?_; rotate_left; (intro w hSw; (try dsimp only at hSw); go_simp; try (with_reducible rfl)); (try simp only [Act.put, List.setIfInBounds_toArray, List.set_cons_zero, List.set_cons_succ]))
      (refine Ord.takeM (v := ?_) (Or.inl ⟨rfl, ?_⟩) ?_; rotate_left; (intro w hSw; (try dsimp only at hSw); go_simp; try (with_reducible rfl)); (try simp only [Act.put, List.setIfInBounds_toArray, List.set_cons_zero, List.set_cons_succ]))
      (refine Ord.takeM (yieldsIf_load_mid rfl _ _ rfl gx 0 rfl _ _ (fun w' h => h.2.2) Try.underlying27 rfl (info_rect_list _ _ _ _)) ?_; (try simp only [Act.put, List.setIfInBounds_toArray, List.set_cons_zero, List.set_cons_succ]))
      (refine Ord.takeM (v := .agg #[.bool side, .int .i64 X, .int .i64 n, .int .i64 w1, .int .i64 h1]) (Or.inl ⟨rfl, fun w _ => by kernel_rfl⟩) ?_; (try simp only [Act.put, List.setIfInBounds_toArray, List.set_cons_zero, List.set_cons_succ]))
      refine Ord.aloneM rfl rfl (fun K hK => ?_)
      go_simp
      have hS1 := hS (wc.alloc (.cells #[.bool side, .int .i64 X, .int .i64 n, .int .i64 w1, .int .i64 h1] 44)).drew ⟨(hX.alloc _).drew, (hR2.alloc _).drew, (hG.alloc _).drew, hK0.trans (RefKeep.of_below (((Below.refl _ _).alloc (Nat.le_refl _) _).trans ((Drawn.refl _).drew.below _)))⟩
      refine hK.out _ _ (hS1) (fun _ => ?_)
      clear hK K
      (try simp only [Act.put, List.setIfInBounds_toArray, List.set_cons_zero, List.set_cons_succ])
      refine Ord.aloneM rfl rfl (fun K hK => ?_)
      have hown := own_drew (ho.alloc (.cells #[.bool side, .int .i64 X, .int .i64 n, .int .i64 w1, .int .i64 h1] 44))
      refine wp_append_own _ _ _ 41 rfl base 44 i0 (.agg #[.bool false, .int .i64 0, .int .i64 0, .int .i64 0, .int .i64 0]) 5 40 Try.underlying41 hi hz0 hz1 hz2 rfl (by decide) (.slice A l.length c) _ _ rfl hown ⟨wc.heap.size, 0, none⟩ 1 1 [.bool side, .int .i64 X, .int .i64 n, .int .i64 w1, .int .i64 h1] rfl rfl (news_at (Blk.new wc 44 #[.bool side, .int .i64 X, .int .i64 n, .int .i64 w1, .int .i64 h1]).drew rfl) (by simp [Value.oneCell']) (by unfold maxLen; omega) (by omega) (by simp; omega) ?_
      intro v2 w5 ho2 hg2 _
      obtain ⟨A2, c2, rfl, -⟩ := own_some ho2
      have hS2 := hS w5 ⟨hS1.1.1.grown hown hg2 (by decide), hS1.1.2.1.grown hown hg2 (by decide), hS1.1.2.2.1.grown hown hg2 (by decide), hS1.1.2.2.2.trans (RefKeep.grown hown hg2 (by simp; omega))⟩
      (try simp only [Act.put, List.setIfInBounds_toArray, List.set_cons_zero, List.set_cons_succ])
      refine hK.out _ _ (hS2) (fun _ => ?_)
      clear hK K
      (try simp only [Act.put, List.setIfInBounds_toArray, List.set_cons_zero, List.set_cons_succ])
      (refine Ord.takeM (v := ?_) (Or.inl ⟨rfl, ?_⟩) ?_; rotate_left; (intro w hSw; (try dsimp only at hSw); go_simp; try (with_reducible rfl)); (try simp only [Act.put, List.setIfInBounds_toArray, List.set_cons_zero, List.set_cons_succ]))
      (refine Ord.takeM (v := ?_) (Or.inl ⟨rfl, ?_⟩) ?_; rotate_left; (intro w hSw; (try dsimp only at hSw); go_simp; try (with_reducible rfl)); (try simp only [Act.put, List.setIfInBounds_toArray, List.set_cons_zero, List.set_cons_succ]))
      refine Ord.lastM rfl rfl (fun K hK => ?_)
      have fr : w5.frozen? ⟨g, 2, none⟩ = false := hS2.1.2.2.1.free 2
      have fc : w5.cell? ⟨g, 2, none⟩ = some (.slice A l.length c) := hS2.1.2.2.1.cell 2
      go_simp
      (try simp only [Act.put, List.setIfInBounds_toArray, List.set_cons_zero, List.set_cons_succ])
      refine hK.out _ _ ?_
      clear hK K
      refine Ord.doneM (NoPanic.normal ?_)
      obtain ⟨⟨hX5, hR5, hG5, hK5⟩, -⟩ := hS2
      have hG6 := hG5.put 2 (.slice A2 (l.length + 1) c2)
      have hgl2 : g < w5.heap.size := hG5.lt
      have hX6 : Blk (w5.setCell ⟨g, 2, none⟩ (.slice A2 (l.length + 1) c2)) gx 27 (rect4 X n w1 h1) := hX5.far (by simp; omega) _
      have hR6 : Blk (w5.setCell ⟨g, 2, none⟩ (.slice A2 (l.length + 1) c2)) w.heap.size 27 (rect4 0 0 0 0) := hR5.far (by simp; omega) _
      have hK6 : RefKeep w (w5.setCell ⟨g, 2, none⟩ (.slice A2 (l.length + 1) c2)) g base := hK5.trans RefKeep.set
      have ho6 : (w5.setCell ⟨g, 2, none⟩ (.slice A2 (l.length + 1) c2)).ownsRow base 44 5 (.slice A2 (l.length + 1) c2) (l ++ [F]).length ((l ++ [F]).flatMap Fl.cells) := by
        have h5 : w5.ownsRow base 44 5 (.slice A2 (l.length + 1) c2) (l ++ [F]).length ((l ++ [F]).flatMap Fl.cells) := by
          have := ho2
          rw [HF2.out]
          simpa [Fl.cells, HX.out] using this
        exact own_keep h5 (fun q hq _ => heap_setCell_other _ _ _ _ (by rintro rfl; exact own_not hG5 h5 (by decide) hq.symm))
      have hF6 : Hid (rect4 X n w1 h1 = rect4 F.x F.y F.w F.h) := hid (by rw [HF2.out])
      generalize w5.setCell ⟨g, 2, none⟩ (.slice A2 (l.length + 1) c2) = w6 at *
      clear hX5 hR5 hG5 hK5 hS1 hS0 hS hown hg2 ho2 ho hG hK0 hX hR2 hB2 fr fc
      go_wp2_with (first | refine stop_load 27 _ rfl rfl ?_ | refine stop_store 27 _ _ rfl rfl ?_)
      refine ⟨?_⟩
      refine wl_load rfl 27 _ rfl _ rfl _ _ _ hX6 rfl rfl (info_rect4 _ _ _ _) ?_
      (try simp only [Act.put, List.setIfInBounds_toArray, List.set_cons_zero, List.set_cons_succ])
      go_wp2_with (first | refine stop_load 27 _ rfl rfl ?_ | refine stop_store 27 _ _ rfl rfl ?_)
      refine ⟨?_⟩
      refine wl_store rfl 27 _ _ rfl w.heap.size (rect4 X n w1 h1) rfl rfl 27 _ hR6 rfl (info_rect4 _ _ _ _) (rect_one _ _ _ _) ?_
      intro w7 hR7 hC
      (try simp only [Act.put, List.setIfInBounds_toArray, List.set_cons_zero, List.set_cons_succ])
      have hb7 : Below w.heap.size w6 w7 := hC.below (Nat.le_refl _)
      go_wp2_with fail
      refine bodyPost_ret (results_row 10 27 _ rfl rfl hR7 _ rfl rfl (info_rect4 _ _ _ _)) rfl ?_
      exact ⟨by rw [hF6.out], ⟨_, hG6.below hb7 hgl, own_keep ho6 (fun q hq _ => hC.other q (by rintro rfl; exact own_not hR6 ho6 (by decide) hq.symm))⟩, hK6.end_ hb7⟩
    · have HY2 : Hid (fall l left right w1 (later l nx) nx = Y) := hid (by
        have h1 := HY1.out
        have h2 := HQ.out
        simp only [Bool.and_eq_true, decide_eq_true_eq] at h2
        rwa [if_pos h2] at h1)
      have hl2 := HL.out (by have := HQ.out; simp only [Bool.and_eq_true] at this; exact this.2)
      go_wp2_with fail
      go_roundg (later l nx)
      case rel => exact ⟨nx, rfl, rfl, HY2, hRes, hB⟩
      case measure => exact hl2
end Go.Proofs.Ytkoanijiihnioaa
