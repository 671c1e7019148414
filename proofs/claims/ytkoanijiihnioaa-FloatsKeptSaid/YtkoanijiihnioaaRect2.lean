/-
  The walks of rect.Meet, Join, Has.
-/
import Derived.Test.YtkoanijiihnioaaRect
namespace Go.Proofs.Ytkoanijiihnioaa
open Go.RowKit Num Mem

theorem rect_Empty_b (x y ww hh : Int) (w : World) : Calls Try.prog 36 #[.agg #[.int .i64 x, .int .i64 y, .int .i64 ww, .int .i64 hh]] w fun e w' => e = .returned (.bool (emp ww hh)) ∧ Below w.heap.size w w' :=
  (rect_Empty x y ww hh w).mono fun _ _ ⟨h, h'⟩ => ⟨h, by subst h'; go_grown⟩
theorem rect_rect_b (x y ww hh : Int) (w : World) : Calls Try.prog 55 #[.agg #[.int .i64 x, .int .i64 y, .int .i64 ww, .int .i64 hh]] w fun e w' =>
    e = .returned (.agg #[.int .i64 x, .int .i64 y, .int .i64 (sub ww x), .int .i64 (sub hh y)]) ∧ Below w.heap.size w w' :=
  (rect_rect x y ww hh w).mono fun _ _ ⟨h, h'⟩ => ⟨h, by subst h'; go_grown⟩

/-- both boxes are as they were. -/
theorem two_boxes {w' : World} {g h : Nat} {t : TypeId} {a0 a1 a2 a3 b0 b1 b2 b3 : Value} (ha : Blk w' g t #[a0, a1, a2, a3]) (hb : Blk w' h t #[b0, b1, b2, b3]) :
    Blk w' g t #[a0, a1, a2, a3] ∧ Blk w' h t #[b0, b1, b2, b3] ∧ w'.cell? ⟨g, 0, none⟩ = some a0 ∧ w'.cell? ⟨g, 1, none⟩ = some a1 ∧ w'.cell? ⟨g, 2, none⟩ = some a2 ∧ w'.cell? ⟨g, 3, none⟩ = some a3 ∧ w'.cell? ⟨h, 0, none⟩ = some b0 ∧ w'.cell? ⟨h, 1, none⟩ = some b1 ∧ w'.cell? ⟨h, 2, none⟩ = some b2 ∧ w'.cell? ⟨h, 3, none⟩ = some b3 :=
  ⟨ha, hb, ha.four.1, ha.four.2.1, ha.four.2.2.1, ha.four.2.2.2, hb.four.1, hb.four.2.1, hb.four.2.2.1, hb.four.2.2.2⟩
/-- three boxes of the call's own. -/
def St (w W : World) (A B C : Array Value) : Prop := w.heap.size + 3 ≤ W.heap.size ∧ Blk W w.heap.size 27 A ∧ Blk W (w.heap.size + 1) 27 B ∧ Blk W (w.heap.size + 1 + 1) 27 C ∧ Below w.heap.size w W
theorem St.below {w W W' : World} {A B C : Array Value} (h : St w W A B C) (hb : Below W.heap.size W W') : St w W' A B C := by
  obtain ⟨h1, h2, h3, h4, h5⟩ := h
  have := hb.size
  exact ⟨by omega, h2.below hb (by omega), h3.below hb (by omega), h4.below hb (by omega), h5.trans (hb.mono (by omega))⟩
theorem St.new (w : World) (A B C : Array Value) : St w (((w.alloc (.cells A 27)).alloc (.cells B 27)).alloc (.cells C 27)) A B C :=
  ⟨by simp, ((Blk.new w _ _).alloc _).alloc _, (Blk.newAt (w.alloc (.cells A 27)) _ _ (by simp)).alloc _, Blk.newAt _ _ _ (by simp), by go_grown⟩

set_option maxHeartbeats 2000000 in
theorem rect_Meet (ax ay aw ah bx by_ bw bh : Int) (w : World) : Calls Try.prog 23 #[.agg #[.int .i64 ax, .int .i64 ay, .int .i64 aw, .int .i64 ah], .agg #[.int .i64 bx, .int .i64 by_, .int .i64 bw, .int .i64 bh]] w fun e w' =>
    e = .returned (.agg #[.int .i64 (meet ⟨ax, ay, aw, ah⟩ ⟨bx, by_, bw, bh⟩).x, .int .i64 (meet ⟨ax, ay, aw, ah⟩ ⟨bx, by_, bw, bh⟩).y, .int .i64 (meet ⟨ax, ay, aw, ah⟩ ⟨bx, by_, bw, bh⟩).w, .int .i64 (meet ⟨ax, ay, aw, ah⟩ ⟨bx, by_, bw, bh⟩).h]) ∧ Below w.heap.size w w' := by
  generalize hm : meet ⟨ax, ay, aw, ah⟩ ⟨bx, by_, bw, bh⟩ = m
  have HS := St.new w #[.int .i64 ax, .int .i64 ay, .int .i64 aw, .int .i64 ah] #[.int .i64 bx, .int .i64 by_, .int .i64 bw, .int .i64 bh] #[.int .i64 0, .int .i64 0, .int .i64 0, .int .i64 0]
  cases ha : emp aw ah
  · cases hb : emp bw bh
    · have HM : Hid (m = if emp (meetE ⟨ax, ay, aw, ah⟩ ⟨bx, by_, bw, bh⟩).w (meetE ⟨ax, ay, aw, ah⟩ ⟨bx, by_, bw, bh⟩).h then nought else meetE ⟨ax, ay, aw, ah⟩ ⟨bx, by_, bw, bh⟩) := by
        show m = _
        rw [← hm]; unfold meet; simp [ha, hb]
      clear hm
      go_enter Try.func23, Try.ntmps23
      go_wp2_with fail
      refine (rect_Empty_b _ _ _ _ _).mono ?_
      rintro e w1 ⟨rfl, hb1⟩
      have HS1 := HS.below hb1
      clear hb1 HS
      obtain ⟨_, c0, c1, c2, c3, d0, d1, d2, d3⟩ := (two_boxes HS1.2.1 HS1.2.2.1).2
      go_wp2_with fail
      refine (rect_Empty_b _ _ _ _ _).mono ?_
      rintro e w2 ⟨rfl, hb2⟩
      have HS2 := HS1.below hb2
      clear hb2 HS1 c0 c1 c2 c3 d0 d1 d2 d3
      obtain ⟨hz, h0, h1, h2, hB⟩ := HS2
      obtain ⟨_, _, c0, c1, c2, c3, d0, d1, d2, d3⟩ := two_boxes h0 h1
      go_wp2_with fail
      go_cut [5, 6] (fun s5 s6 wx => ∃ g5 g6 : Nat, s5 = .pointer (some ⟨g5, 0, none⟩) ∧ s6 = .pointer (some ⟨g6, 0, none⟩) ∧ Blk wx g5 92 #[.int .i64 (sat ax), .int .i64 (sat ay), .int .i64 (add ax aw), .int .i64 (add ay ah)] ∧ Blk wx g6 92 #[.int .i64 (sat bx), .int .i64 (sat by_), .int .i64 (add bx bw), .int .i64 (add by_ bh)] ∧ St w wx #[.int .i64 ax, .int .i64 ay, .int .i64 aw, .int .i64 ah] #[.int .i64 bx, .int .i64 by_, .int .i64 bw, .int .i64 bh] #[.int .i64 0, .int .i64 0, .int .i64 0, .int .i64 0])
      case first =>
        go_region_held3 (fun w' => Blk w' w.heap.size 27 #[.int .i64 ax, .int .i64 ay, .int .i64 aw, .int .i64 ah] ∧ Blk w' (w.heap.size + 1) 27 #[.int .i64 bx, .int .i64 by_, .int .i64 bw, .int .i64 bh] ∧ w'.cell? ⟨w.heap.size, 0, none⟩ = some (.int .i64 ax) ∧ w'.cell? ⟨w.heap.size, 1, none⟩ = some (.int .i64 ay) ∧ w'.cell? ⟨w.heap.size, 2, none⟩ = some (.int .i64 aw) ∧ w'.cell? ⟨w.heap.size, 3, none⟩ = some (.int .i64 ah) ∧ w'.cell? ⟨w.heap.size + 1, 0, none⟩ = some (.int .i64 bx) ∧ w'.cell? ⟨w.heap.size + 1, 1, none⟩ = some (.int .i64 by_) ∧ w'.cell? ⟨w.heap.size + 1, 2, none⟩ = some (.int .i64 bw) ∧ w'.cell? ⟨w.heap.size + 1, 3, none⟩ = some (.int .i64 bh)) (refine two_boxes ?_ ?_ <;> (repeat (first | with_reducible assumption | (with_reducible refine Blk.drew ?_) | (with_reducible refine Blk.newAt _ _ _ ?_; simp; done) | (with_reducible refine Blk.alloc ?_ _))))
          (first | (go_at_call 54; refine (rect_of _ _ _ _ _).mono ?_; rintro e w' ⟨rfl, rfl⟩))
        all_goals (go_wp2_with fail; go_meet)
        all_goals (refine ⟨_, _, rfl, rfl, ?_, ?_, ⟨by simp; omega, ?_, ?_, ?_, by go_grown⟩⟩ <;> (repeat (first | with_reducible assumption | (with_reducible refine Blk.drew ?_) | (with_reducible refine Blk.newAt _ _ _ ?_; simp; done) | (with_reducible refine Blk.alloc ?_ _))))
      case rest =>
        clear hz h0 h1 h2 hB c0 c1 c2 c3 d0 d1 d2 d3
        obtain ⟨g5, g6, rfl, rfl, h5, h6, HS⟩ := hcut
        obtain ⟨c50, c51, c52, c53⟩ := h5.four
        obtain ⟨c60, c61, c62, c63⟩ := h6.four
        go_wp2_with fail
        refine (rect_rect_b _ _ _ _ _).mono ?_
        rintro e w3 ⟨rfl, hb3⟩
        have HS3 := HS.below hb3
        clear hb3 HS h5 h6 c50 c51 c52 c53 c60 c61 c62 c63
        go_wp2_with fail
        refine (rect_Empty_b _ _ _ _ _).mono ?_
        rintro e w4 ⟨rfl, hb4⟩
        have hq := Blk.below (Blk.newAt w3 27 _ rfl) hb4 (by simp)
        have HS4 := (HS3.below ((Below.refl _ w3).alloc (Nat.le_refl _) _)).below hb4
        clear hb4 HS3
        obtain ⟨hz, h0, h1, h2, hB⟩ := HS4
        obtain ⟨q0, q1, q2, q3⟩ := hq.four
        obtain ⟨z0, z1, z2, z3⟩ := h2.four
        have f0 := h2.free 0
        have f1 := h2.free 1
        have f2 := h2.free 2
        have f3 := h2.free 3
        cases he : emp (sub (min (add ax aw) (add bx bw)) (max (sat ax) (sat bx))) (sub (min (add ay ah) (add by_ bh)) (max (sat ay) (sat by_)))
        · have HN : Hid (m = ⟨max (sat ax) (sat bx), max (sat ay) (sat by_), sub (min (add ax aw) (add bx bw)) (max (sat ax) (sat bx)), sub (min (add ay ah) (add by_ bh)) (max (sat ay) (sat by_))⟩) := by
            show m = _
            rw [HM.out]
            exact if_neg (by show ¬ emp _ _ = true; unfold meetE ofEdges; rw [he]; simp)
          clear HM
          go_wp2
          refine bodyPost_ret (v := .agg #[.int .i64 (max (sat ax) (sat bx)), .int .i64 (max (sat ay) (sat by_)), .int .i64 (sub (min (add ax aw) (add bx bw)) (max (sat ax) (sat bx))), .int .i64 (sub (min (add ay ah) (add by_ bh)) (max (sat ay) (sat by_)))]) (by simp [results, Try.results23, go_sem, z0, z1, z2, z3]) rfl ?_
          exact ⟨by rw [HN.out], by go_grown⟩
        · have HN : Hid (m = nought) := by
            show m = _
            rw [HM.out]
            exact if_pos (by unfold meetE ofEdges; rw [he])
          clear HM
          go_wp2
          refine bodyPost_ret (v := .agg #[.int .i64 0, .int .i64 0, .int .i64 0, .int .i64 0]) (by simp [results, Try.results23, go_sem, z0, z1, z2, z3]) rfl ?_
          exact ⟨by rw [HN.out]; rfl, by go_grown⟩
    · have HM : Hid (m = nought) := by show m = _; rw [← hm]; unfold meet; simp [hb]
      clear hm
      go_enter Try.func23, Try.ntmps23
      go_wp2_with (go_at_call 36; refine (rect_Empty _ _ _ _ _).mono ?_; rintro e w' ⟨rfl, rfl⟩)
      go_returns
      exact ⟨by rw [HM.out]; rfl, by go_grown⟩
  · have HM : Hid (m = nought) := by show m = _; rw [← hm]; unfold meet; simp [ha]
    clear hm
    go_enter Try.func23, Try.ntmps23
    go_wp2_with (go_at_call 36; refine (rect_Empty _ _ _ _ _).mono ?_; rintro e w' ⟨rfl, rfl⟩)
    go_returns
    exact ⟨by rw [HM.out]; rfl, by go_grown⟩
end Go.Proofs.Ytkoanijiihnioaa
