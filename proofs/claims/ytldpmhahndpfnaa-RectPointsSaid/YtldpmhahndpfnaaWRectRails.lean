/-
  The walk of RectRails.
-/
import Derived.Test.YtldpmhahndpfnaaPlainR
import Derived.Test.YtldpmhahndpfnaaOpen
namespace Go.Proofs.Ytldpmhahndpfnaa
open Go.RowKit Num Mem Opn

theorem rect_Move_b (x y ww hh dx dy : Int) (w : World) : Calls Try.prog 16 #[.agg #[.int .i64 x, .int .i64 y, .int .i64 ww, .int .i64 hh], .int .i64 dx, .int .i64 dy] w fun e w' =>
    e = .returned (.agg #[.int .i64 (Num.move ⟨x, y, ww, hh⟩ dx dy).x, .int .i64 (Num.move ⟨x, y, ww, hh⟩ dx dy).y, .int .i64 (Num.move ⟨x, y, ww, hh⟩ dx dy).w, .int .i64 (Num.move ⟨x, y, ww, hh⟩ dx dy).h]) ∧ Below w.heap.size w w' :=
  (rect_Move x y ww hh dx dy w).mono fun _ _ ⟨h, h'⟩ => ⟨h, by subst h'; go_grown⟩
theorem rect_Inset_b (x y ww hh t r b l : Int) (w : World) : Calls Try.prog 17 #[.agg #[.int .i64 x, .int .i64 y, .int .i64 ww, .int .i64 hh], .int .i64 t, .int .i64 r, .int .i64 b, .int .i64 l] w fun e w' =>
    e = .returned (.agg #[.int .i64 (Num.inset ⟨x, y, ww, hh⟩ t r b l).x, .int .i64 (Num.inset ⟨x, y, ww, hh⟩ t r b l).y, .int .i64 (Num.inset ⟨x, y, ww, hh⟩ t r b l).w, .int .i64 (Num.inset ⟨x, y, ww, hh⟩ t r b l).h]) ∧ Below w.heap.size w w' :=
  (rect_Inset x y ww hh t r b l w).mono fun _ _ ⟨h, h'⟩ => ⟨h, by subst h'; go_grown⟩
theorem blk_below {w w' : World} {g : Nat} {t : TypeId} {cs : Array Value} (h : Blk w g t cs) (hb : Below w.heap.size w w') : Blk w' g t cs := h.below hb h.lt

theorem two_keep {w0 w w' : World} {g h : Nat} {t : TypeId} {a0 a1 a2 a3 b0 b1 b2 b3 : Value} (hh : Below w0.heap.size w0 w ∧ Blk w g t #[a0, a1, a2, a3] ∧ Blk w h t #[b0, b1, b2, b3] ∧ w.cell? ⟨g, 0, none⟩ = some a0 ∧ w.cell? ⟨g, 1, none⟩ = some a1 ∧ w.cell? ⟨g, 2, none⟩ = some a2 ∧ w.cell? ⟨g, 3, none⟩ = some a3 ∧ w.cell? ⟨h, 0, none⟩ = some b0 ∧ w.cell? ⟨h, 1, none⟩ = some b1 ∧ w.cell? ⟨h, 2, none⟩ = some b2 ∧ w.cell? ⟨h, 3, none⟩ = some b3) (hb : Below w.heap.size w w') :
    Below w0.heap.size w0 w' ∧ Blk w' g t #[a0, a1, a2, a3] ∧ Blk w' h t #[b0, b1, b2, b3] ∧ w'.cell? ⟨g, 0, none⟩ = some a0 ∧ w'.cell? ⟨g, 1, none⟩ = some a1 ∧ w'.cell? ⟨g, 2, none⟩ = some a2 ∧ w'.cell? ⟨g, 3, none⟩ = some a3 ∧ w'.cell? ⟨h, 0, none⟩ = some b0 ∧ w'.cell? ⟨h, 1, none⟩ = some b1 ∧ w'.cell? ⟨h, 2, none⟩ = some b2 ∧ w'.cell? ⟨h, 3, none⟩ = some b3 :=
  ⟨hh.1.trans (hb.mono hh.1.size), two_boxes (blk_below hh.2.1 hb) (blk_below hh.2.2.1 hb)⟩

theorem two_fst {w0 w : World} {g h : Nat} {t : TypeId} {a0 a1 a2 a3 b0 b1 b2 b3 : Value} (hh : Below w0.heap.size w0 w ∧ Blk w g t #[a0, a1, a2, a3] ∧ Blk w h t #[b0, b1, b2, b3] ∧ w.cell? ⟨g, 0, none⟩ = some a0 ∧ w.cell? ⟨g, 1, none⟩ = some a1 ∧ w.cell? ⟨g, 2, none⟩ = some a2 ∧ w.cell? ⟨g, 3, none⟩ = some a3 ∧ w.cell? ⟨h, 0, none⟩ = some b0 ∧ w.cell? ⟨h, 1, none⟩ = some b1 ∧ w.cell? ⟨h, 2, none⟩ = some b2 ∧ w.cell? ⟨h, 3, none⟩ = some b3) : Below w0.heap.size w0 w := hh.1

set_option maxRecDepth 100000 in
set_option maxHeartbeats 4000000 in
theorem walk_RectRails (ax ay aw ah bx by_ bw bh x y : Int) (w : World) (_ : I64 ax) (_ : I64 ay) (_ : I64 aw) (_ : I64 ah) (_ : I64 bx) (_ : I64 by_) (_ : I64 bw) (_ : I64 bh) (_ : I64 x) (_ : I64 y) :
    Calls Try.prog 9 #[.agg #[.int .i64 ax, .int .i64 ay, .int .i64 aw, .int .i64 ah], .agg #[.int .i64 bx, .int .i64 by_, .int .i64 bw, .int .i64 bh], .int .i64 x, .int .i64 y] w fun e w' => e = .returned (.bool true) ∧ Below w.heap.size w w' := by
  obtain ⟨m1, hm1⟩ : ∃ m, m = meet ⟨ax, ay, aw, ah⟩ ⟨bx, by_, bw, bh⟩ := ⟨_, rfl⟩
  obtain ⟨m2, hm2⟩ : ∃ m, m = Num.join ⟨ax, ay, aw, ah⟩ ⟨bx, by_, bw, bh⟩ := ⟨_, rfl⟩
  obtain ⟨m3, hm3⟩ : ∃ m, m = Num.move ⟨ax, ay, aw, ah⟩ x y := ⟨_, rfl⟩
  obtain ⟨m4, hm4⟩ : ∃ m, m = Num.inset ⟨ax, ay, aw, ah⟩ x y x y := ⟨_, rfl⟩
  have r1 : Railed m1 := by rw [hm1]; exact railed_meet _ _
  have r2 : Railed m2 := by rw [hm2]; exact railed_join _ _
  have r3 : Railed m3 := by rw [hm3]; exact ⟨⟨sat_lo _, sat_hi _⟩, ⟨sat_lo _, sat_hi _⟩, sat_hi _, sat_hi _⟩
  have r4 : Railed m4 := by
    rw [hm4]
    have h1 := sub_hi (sub aw y) y
    have h2 := sub_hi (sub ah x) x
    exact ⟨⟨sat_lo _, sat_hi _⟩, ⟨sat_lo _, sat_hi _⟩, by unfold Num.inset; simp only; omega, by unfold Num.inset; simp only; omega⟩
  have H1 := hid hm1
  have H2 := hid hm2
  have H3 := hid hm3
  have H4 := hid hm4
  clear hm1 hm2 hm3 hm4
  have HS := St.new w #[.int .i64 ax, .int .i64 ay, .int .i64 aw, .int .i64 ah] #[.int .i64 bx, .int .i64 by_, .int .i64 bw, .int .i64 bh] #[]
  clear HS
  go_enter Try.func9, Try.ntmps9
  go_wp2_with fail
  have h0 : Blk ((w.alloc (.cells #[.int .i64 ax, .int .i64 ay, .int .i64 aw, .int .i64 ah] 23)).alloc (.cells #[.int .i64 bx, .int .i64 by_, .int .i64 bw, .int .i64 bh] 23)) w.heap.size 23 #[.int .i64 ax, .int .i64 ay, .int .i64 aw, .int .i64 ah] := (Blk.new w _ _).alloc _
  have h1 : Blk ((w.alloc (.cells #[.int .i64 ax, .int .i64 ay, .int .i64 aw, .int .i64 ah] 23)).alloc (.cells #[.int .i64 bx, .int .i64 by_, .int .i64 bw, .int .i64 bh] 23)) (w.heap.size + 1) 23 #[.int .i64 bx, .int .i64 by_, .int .i64 bw, .int .i64 bh] := Blk.newAt _ _ _ (by simp)
  obtain ⟨_, _, c0, c1, c2, c3, d0, d1, d2, d3⟩ := two_boxes h0 h1
  have hS0 := And.intro (((Below.refl w.heap.size w).alloc (Nat.le_refl _) (.cells #[.int .i64 ax, .int .i64 ay, .int .i64 aw, .int .i64 ah] 23)).alloc (by simp) (.cells #[.int .i64 bx, .int .i64 by_, .int .i64 bw, .int .i64 bh] 23)) (two_boxes h0 h1)
  go_cut [9] (fun s9 wx => ∃ g : Nat, s9 = .slice (some ⟨g, 0, none⟩) 4 4 ∧ Blk wx g 23 #[.int .i64 m1.x, .int .i64 m1.y, .int .i64 m1.w, .int .i64 m1.h, .int .i64 m2.x, .int .i64 m2.y, .int .i64 m2.w, .int .i64 m2.h, .int .i64 m3.x, .int .i64 m3.y, .int .i64 m3.w, .int .i64 m3.h, .int .i64 m4.x, .int .i64 m4.y, .int .i64 m4.w, .int .i64 m4.h] ∧ Below w.heap.size w wx)
  case first =>
    go_region_held3 (fun w' => Below w.heap.size w w' ∧ Blk w' w.heap.size 23 #[.int .i64 ax, .int .i64 ay, .int .i64 aw, .int .i64 ah] ∧ Blk w' (w.heap.size + 1) 23 #[.int .i64 bx, .int .i64 by_, .int .i64 bw, .int .i64 bh] ∧ w'.cell? ⟨w.heap.size, 0, none⟩ = some (.int .i64 ax) ∧ w'.cell? ⟨w.heap.size, 1, none⟩ = some (.int .i64 ay) ∧ w'.cell? ⟨w.heap.size, 2, none⟩ = some (.int .i64 aw) ∧ w'.cell? ⟨w.heap.size, 3, none⟩ = some (.int .i64 ah) ∧ w'.cell? ⟨w.heap.size + 1, 0, none⟩ = some (.int .i64 bx) ∧ w'.cell? ⟨w.heap.size + 1, 1, none⟩ = some (.int .i64 by_) ∧ w'.cell? ⟨w.heap.size + 1, 2, none⟩ = some (.int .i64 bw) ∧ w'.cell? ⟨w.heap.size + 1, 3, none⟩ = some (.int .i64 bh)) (first | (refine two_keep ?_ hb; assumption) | (refine two_keep ?_ ((Below.refl _ _).alloc (Nat.le_refl _) _); assumption) | exact two_keep hS0 ((Below.refl _ _).drew) | exact two_keep hS0 hb)
      (first | (go_at_call 30; refine (rect_Meet _ _ _ _ _ _ _ _ _).mono ?_; rw [← H1.out]; rintro e w1 ⟨rfl, hb⟩) | (go_at_call 31; refine (rect_Join _ _ _ _ _ _ _ _ _).mono ?_; rw [← H2.out]; rintro e w2 ⟨rfl, hb⟩) | (go_at_call 16; refine (rect_Move_b _ _ _ _ _ _ _).mono ?_; rw [← H3.out]; rintro e w3 ⟨rfl, hb⟩) | (go_at_call 17; refine (rect_Inset_b _ _ _ _ _ _ _ _ _).mono ?_; rw [← H4.out]; rintro e w4 ⟨rfl, hb⟩))
    go_wp2_with fail
    go_meet
    refine ⟨_, rfl, Blk.new _ _ _, two_fst (g := w.heap.size) (h := w.heap.size + 1) (t := 23) (a0 := .int .i64 ax) (a1 := .int .i64 ay) (a2 := .int .i64 aw) (a3 := .int .i64 ah) (b0 := .int .i64 bx) (b1 := .int .i64 by_) (b2 := .int .i64 bw) (b3 := .int .i64 bh) (w0 := w) ?_⟩
    assumption
  case rest =>
    obtain ⟨g, rfl, hG, hB⟩ := hcut
    clear h0 h1 c0 c1 c2 c3 d0 d1 d2 d3 hS0
    have e0 : wc.cell? ⟨g, 0, none⟩ = some (.int .i64 m1.x) := cell_of_row _ _ 0 _ _ _ hG
    have e1 : wc.cell? ⟨g, 1, none⟩ = some (.int .i64 m1.y) := cell_of_row _ _ 1 _ _ _ hG
    have e2 : wc.cell? ⟨g, 2, none⟩ = some (.int .i64 m1.w) := cell_of_row _ _ 2 _ _ _ hG
    have e3 : wc.cell? ⟨g, 3, none⟩ = some (.int .i64 m1.h) := cell_of_row _ _ 3 _ _ _ hG
    have e4 : wc.cell? ⟨g, 4, none⟩ = some (.int .i64 m2.x) := cell_of_row _ _ 4 _ _ _ hG
    have e5 : wc.cell? ⟨g, 5, none⟩ = some (.int .i64 m2.y) := cell_of_row _ _ 5 _ _ _ hG
    have e6 : wc.cell? ⟨g, 6, none⟩ = some (.int .i64 m2.w) := cell_of_row _ _ 6 _ _ _ hG
    have e7 : wc.cell? ⟨g, 7, none⟩ = some (.int .i64 m2.h) := cell_of_row _ _ 7 _ _ _ hG
    have e8 : wc.cell? ⟨g, 8, none⟩ = some (.int .i64 m3.x) := cell_of_row _ _ 8 _ _ _ hG
    have e9 : wc.cell? ⟨g, 9, none⟩ = some (.int .i64 m3.y) := cell_of_row _ _ 9 _ _ _ hG
    have e10 : wc.cell? ⟨g, 10, none⟩ = some (.int .i64 m3.w) := cell_of_row _ _ 10 _ _ _ hG
    have e11 : wc.cell? ⟨g, 11, none⟩ = some (.int .i64 m3.h) := cell_of_row _ _ 11 _ _ _ hG
    have e12 : wc.cell? ⟨g, 12, none⟩ = some (.int .i64 m4.x) := cell_of_row _ _ 12 _ _ _ hG
    have e13 : wc.cell? ⟨g, 13, none⟩ = some (.int .i64 m4.y) := cell_of_row _ _ 13 _ _ _ hG
    have e14 : wc.cell? ⟨g, 14, none⟩ = some (.int .i64 m4.w) := cell_of_row _ _ 14 _ _ _ hG
    have e15 : wc.cell? ⟨g, 15, none⟩ = some (.int .i64 m4.h) := cell_of_row _ _ 15 _ _ _ hG
    have R1 := hid r1
    have R2 := hid r2
    have R3 := hid r3
    have R4 := hid r4
    clear r1 r2 r3 r4
    go_wp2
    go_loop [10] (fun i => ∃ k : Nat, k ≤ 4 ∧ i = .int .i64 k) (fun i => 4 - (intOf i).toNat)
    case atStart => exact ⟨0, by omega, rfl⟩
    case round =>
      obtain ⟨k, hk, rfl⟩ := hrel
      obtain rfl | rfl | rfl | rfl | rfl : k = 0 ∨ k = 1 ∨ k = 2 ∨ k = 3 ∨ k = 4 := by omega
      · obtain ⟨⟨x1, x2⟩, ⟨y1, y2⟩, z1, z2⟩ := R1.out
        go_wp2
        go_round
        case rel => exact ⟨1, by omega, rfl⟩
        case measure => simp [intOf]
      · obtain ⟨⟨x1, x2⟩, ⟨y1, y2⟩, z1, z2⟩ := R2.out
        go_wp2
        go_round
        case rel => exact ⟨2, by omega, rfl⟩
        case measure => simp [intOf]
      · obtain ⟨⟨x1, x2⟩, ⟨y1, y2⟩, z1, z2⟩ := R3.out
        go_wp2
        go_round
        case rel => exact ⟨3, by omega, rfl⟩
        case measure => simp [intOf]
      · obtain ⟨⟨x1, x2⟩, ⟨y1, y2⟩, z1, z2⟩ := R4.out
        go_wp2
        go_round
        case rel => exact ⟨4, by omega, rfl⟩
        case measure => simp [intOf]
      · go_wp2_with (go_at_call 15; refine (known2 _).mono ?_; rintro e w9 ⟨rfl, hb9⟩)
        go_ret
        exact ⟨rfl, hB.trans (hb9.mono hB.size)⟩
end Go.Proofs.Ytldpmhahndpfnaa
