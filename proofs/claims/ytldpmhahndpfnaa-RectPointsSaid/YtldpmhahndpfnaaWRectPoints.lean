/-
  The walk of RectPoints.
-/
import Derived.Test.YtldpmhahndpfnaaWRectRails
import Derived.Test.YtldpmhahndpfnaaOrd
namespace Go.Proofs.Ytldpmhahndpfnaa
open Go.RowKit Num Mem Opn

theorem join_comm_all (a b : Rc) : Num.join a b = Num.join b a := by
  cases ha : emp a.w a.h
  · cases hb : emp b.w b.h
    · exact join_comm a b ha hb
    · unfold Num.join; simp [ha, hb]
  · cases hb : emp b.w b.h
    · unfold Num.join; simp [ha, hb]
    · unfold Num.join; simp [ha, hb]
theorem small_10 (l : List Int) (n : Nat) (A : Option Addr) (c B : Nat) (w : World) (hn : l.length = n) (hl : n ≤ 1048576) (hA : Ints w B A l) :
    Calls Try.prog 14 #[.slice A n c] w fun e w' => e = .returned (.bool (smalls l)) ∧ w = w' := by
  subst hn
  exact law2_small l A c B w hl hA
theorem smalls10 {a b c d e f g h i j : Int} (k : smalls [a, b, c, d, e, f, g, h, i, j] = true) : Few ⟨a, b, c, d⟩ ∧ Few ⟨e, f, g, h⟩ ∧ (-1099511627776 ≤ i ∧ i ≤ 1099511627776) ∧ (-1099511627776 ≤ j ∧ j ≤ 1099511627776) := by
  simp only [smalls, List.all_cons, List.all_nil, Bool.and_true, Bool.and_eq_true, decide_eq_true_eq] at k
  unfold Few
  simp only
  omega

set_option maxRecDepth 100000 in
set_option maxHeartbeats 4000000 in
theorem walk_RectPoints (ax ay aw ah bx by_ bw bh x y : Int) (w : World) (_ : I64 ax) (_ : I64 ay) (_ : I64 aw) (_ : I64 ah) (_ : I64 bx) (_ : I64 by_) (_ : I64 bw) (_ : I64 bh) (_ : I64 x) (_ : I64 y) :
    Calls Try.prog 11 #[.agg #[.int .i64 ax, .int .i64 ay, .int .i64 aw, .int .i64 ah], .agg #[.int .i64 bx, .int .i64 by_, .int .i64 bw, .int .i64 bh], .int .i64 x, .int .i64 y] w fun e w' => e = .returned (.bool true) ∧ Below w.heap.size w w' := by
  obtain ⟨m1, hm1⟩ : ∃ m, m = meet ⟨ax, ay, aw, ah⟩ ⟨bx, by_, bw, bh⟩ := ⟨_, rfl⟩
  obtain ⟨m2, hm2⟩ : ∃ m, m = Num.join ⟨ax, ay, aw, ah⟩ ⟨bx, by_, bw, bh⟩ := ⟨_, rfl⟩
  obtain ⟨s, hs⟩ : ∃ s, s = smalls [ax, ay, aw, ah, bx, by_, bw, bh, x, y] := ⟨_, rfl⟩
  obtain ⟨p, hp⟩ : ∃ p, p = has ⟨ax, ay, aw, ah⟩ x y := ⟨_, rfl⟩
  obtain ⟨q, hq⟩ : ∃ q, q = has ⟨bx, by_, bw, bh⟩ x y := ⟨_, rfl⟩
  obtain ⟨r, hr⟩ : ∃ r, r = has m1 x y := ⟨_, rfl⟩
  obtain ⟨u, hu⟩ : ∃ u, u = has m2 x y := ⟨_, rfl⟩
  have K1 : Hid (s = true → r = (p && q)) := by
    intro h
    rw [hs] at h
    obtain ⟨k1, k2, k3, k4⟩ := smalls10 h
    rw [hr, hp, hq, hm1]
    exact has_meet k1 k2 k3 k4
  have K2 : Hid (s = true → p = true ∨ q = true → u = true) := by
    intro h h'
    rw [hs] at h
    obtain ⟨k1, k2, k3, k4⟩ := smalls10 h
    rw [hu, hm2]
    exact has_join k1 k2 k3 k4 (by rw [← hp, ← hq]; exact h')
  have H1 := hid hm1
  have H2 := hid hm2
  have HS := hid hs
  have HP := hid hp
  have HQ := hid hq
  have HR := hid hr
  have HU := hid hu
  clear hm1 hm2 hs hp hq hr hu
  go_enter Try.func11, Try.ntmps11
  go_wp2_with fail
  have h0 : Blk ((w.alloc (.cells #[.int .i64 ax, .int .i64 ay, .int .i64 aw, .int .i64 ah] 23)).alloc (.cells #[.int .i64 bx, .int .i64 by_, .int .i64 bw, .int .i64 bh] 23)) w.heap.size 23 #[.int .i64 ax, .int .i64 ay, .int .i64 aw, .int .i64 ah] := (Blk.new w _ _).alloc _
  have h1 : Blk ((w.alloc (.cells #[.int .i64 ax, .int .i64 ay, .int .i64 aw, .int .i64 ah] 23)).alloc (.cells #[.int .i64 bx, .int .i64 by_, .int .i64 bw, .int .i64 bh] 23)) (w.heap.size + 1) 23 #[.int .i64 bx, .int .i64 by_, .int .i64 bw, .int .i64 bh] := Blk.newAt _ _ _ (by simp)
  have hS0 := And.intro (((Below.refl w.heap.size w).alloc (Nat.le_refl _) (.cells #[.int .i64 ax, .int .i64 ay, .int .i64 aw, .int .i64 ah] 23)).alloc (by simp) (.cells #[.int .i64 bx, .int .i64 by_, .int .i64 bw, .int .i64 bh] 23)) (two_boxes h0 h1)
  obtain ⟨_, _, c0, c1, c2, c3, d0, d1, d2, d3⟩ := two_boxes h0 h1
  go_cut [36] (fun s36 wx => s36 = .bool false ∧ Below w.heap.size w wx ∧ Blk wx w.heap.size 23 #[.int .i64 ax, .int .i64 ay, .int .i64 aw, .int .i64 ah] ∧ Blk wx (w.heap.size + 1) 23 #[.int .i64 bx, .int .i64 by_, .int .i64 bw, .int .i64 bh] ∧ wx.cell? ⟨w.heap.size, 0, none⟩ = some (.int .i64 ax) ∧ wx.cell? ⟨w.heap.size, 1, none⟩ = some (.int .i64 ay) ∧ wx.cell? ⟨w.heap.size, 2, none⟩ = some (.int .i64 aw) ∧ wx.cell? ⟨w.heap.size, 3, none⟩ = some (.int .i64 ah) ∧ wx.cell? ⟨w.heap.size + 1, 0, none⟩ = some (.int .i64 bx) ∧ wx.cell? ⟨w.heap.size + 1, 1, none⟩ = some (.int .i64 by_) ∧ wx.cell? ⟨w.heap.size + 1, 2, none⟩ = some (.int .i64 bw) ∧ wx.cell? ⟨w.heap.size + 1, 3, none⟩ = some (.int .i64 bh))
  case first =>
    refine wp_region_noPanic ?_
    refine Ord.region_ord (S := (fun w' => Below w.heap.size w w' ∧ Blk w' w.heap.size 23 #[.int .i64 ax, .int .i64 ay, .int .i64 aw, .int .i64 ah] ∧ Blk w' (w.heap.size + 1) 23 #[.int .i64 bx, .int .i64 by_, .int .i64 bw, .int .i64 bh] ∧ w'.cell? ⟨w.heap.size, 0, none⟩ = some (.int .i64 ax) ∧ w'.cell? ⟨w.heap.size, 1, none⟩ = some (.int .i64 ay) ∧ w'.cell? ⟨w.heap.size, 2, none⟩ = some (.int .i64 aw) ∧ w'.cell? ⟨w.heap.size, 3, none⟩ = some (.int .i64 ah) ∧ w'.cell? ⟨w.heap.size + 1, 0, none⟩ = some (.int .i64 bx) ∧ w'.cell? ⟨w.heap.size + 1, 1, none⟩ = some (.int .i64 by_) ∧ w'.cell? ⟨w.heap.size + 1, 2, none⟩ = some (.int .i64 bw) ∧ w'.cell? ⟨w.heap.size + 1, 3, none⟩ = some (.int .i64 bh))) [(0, true), (1, true), (3, true), (4, true), (2, false), (5, false), (6, true), (7, true), (8, true), (9, true), (11, true), (12, true), (10, false), (13, false), (14, true), (15, true), (16, true), (17, true), (18, true), (19, true), (20, true), (21, true), (22, true), (23, true), (24, true), (25, true)] (by kernel_rfl) (by kernel_rfl) (by kernel_rfl) (by decide) (fun _ _ _ _ _ h => h) (two_keep hS0 (Below.refl _ _).drew) (fun hS1 => ?_)
    clear hS0
    have hS0 := hS1
    clear hS1
    simp only [Ord.lay, List.getElem?_cons_zero, List.getElem?_cons_succ]
    iterate 4 (refine Ord.take (v := ?_) (Or.inl ⟨rfl, ?_⟩) ?_; rotate_left; (intro w hSw; (try dsimp only at hSw); go_simp; try (with_reducible rfl)); try simp only [Act.put, List.setIfInBounds_toArray, List.set_cons_zero, List.set_cons_succ])
    refine Ord.alone rfl (fun K hK => ?_)
    go_simp
    refine (rect_Meet _ _ _ _ _ _ _ _ _).mono ?_
    rw [← H1.out]
    rintro e w1 ⟨rfl, hb⟩
    go_wp2_with fail
    have hS1 := two_keep hS0 hb
    refine hK.out _ _ hS1 (fun _ => ?_)
    clear hK K hb hS0
    have hS0 := hS1
    clear hS1
    try simp only [Act.put, List.setIfInBounds_toArray, List.set_cons_zero, List.set_cons_succ]
    refine Ord.alone rfl (fun K hK => ?_)
    go_simp
    refine (rect_Meet _ _ _ _ _ _ _ _ _).mono ?_
    rw [meet_comm ⟨bx, by_, bw, bh⟩ ⟨ax, ay, aw, ah⟩, ← H1.out]
    rintro e w2 ⟨rfl, hb⟩
    go_wp2_with fail
    have hS1 := two_keep hS0 hb
    refine hK.out _ _ hS1 (fun _ => ?_)
    clear hK K hb hS0
    have hS0 := hS1
    clear hS1
    try simp only [Act.put, List.setIfInBounds_toArray, List.set_cons_zero, List.set_cons_succ]
    iterate 6 (refine Ord.take (v := ?_) (Or.inl ⟨rfl, ?_⟩) ?_; rotate_left; (intro w hSw; (try dsimp only at hSw); go_simp; try (with_reducible rfl)); try simp only [Act.put, List.setIfInBounds_toArray, List.set_cons_zero, List.set_cons_succ])
    refine Ord.alone rfl (fun K hK => ?_)
    go_simp
    refine (rect_Join _ _ _ _ _ _ _ _ _).mono ?_
    rw [← H2.out]
    rintro e w3 ⟨rfl, hb⟩
    go_wp2_with fail
    have hS1 := two_keep hS0 hb
    refine hK.out _ _ hS1 (fun _ => ?_)
    clear hK K hb hS0
    have hS0 := hS1
    clear hS1
    try simp only [Act.put, List.setIfInBounds_toArray, List.set_cons_zero, List.set_cons_succ]
    refine Ord.alone rfl (fun K hK => ?_)
    go_simp
    refine (rect_Join _ _ _ _ _ _ _ _ _).mono ?_
    rw [join_comm_all ⟨bx, by_, bw, bh⟩ ⟨ax, ay, aw, ah⟩, ← H2.out]
    rintro e w4 ⟨rfl, hb⟩
    go_wp2_with fail
    have hS1 := two_keep hS0 hb
    refine hK.out _ _ hS1 (fun _ => ?_)
    clear hK K hb hS0
    have hS0 := hS1
    clear hS1
    try simp only [Act.put, List.setIfInBounds_toArray, List.set_cons_zero, List.set_cons_succ]
    iterate 2 (refine Ord.take (v := ?_) (Or.inl ⟨rfl, ?_⟩) ?_; rotate_left; (intro w hSw; (try dsimp only at hSw); go_simp; try (with_reducible rfl)); try simp only [Act.put, List.setIfInBounds_toArray, List.set_cons_zero, List.set_cons_succ])
    iterate 3 (refine Ord.take (v := undef) (Or.inr ⟨rfl, rfl⟩) ?_; try simp only [Act.put, List.setIfInBounds_toArray, List.set_cons_zero, List.set_cons_succ])
    iterate 2 (refine Ord.take (v := ?_) (Or.inl ⟨rfl, ?_⟩) ?_; rotate_left; (intro w hSw; (try dsimp only at hSw); go_simp; try (with_reducible rfl)); try simp only [Act.put, List.setIfInBounds_toArray, List.set_cons_zero, List.set_cons_succ])
    iterate 3 (refine Ord.take (v := undef) (Or.inr ⟨rfl, rfl⟩) ?_; try simp only [Act.put, List.setIfInBounds_toArray, List.set_cons_zero, List.set_cons_succ])
    iterate 2 (refine Ord.take (v := ?_) (Or.inl ⟨rfl, ?_⟩) ?_; rotate_left; (intro w hSw; (try dsimp only at hSw); go_simp; try (with_reducible rfl)); try simp only [Act.put, List.setIfInBounds_toArray, List.set_cons_zero, List.set_cons_succ])
    refine Ord.done ?_
    refine NoPanic.normal ?_
    go_wp2_with fail
    go_meet
    exact ⟨rfl, hS0⟩
  case rest =>
    obtain ⟨rfl, hS⟩ := hcut
    clear h0 h1 hS0 c0 c1 c2 c3 d0 d1 d2 d3
    obtain ⟨hB, b0, b1, c0, c1, c2, c3, d0, d1, d2, d3⟩ := hS
    have hZ := hB.size
    have hS0 := And.intro hB (And.intro b0 (And.intro b1 (And.intro c0 (And.intro c1 (And.intro c2 (And.intro c3 (And.intro d0 (And.intro d1 (And.intro d2 d3)))))))))
    clear hB b0 b1
    have HI : Ints (wc.alloc (.cells (ints [ax, ay, aw, ah, bx, by_, bw, bh, x, y]) 2)) (wc.heap.size + 1) (some ⟨wc.heap.size, 0, none⟩) [ax, ay, aw, ah, bx, by_, bw, bh, x, y] :=
      Ints.ofBlk (Blk.new _ _ _) (by omega)
    have hS1 := two_keep hS0 ((Below.refl wc.heap.size wc).alloc (Nat.le_refl _) (.cells (ints [ax, ay, aw, ah, bx, by_, bw, bh, x, y]) 2))
    go_wp2_with fail
    refine (small_10 [ax, ay, aw, ah, bx, by_, bw, bh, x, y] 10 _ _ _ _ rfl (by omega) HI).mono ?_
    rw [← HS.out]
    rintro e w1 ⟨rfl, rfl⟩
    clear hS0 c0 c1 c2 c3 d0 d1 d2 d3
    cases s
    · obtain ⟨hB, _⟩ := hS1
      go_wp2_with fail
      refine (known2 _).mono ?_
      rintro e w2 ⟨rfl, hb⟩
      go_wp2
      go_ret
      exact ⟨rfl, hB.trans (hb.mono hB.size)⟩
    · have R1 : Hid (r = (p && q)) := K1.out rfl
      have R2 : Hid (p = true ∨ q = true → u = true) := K2.out rfl
      clear K1 K2 HS
      have hSc := hS1
      obtain ⟨_, _, _, c0, c1, c2, c3, d0, d1, d2, d3⟩ := hSc
      go_wp2_with fail
      refine (rect_Has _ _ _ _ _ _ _).mono ?_
      rw [← HP.out]
      rintro e w3 ⟨rfl, hb⟩
      have hS2 := two_keep hS1 hb
      clear hS1 hb c0 c1 c2 c3 d0 d1 d2 d3
      have hSc := hS2
      obtain ⟨_, _, _, c0, c1, c2, c3, d0, d1, d2, d3⟩ := hSc
      go_wp2_with fail
      refine (rect_Has _ _ _ _ _ _ _).mono ?_
      rw [← HQ.out]
      rintro e w4 ⟨rfl, hb⟩
      have hS3 := two_keep hS2 hb
      clear hS2 hb c0 c1 c2 c3 d0 d1 d2 d3
      have hSc := hS3
      obtain ⟨_, _, _, c0, c1, c2, c3, d0, d1, d2, d3⟩ := hSc
      go_wp2_with fail
      refine (rect_Meet _ _ _ _ _ _ _ _ _).mono ?_
      rw [← H1.out]
      rintro e w5 ⟨rfl, hb⟩
      have hS4 := two_keep hS3 hb
      clear hS3 hb c0 c1 c2 c3 d0 d1 d2 d3
      have hSc := hS4
      obtain ⟨_, _, _, c0, c1, c2, c3, d0, d1, d2, d3⟩ := hSc
      go_wp2_with fail
      refine (rect_Has _ _ _ _ _ _ _).mono ?_
      rw [show has ⟨m1.x, m1.y, m1.w, m1.h⟩ x y = has m1 x y from rfl, ← HR.out, R1.out]
      rintro e w6 ⟨rfl, hb⟩
      have hS5 := two_keep hS4 hb
      clear hS4 hb c0 c1 c2 c3 d0 d1 d2 d3
      clear R1
      cases p
      · cases q
        · obtain ⟨hB, _⟩ := hS5
          go_wp2_with fail
          refine (known2 _).mono ?_
          rintro e w7 ⟨rfl, hb⟩
          go_wp2
          go_ret
          exact ⟨rfl, hB.trans (hb.mono hB.size)⟩
        · have HT : Hid (u = true) := R2.out (.inr rfl)
          have hSc := hS5
          obtain ⟨_, _, _, c0, c1, c2, c3, d0, d1, d2, d3⟩ := hSc
          go_wp2_with fail
          refine (rect_Join _ _ _ _ _ _ _ _ _).mono ?_
          rw [← H2.out]
          rintro e w7 ⟨rfl, hb⟩
          have hS6 := two_keep hS5 hb
          clear hS5 hb c0 c1 c2 c3 d0 d1 d2 d3
          have hSc := hS6
          obtain ⟨_, _, _, c0, c1, c2, c3, d0, d1, d2, d3⟩ := hSc
          go_wp2_with fail
          refine (rect_Has _ _ _ _ _ _ _).mono ?_
          rw [show has ⟨m2.x, m2.y, m2.w, m2.h⟩ x y = has m2 x y from rfl, ← HU.out, HT.out]
          rintro e w8 ⟨rfl, hb⟩
          have hS7 := two_keep hS6 hb
          clear hS6 hb c0 c1 c2 c3 d0 d1 d2 d3
          obtain ⟨hB, _⟩ := hS7
          go_wp2_with fail
          refine (known2 _).mono ?_
          rintro e w9 ⟨rfl, hb⟩
          go_wp2
          go_ret
          exact ⟨rfl, hB.trans (hb.mono hB.size)⟩
      · have HT : Hid (u = true) := R2.out (.inl rfl)
        cases q
        · have hSc := hS5
          obtain ⟨_, _, _, c0, c1, c2, c3, d0, d1, d2, d3⟩ := hSc
          go_wp2_with fail
          refine (rect_Join _ _ _ _ _ _ _ _ _).mono ?_
          rw [← H2.out]
          rintro e w7 ⟨rfl, hb⟩
          have hS6 := two_keep hS5 hb
          clear hS5 hb c0 c1 c2 c3 d0 d1 d2 d3
          have hSc := hS6
          obtain ⟨_, _, _, c0, c1, c2, c3, d0, d1, d2, d3⟩ := hSc
          go_wp2_with fail
          refine (rect_Has _ _ _ _ _ _ _).mono ?_
          rw [show has ⟨m2.x, m2.y, m2.w, m2.h⟩ x y = has m2 x y from rfl, ← HU.out, HT.out]
          rintro e w8 ⟨rfl, hb⟩
          have hS7 := two_keep hS6 hb
          clear hS6 hb c0 c1 c2 c3 d0 d1 d2 d3
          obtain ⟨hB, _⟩ := hS7
          go_wp2_with fail
          refine (known2 _).mono ?_
          rintro e w9 ⟨rfl, hb⟩
          go_wp2
          go_ret
          exact ⟨rfl, hB.trans (hb.mono hB.size)⟩
        · have hSc := hS5
          obtain ⟨_, _, _, c0, c1, c2, c3, d0, d1, d2, d3⟩ := hSc
          go_wp2_with fail
          refine (rect_Join _ _ _ _ _ _ _ _ _).mono ?_
          rw [← H2.out]
          rintro e w7 ⟨rfl, hb⟩
          have hS6 := two_keep hS5 hb
          clear hS5 hb c0 c1 c2 c3 d0 d1 d2 d3
          have hSc := hS6
          obtain ⟨_, _, _, c0, c1, c2, c3, d0, d1, d2, d3⟩ := hSc
          go_wp2_with fail
          refine (rect_Has _ _ _ _ _ _ _).mono ?_
          rw [show has ⟨m2.x, m2.y, m2.w, m2.h⟩ x y = has m2 x y from rfl, ← HU.out, HT.out]
          rintro e w8 ⟨rfl, hb⟩
          have hS7 := two_keep hS6 hb
          clear hS6 hb c0 c1 c2 c3 d0 d1 d2 d3
          obtain ⟨hB, _⟩ := hS7
          go_wp2_with fail
          refine (known2 _).mono ?_
          rintro e w9 ⟨rfl, hb⟩
          go_wp2
          go_ret
          exact ⟨rfl, hB.trans (hb.mono hB.size)⟩
end Go.Proofs.Ytldpmhahndpfnaa
