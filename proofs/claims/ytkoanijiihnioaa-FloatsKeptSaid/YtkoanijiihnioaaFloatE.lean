/-
  The walk of floats' Room.Put.
-/
import Derived.Test.YtkoanijiihnioaaFloatD
import Derived.Test.YtkoanijiihnioaaOrdN
namespace Go.Proofs.Ytkoanijiihnioaa
open Go.RowKit Num Mem
set_option linter.unusedVariables false
set_option linter.unusedSimpArgs false
theorem news_at {w : World} {g : Nat} {t : TypeId} {cs : Array Value} {news : List Value} (hb : Blk w g t cs) (hn : cs.toList = news) : ∀ j u, news[j]? = some u → w.cell? ((⟨g, 0, none⟩ : Addr).add j) = some u := by
  intro j u hu
  rw [Addr.add_mid, hb.cell, Nat.zero_add, ← Array.getElem?_toList, hn, hu]
def rect4 (x y w h : Int) : Array Value := #[.int .i64 x, .int .i64 y, .int .i64 w, .int .i64 h]
theorem info_rect4 (x y w h : Int) : (Try.prog.info? 27).map (·.size) = some (rect4 x y w h).size := by kernel_rfl
theorem info_rect_list (x y w h : Int) : (Try.prog.info? 27).map (·.size) = some (rect4 x y w h).toList.length := info_rect4 x y w h
theorem rect_one (x y w h : Int) : (rect4 x y w h).all (·.oneCell') = true := by simp [rect4, Value.oneCell']
/-- what a put changes: the room's box and its row. -/
structure RoomKeep (w w' : World) (g base : Nat) : Prop where
  below : ∀ B, B ≤ g → B ≤ base → B ≤ w.heap.size → Below B w w'
  blk : ∀ {k : Nat} {t : TypeId} {cs : Array Value}, Blk w k t cs → k ≠ g → t ≠ 38 → Blk w' k t cs
  size : w.heap.size ≤ w'.heap.size
theorem from_last {l : List Fl} {k : Nat} {f : Fl} (hk : l.length = k + 1) (hf : l[k]? = some f) (y : Int) : from_ l y = max (sat y) f.y := by
  have : l.getLast? = some f := by rw [List.getLast?_eq_getElem?, hk]; exact hf
  rw [from_, this]
theorem RoomKeep.of_below {w w' : World} {g base : Nat} (h : Below w.heap.size w w') : RoomKeep w w' g base :=
  ⟨fun B _ _ hB => h.mono hB, fun hk _ _ => hk.below h hk.lt, h.size⟩
theorem RoomKeep.end_ {w a b : World} {g base : Nat} (h : RoomKeep w a g base) (k : Below w.heap.size a b) : RoomKeep w b g base :=
  ⟨fun B h1 h2 h3 => (h.below B h1 h2 h3).trans (k.mono h3), fun hk h1 h2 => (h.blk hk h1 h2).below k hk.lt, Nat.le_trans h.size k.size⟩
theorem RoomKeep.trans {w a b : World} {g base : Nat} (h : RoomKeep w a g base) (k : RoomKeep a b g base) : RoomKeep w b g base :=
  ⟨fun B h1 h2 h3 => (h.below B h1 h2 h3).trans (k.below B h1 h2 (Nat.le_trans h3 h.size)), fun hk h1 h2 => k.blk (h.blk hk h1 h2) h1 h2, Nat.le_trans h.size k.size⟩
theorem RoomKeep.grown {w w' : World} {g base size n : Nat} {v : Value} {xs : List Value} (ho : w.ownsRow base 38 size v n xs) (hg : w.grownBy w' v.ownBlock) (hb : base ≤ w.heap.size) : RoomKeep w w' g base :=
  ⟨fun B _ h2 _ => (own_belowB ho hg hb).mono h2, fun hk _ h2 => hk.grown ho hg h2, hg.size⟩
theorem RoomKeep.set {w : World} {g base i : Nat} {v : Value} : RoomKeep w (w.setCell ⟨g, i, none⟩ v) g base :=
  ⟨fun B h1 _ _ => (Chg.setCell w ⟨g, i, none⟩ v).below h1, fun hk h1 _ => hk.far h1 _, by simp⟩
set_option maxRecDepth 100000 in
set_option maxHeartbeats 4000000 in
theorem room_Put (g base : Nat) (left right : Int) (l : List Fl) (v : Value) (side : Bool) (wd ht y : Int) (w : World) (hl : l.length ≤ 1000) (hbase : base ≤ w.heap.size) (hr : RoomAt w g base left right l v) :
    Calls Try.prog 16 #[.pointer (some ⟨g, 0, none⟩), .bool side, .int .i64 wd, .int .i64 ht, .int .i64 y] w fun e w' =>
      e = .returned (.agg (rect4 (place l left right side wd ht y).x (place l left right side wd ht y).y (place l left right side wd ht y).w (place l left right side wd ht y).h)) ∧
      (∃ v', RoomAt w' g base left right (l ++ [place l left right side wd ht y]) v') ∧ RoomKeep w w' g base := by
  have hRes : Blk (w.alloc (.cells (rect4 0 0 0 0) 27)) w.heap.size 27 (rect4 0 0 0 0) := Blk.new _ _ _
  have hB : Below w.heap.size w (w.alloc (.cells (rect4 0 0 0 0) 27)) := by go_grown
  obtain ⟨w1, hw1⟩ : ∃ w1, max wd 0 = w1 := ⟨_, rfl⟩
  obtain ⟨h1, hh1⟩ : ∃ h1, max ht 0 = h1 := ⟨_, rfl⟩
  obtain ⟨Y, hY⟩ : ∃ Y, fall l left right w1 (later l (from_ l y)) (from_ l y) = Y := ⟨_, rfl⟩
  have HF : Hid (place l left right side wd ht y = ⟨side, if side = true then sub (band Y l left right).2 w1 else (band Y l left right).1, Y, w1, h1⟩) := hid (by rw [← hY, ← hh1, ← hw1]; rfl)
  obtain ⟨F, hF⟩ : ∃ F, place l left right side wd ht y = F := ⟨_, rfl⟩
  rw [hF] at HF ⊢
  clear hF
  obtain ⟨i0, hi, hz0, hz1, hz2⟩ := info_parts info_float5
  go_enter Try.func16, Try.ntmps16
  go_upto_region 1 with fail
  refine wp_forget (fun Z => Blk Z w.heap.size 27 (rect4 0 0 0 0) ∧ Below w.heap.size w Z) ⟨hRes, hB⟩ ?_
  clear hRes hB
  rintro w0 ⟨hRes, hB⟩
  have hsz := hB.size
  have hlt0 := hRes.lt
  have hr0 := hr.below hB
  have c2 : w0.cell? ⟨g, 2, none⟩ = some v := hr0.blk.cell 2
  obtain ⟨A, c, rfl, hc⟩ := own_some hr.own
  have hA : Recs w0 w0.heap.size A 5 Fl.cells l := Recs.of_own fl_length (by decide) hr0.own
  go_upto_if 30 with (go_at_call 48; refine (fixed_Sat _ _).mono ?_; rintro e w' ⟨rfl, rfl⟩)
  go_cut [11] (fun s11 wx => s11 = .int .i64 (from_ l y) ∧ w0 = wx)
  case first =>
    rcases Nat.eq_zero_or_pos l.length with h0 | h0
    · have hnil : l = [] := List.length_eq_zero_iff.1 h0
      have HZ : Hid (from_ l y = sat y) := hid (by rw [hnil]; rfl)
      have gd : decide ((0 : Int) < (l.length : Int)) = false := by simp; omega
      clear hnil
      go_wp2_with fail
      go_meet
      exact ⟨by rw [HZ.out], rfl⟩
    · obtain ⟨k, hk⟩ : ∃ k, l.length = k + 1 := ⟨l.length - 1, by omega⟩
      obtain ⟨b, off, f, rfl, hb, hf, -⟩ := hA.at_ (k := k) (by omega)
      obtain ⟨f0, f1, f2, f3, f4⟩ := floats_at hA hf.out
      have HZ : Hid (max (sat y) f.y = from_ l y) := hid (from_last hk hf.out y).symm
      have gd : decide ((0 : Int) < (l.length : Int)) = true := by simp; omega
      have e1 : (l.length : Int) - 1 = (k : Int) := by omega
      have e2 : decide ((k : Int) < (l.length : Int)) = true := by simp; omega
      generalize f.y = fy at *
      go_wp2_with fail
      go_meet
      exact ⟨by rw [HZ.out], rfl⟩
  case rest =>
  obtain ⟨rfl, rfl⟩ := hcut
  clear hA c2
  go_wp2_with fail
  have HY := hid hY
  clear hY hw1 hh1
  generalize from_ l y = y0 at *
  go_loopg [11] (later l y0) (fun g' s11 wr => ∃ n : Int, g' = later l n ∧ s11 = .int .i64 n ∧ Hid (fall l left right w1 (later l n) n = Y) ∧ Blk wr w.heap.size 27 (rect4 0 0 0 0) ∧ Below w.heap.size w wr)
  case atStart => exact ⟨y0, rfl, rfl, HY, hRes, hB⟩
  case round =>
    clear hRes hB hlt0 hsz hr0 HY
    obtain ⟨n, rfl, rfl, HY, hRes, hB⟩ := hrel
    have hr1 := hr.below hB
    go_wp2_with fail
    refine (room_Band g base left right l _ n _ hl hr1).mono ?_
    rintro e w2 ⟨rfl, hb2⟩
    replace hRes := hRes.below hb2 hRes.lt
    replace hB := hB.trans (hb2.mono hB.size)
    clear hb2 hr1
    have hr1 := hr.below hB
    go_wp2_with fail
    refine (room_Next g base left right l _ n _ hl hr1).mono ?_
    rintro e w3 ⟨rfl, hb3⟩
    replace hRes := hRes.below hb3 hRes.lt
    replace hB := hB.trans (hb3.mono hB.size)
    clear hb3 hr1
    have hr1 := hr.below hB
    have HY1 : Hid ((if sub (band n l left right).2 (band n l left right).1 < w1 ∧ (next n l 0 false).2 = true then fall l left right w1 (later l (next n l 0 false).1) (next n l 0 false).1 else n) = Y) := hid (by rw [← HY.out]; exact fall_step.symm)
    have HL : Hid ((next n l 0 false).2 = true → later l (next n l 0 false).1 < later l n) := hid (fun h => (later_next h).2)
    obtain ⟨P, hP⟩ : ∃ P, band n l left right = P := ⟨_, rfl⟩
    obtain ⟨N, hN⟩ : ∃ N, next n l 0 false = N := ⟨_, rfl⟩
    have HP := hid hP
    rw [hP] at HY1 ⊢
    rw [hN] at HY1 HL ⊢
    clear HY hP hN
    obtain ⟨a, b⟩ := P
    obtain ⟨nx, mt⟩ := N
    simp only at HY1 HL ⊢
    obtain ⟨qd, hqd⟩ : ∃ qd, (decide (sub b a < w1) && mt) = qd := ⟨_, rfl⟩
    have HQ := hid hqd
    clear hqd
    go_upto_region 8 with fail
    go_cut [62] (fun s62 wx => s62 = .bool qd ∧ w3 = wx)
    case first =>
      by_cases hcc : sub b a < w1
      · have gd : decide (sub b a < w1) = true := by simpa using hcc
        have HZ : Hid (mt = qd) := hid (by rw [← HQ.out, gd]; rfl)
        clear hcc
        go_wp2_with (go_at_call 50; refine (fixed_Sub _ _ _).mono ?_; rintro e w' ⟨rfl, rfl⟩)
        go_meet
        exact ⟨by rw [HZ.out], rfl⟩
      · have gd : decide (sub b a < w1) = false := by simpa using hcc
        have HZ : Hid (qd = false) := hid (by rw [← HQ.out, gd]; rfl)
        clear hcc
        go_wp2_with (go_at_call 50; refine (fixed_Sub _ _ _).mono ?_; rintro e w' ⟨rfl, rfl⟩)
        go_meet
        exact ⟨by rw [HZ.out], rfl⟩
    case rest =>
    obtain ⟨rfl, rfl⟩ := hcut
    cases qd
    · have HY2 : n = Y := by
        have h1 := HY1.out
        rw [if_neg] at h1
        · exact h1
        · have := HQ.out
          intro hx
          rw [hx.2] at this
          simp at this
          omega
      subst HY2
      have HF2 : Hid (F = ⟨side, if side = true then sub b w1 else a, n, w1, h1⟩) := hid (by rw [HF.out, HP.out])
      clear HY1 HL HP HF HQ
      go_upto_region 11 with fail
      have hX : Blk (w3.alloc (.cells (rect4 a n w1 h1) 27)) w3.heap.size 27 (rect4 a n w1 h1) := Blk.new _ _ _
      have hR2 := hRes.alloc (.cells (rect4 a n w1 h1) 27)
      have hB2 : Below w.heap.size w (w3.alloc (.cells (rect4 a n w1 h1) 27)) := hB.alloc hB.size _
      have hgx : w.heap.size < w3.heap.size := hRes.lt
      refine wp_forget (fun Z => Blk Z w3.heap.size 27 (rect4 a n w1 h1) ∧ Blk Z w.heap.size 27 (rect4 0 0 0 0) ∧ Below w.heap.size w Z) ⟨hX, hR2, hB2⟩ ?_
      clear hX hR2 hB2 hRes hB hr1
      rintro w4 ⟨hX, hR2, hB2⟩
      generalize w3.heap.size = gx at *
      obtain ⟨X, hXX⟩ : ∃ X, (if side = true then sub b w1 else a) = X := ⟨_, rfl⟩
      rw [hXX] at HF2
      have HX := hid hXX
      clear hXX
      go_upto_if 69 with fail
      go_cut [] (fun wx => Blk wx gx 27 (rect4 X n w1 h1) ∧ Blk wx w.heap.size 27 (rect4 0 0 0 0) ∧ Below w.heap.size w wx)
      case first =>
        cases side
        · have HZ : Hid (a = X) := hid (by rw [← HX.out]; rfl)
          go_wp2_with fail
          go_meet
          exact ⟨by rw [← HZ.out]; exact hX, hR2, hB2⟩
        · have HZ : Hid (sub b w1 = X) := hid (by rw [← HX.out]; rfl)
          have fr : w4.frozen? ⟨gx, 0, none⟩ = false := hX.free 0
          have fc : w4.cell? ⟨gx, 0, none⟩ = some (.int .i64 a) := hX.cell 0
          go_wp2_with (go_at_call 50; refine (fixed_Sub _ _ _).mono ?_; rintro e w' ⟨rfl, rfl⟩)
          go_meet
          exact ⟨by rw [← HZ.out]; exact hX.put 0 _, hR2.far (by simp; omega) _, hB2.trans ((Chg.setCell _ ⟨gx, 0, none⟩ _).below (by simp; omega))⟩
      case rest =>
      obtain ⟨hX, hR2, hB2⟩ := hcut
      go_upto_region 13 with fail
      have ho := (hr.below hB2).own
      have hG := (hr.below hB2).blk
      have hK0 : RoomKeep w wc g base := RoomKeep.of_below hB2
      have hsz4 := hB2.size
      have hgl : g < w.heap.size := hr.blk.lt
      have hS : ∀ Z, (Blk Z gx 27 (rect4 X n w1 h1) ∧ Blk Z w.heap.size 27 (rect4 0 0 0 0) ∧ Blk Z g 89 #[.int .i64 left, .int .i64 right, .slice A l.length c] ∧ RoomKeep w Z g base) → (fun Z => (Blk Z gx 27 (rect4 X n w1 h1) ∧ Blk Z w.heap.size 27 (rect4 0 0 0 0) ∧ Blk Z g 89 #[.int .i64 left, .int .i64 right, .slice A l.length c] ∧ RoomKeep w Z g base) ∧ Z.cell? ⟨g, 2, none⟩ = some (.slice A l.length c) ∧ Z.rangeAt gx 0 (rect4 X n w1 h1).toList) Z := fun Z h => ⟨h, h.2.2.1.cell 2, h.1.range⟩
      refine wp_region_noPanic ?_
      refine Ord.region_N (S := fun Z => (Blk Z gx 27 (rect4 X n w1 h1) ∧ Blk Z w.heap.size 27 (rect4 0 0 0 0) ∧ Blk Z g 89 #[.int .i64 left, .int .i64 right, .slice A l.length c] ∧ RoomKeep w Z g base) ∧ Z.cell? ⟨g, 2, none⟩ = some (.slice A l.length c) ∧ Z.rangeAt gx 0 (rect4 X n w1 h1).toList) 12 (.one 0 true (.one 1 true (.one 2 true (.one 3 true (.one 4 true (.one 5 true (.one 6 true (.one 7 true (.one 8 false (.one 9 false (.one 10 true (.one 11 true (.one 12 false .nil))))))))))))) (by kernel_rfl) (by kernel_rfl) (by kernel_rfl) (by decide) (fun _ _ _ _ _ h => h) (hS _ ⟨hX.drew, hR2.drew, hG.drew, hK0.trans (RoomKeep.of_below ((Drawn.refl _).drew.below _))⟩) (fun hS0 => ?_)
      simp only [Ord.layT, List.getElem?_cons_zero, List.getElem?_cons_succ]
      (refine Ord.takeM (v := ?_) (Or.inl ⟨rfl, ?_⟩) ?_; rotate_left; (intro w hSw; (try dsimp only at hSw); go_simp; try (with_reducible rfl)); (try simp only [Act.put, List.setIfInBounds_toArray, List.set_cons_zero, List.set_cons_succ]))
      (refine Ord.takeM (v := ?_) (Or.inl ⟨rfl, ?_⟩) ?_; rotate_left; (intro w hSw; (try dsimp only at hSw); go_simp; try (with_reducible rfl)); (try simp only [Act.put, List.setIfInBounds_toArray, List.set_cons_zero, List.set_cons_succ]))
      (refine Ord.takeM (v := ?_) (Or.inl ⟨rfl, ?_⟩) ?_; rotate_left; (intro w hSw; (try dsimp only at hSw); go_simp; try (with_reducible rfl)); (try simp only [Act.put, List.setIfInBounds_toArray, List.set_cons_zero, List.set_cons_succ]))
      (refine Ord.takeM (v := ?_) (Or.inl ⟨rfl, ?_⟩) ?_; rotate_left; (intro w hSw; (try dsimp only at hSw); go_simp; try (with_reducible rfl)); (try simp only [Act.put, List.setIfInBounds_toArray, List.set_cons_zero, List.set_cons_succ]))
      (refine Ord.takeM (v := ?_) (Or.inl ⟨rfl, ?_⟩) ?_; rotate_left; (intro w hSw; (try dsimp only at hSw); go_simp; try (with_reducible rfl)); (try simp only [Act.put, List.setIfInBounds_toArray, List.set_cons_zero, List.set_cons_succ]))
      (refine Ord.takeM (v := ?_) (Or.inl ⟨rfl, ?_⟩) ?_; rotate_left; (intro w hSw; (try dsimp only at hSw); go_simp; try (with_reducible rfl)); (try simp only [Act.put, List.setIfInBounds_toArray, List.set_cons_zero, List.set_cons_succ]))
      (refine Ord.takeM (yieldsIf_load_mid rfl _ _ rfl gx 0 rfl _ _ (fun w' h => h.2.2) Try.underlying27 rfl (info_rect_list _ _ _ _)) ?_; (try simp only [Act.put, List.setIfInBounds_toArray, List.set_cons_zero, List.set_cons_succ]))
      (refine Ord.takeM (v := .agg #[.bool side, .int .i64 X, .int .i64 n, .int .i64 w1, .int .i64 h1]) (Or.inl ⟨rfl, fun w _ => by kernel_rfl⟩) ?_; (try simp only [Act.put, List.setIfInBounds_toArray, List.set_cons_zero, List.set_cons_succ]))
      refine Ord.aloneM rfl rfl (fun K hK => ?_)
      go_simp
      have hS1 := hS (wc.alloc (.cells #[.bool side, .int .i64 X, .int .i64 n, .int .i64 w1, .int .i64 h1] 38)).drew ⟨(hX.alloc _).drew, (hR2.alloc _).drew, (hG.alloc _).drew, hK0.trans (RoomKeep.of_below (((Below.refl _ _).alloc (Nat.le_refl _) _).trans ((Drawn.refl _).drew.below _)))⟩
      refine hK.out _ _ (hS1) (fun _ => ?_)
      clear hK K
      (try simp only [Act.put, List.setIfInBounds_toArray, List.set_cons_zero, List.set_cons_succ])
      refine Ord.aloneM rfl rfl (fun K hK => ?_)
      have hown := own_drew (ho.alloc (.cells #[.bool side, .int .i64 X, .int .i64 n, .int .i64 w1, .int .i64 h1] 38))
      refine wp_append_own _ _ _ 35 rfl base 38 i0 (.agg #[.bool false, .int .i64 0, .int .i64 0, .int .i64 0, .int .i64 0]) 5 40 Try.underlying35 hi hz0 hz1 hz2 rfl (by decide) (.slice A l.length c) _ _ rfl hown ⟨wc.heap.size, 0, none⟩ 1 1 [.bool side, .int .i64 X, .int .i64 n, .int .i64 w1, .int .i64 h1] rfl rfl (news_at (Blk.new wc 38 #[.bool side, .int .i64 X, .int .i64 n, .int .i64 w1, .int .i64 h1]).drew rfl) (by simp [Value.oneCell']) (by unfold maxLen; omega) (by omega) (by simp; omega) ?_
      intro v2 w5 ho2 hg2 _
      obtain ⟨A2, c2, rfl, -⟩ := own_some ho2
      have hS2 := hS w5 ⟨hS1.1.1.grown hown hg2 (by decide), hS1.1.2.1.grown hown hg2 (by decide), hS1.1.2.2.1.grown hown hg2 (by decide), hS1.1.2.2.2.trans (RoomKeep.grown hown hg2 (by simp; omega))⟩
      (try simp only [Act.put, List.setIfInBounds_toArray, List.set_cons_zero, List.set_cons_succ])
      refine hK.out _ _ (hS2) (fun _ => ?_)
      clear hK K
      (try simp only [Act.put, List.setIfInBounds_toArray, List.set_cons_zero, List.set_cons_succ])
      (refine Ord.takeM (v := ?_) (Or.inl ⟨rfl, ?_⟩) ?_; rotate_left; (intro w hSw; (try dsimp only at hSw); go_simp; try (with_reducible rfl)); (try simp only [Act.put, List.setIfInBounds_toArray, List.set_cons_zero, List.set_cons_succ]))
      (refine Ord.takeM (v := ?_) (Or.inl ⟨rfl, ?_⟩) ?_; rotate_left; (intro w hSw; (try dsimp only at hSw); go_simp; try (with_reducible rfl)); (try simp only [Act.put, List.setIfInBounds_toArray, List.set_cons_zero, List.set_cons_succ]))
      refine Ord.lastM rfl rfl (fun K hK => ?_)
      have fr : w5.frozen? ⟨g, 2, none⟩ = false := hS2.1.2.2.1.free 2
      have fc : w5.cell? ⟨g, 2, none⟩ = some (.slice A l.length c) := hS2.1.2.2.1.cell 2
      go_simp
      (try simp only [Act.put, List.setIfInBounds_toArray, List.set_cons_zero, List.set_cons_succ])
      refine hK.out _ _ ?_
      clear hK K
      refine Ord.doneM (NoPanic.normal ?_)
      obtain ⟨⟨hX5, hR5, hG5, hK5⟩, -⟩ := hS2
      have hG6 := hG5.put 2 (.slice A2 (l.length + 1) c2)
      have hgl2 : g < w5.heap.size := hG5.lt
      have hX6 : Blk (w5.setCell ⟨g, 2, none⟩ (.slice A2 (l.length + 1) c2)) gx 27 (rect4 X n w1 h1) := hX5.far (by simp; omega) _
      have hR6 : Blk (w5.setCell ⟨g, 2, none⟩ (.slice A2 (l.length + 1) c2)) w.heap.size 27 (rect4 0 0 0 0) := hR5.far (by simp; omega) _
      have hK6 : RoomKeep w (w5.setCell ⟨g, 2, none⟩ (.slice A2 (l.length + 1) c2)) g base := hK5.trans RoomKeep.set
      have ho6 : (w5.setCell ⟨g, 2, none⟩ (.slice A2 (l.length + 1) c2)).ownsRow base 38 5 (.slice A2 (l.length + 1) c2) (l ++ [F]).length ((l ++ [F]).flatMap Fl.cells) := by
        have h5 : w5.ownsRow base 38 5 (.slice A2 (l.length + 1) c2) (l ++ [F]).length ((l ++ [F]).flatMap Fl.cells) := by
          have := ho2
          rw [HF2.out]
          simpa [Fl.cells, HX.out] using this
        exact own_keep h5 (fun q hq _ => heap_setCell_other _ _ _ _ (by rintro rfl; exact own_not hG5 h5 (by decide) hq.symm))
      have hF6 : Hid (rect4 X n w1 h1 = rect4 F.x F.y F.w F.h) := hid (by rw [HF2.out])
      generalize w5.setCell ⟨g, 2, none⟩ (.slice A2 (l.length + 1) c2) = w6 at *
      clear hX5 hR5 hG5 hK5 hS1 hS0 hS hown hg2 ho2 ho hG hK0 hX hR2 hB2 fr fc
      go_wp2_with (first | refine stop_load 27 _ rfl rfl ?_ | refine stop_store 27 _ _ rfl rfl ?_)
      refine ⟨?_⟩
      refine wl_load rfl 27 _ rfl _ rfl _ _ _ hX6 rfl rfl (info_rect4 _ _ _ _) ?_
      (try simp only [Act.put, List.setIfInBounds_toArray, List.set_cons_zero, List.set_cons_succ])
      go_wp2_with (first | refine stop_load 27 _ rfl rfl ?_ | refine stop_store 27 _ _ rfl rfl ?_)
      refine ⟨?_⟩
      refine wl_store rfl 27 _ _ rfl w.heap.size (rect4 X n w1 h1) rfl rfl 27 _ hR6 rfl (info_rect4 _ _ _ _) (rect_one _ _ _ _) ?_
      intro w7 hR7 hC
      (try simp only [Act.put, List.setIfInBounds_toArray, List.set_cons_zero, List.set_cons_succ])
      have hb7 : Below w.heap.size w6 w7 := hC.below (Nat.le_refl _)
      go_wp2_with fail
      refine bodyPost_ret (results_row 10 27 _ rfl rfl hR7 _ rfl rfl (info_rect4 _ _ _ _)) rfl ?_
      exact ⟨by rw [hF6.out], ⟨_, hG6.below hb7 hgl, own_keep ho6 (fun q hq _ => hC.other q (by rintro rfl; exact own_not hR6 ho6 (by decide) hq.symm))⟩, hK6.end_ hb7⟩
    · have HY2 : Hid (fall l left right w1 (later l nx) nx = Y) := hid (by
        have h1 := HY1.out
        have h2 := HQ.out
        simp only [Bool.and_eq_true, decide_eq_true_eq] at h2
        rwa [if_pos h2] at h1)
      have hl2 := HL.out (by have := HQ.out; simp only [Bool.and_eq_true] at this; exact this.2)
      go_wp2_with fail
      go_roundg (later l nx)
      case rel => exact ⟨nx, rfl, rfl, HY2, hRes, hB⟩
      case measure => exact hl2
end Go.Proofs.Ytkoanijiihnioaa
