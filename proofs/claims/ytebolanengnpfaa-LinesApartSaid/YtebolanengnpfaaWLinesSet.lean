/-
  The walk of LinesSet.
-/
import Derived.Test.YtebolanengnpfaaWLinesNumbers
import Derived.Test.YtebolanengnpfaaOrdM
namespace Go.Proofs.Ytebolanengnpfaa
open Go.RowKit Num Mem Opn
set_option linter.unusedVariables false
set_option linter.unusedSimpArgs false
theorem wp_store_row {P : Program} {op : Oper} {a : Act} {w : World} {K : Act → World → Prop} {Q : Exit → Act → World → Prop} (ty : TypeId) (x y : Operand) (ho : op.op = .store ty x y)
    (b : Nat) (cells : Array Value) (hx : a.eval x = .pointer (some ⟨b, 0, none⟩)) (hy : a.eval y = .agg cells)
    (t : TypeId) (old : Array Value) (hb : Blk w b t old) (hs : old.size = cells.size) (hi : (P.info? ty).map (·.size) = some cells.size) (h1 : cells.all (·.oneCell') = true)
    (h : ∀ w', Blk w' b t cells → Chg b w w' → K (a.put op.dst undef) w') : op.wp P a w K Q := by
  have hk := setCells_blk b t cells.toList old.toList [] w (by simpa using hb) (by simpa using hs)
  refine wp_store_mid ty x y ho b 0 cells hx hy ?_ hi h1 (h _ (by simpa using hk.1) (by simpa using hk.2))
  intro j hj
  rw [Nat.zero_add, hb.cell]
  exact ⟨by rw [Array.getElem?_eq_getElem (by omega)]; rfl, hb.free j⟩
theorem info_rect : (Try.prog.info? 59).map (·.size) = some 4 := by kernel_rfl
theorem info_rect_list (x y w h : Int) : (Try.prog.info? 59).map (·.size) = some (rect4 x y w h).toList.length := info_rect
theorem rect_one (x y w h : Int) : (rect4 x y w h).all (·.oneCell') = true := by simp [rect4, Value.oneCell']
theorem eq_run (a b c d e : Int) (w : World) : (binOp .neq 61 (.agg #[.int .i64 a, .int .i64 b, .int .i64 c, .int .i64 d, .int .i64 e]) (.agg #[.int .i64 a, .int .i64 b, .int .i64 c, .int .i64 d, .int .i64 e])).run Try.prog w = .ok (.bool false) w := by
  go_simp
set_option maxRecDepth 100000 in
set_option maxHeartbeats 4000000 in
theorem walk_LinesSet (A : Option Addr) (l : List Bt) (c : Nat) (room X Y W H align : Int) (w : World) (hr : RowB w A l c) (ir : I64 room) (iX : I64 X) (iY : I64 Y) (iW : I64 W) (iH : I64 H) (ia : I64 align) :
    Calls Try.prog 8 #[.slice A l.length c, .int .i64 room, .agg #[.int .i64 X, .int .i64 Y, .int .i64 W, .int .i64 H], .int .i64 align] w fun e w' => e = .returned (.bool true) ∧ Below w.heap.size w w' := by
  obtain ⟨hA, hlc, hcp, hx⟩ := hr
  have h80 : (pcs 0 (l.take 80)).length ≤ 80 := by rw [pcs_length]; simp; omega
  have hR : Blk (w.alloc (.cells (rect4 X Y W H) 59)) w.heap.size 59 (rect4 X Y W H) := Blk.new _ _ _
  have hB : Below w.heap.size w (w.alloc (.cells (rect4 X Y W H) 59)) := by go_grown
  show Calls Try.prog 8 #[.slice A l.length c, .int .i64 room, .agg (rect4 X Y W H), .int .i64 align] w _
  go_enter Try.func8, Try.ntmps8
  go_upto_region 1 with fail
  refine wp_forget (fun Z => Blk Z w.heap.size 59 (rect4 X Y W H) ∧ Below w.heap.size w Z) ⟨hR, hB⟩ ?_
  clear hR hB
  rintro w0 ⟨hR, hB⟩
  have hR0 := hR
  go_wp2_with fail
  refine (some_n l _ A c _ rfl ((hA.below hB).more hB.size) (by omega) hx).mono ?_
  rintro e w1 ⟨v, v', rfl, hb, ho, ho'⟩
  replace hR := hR.below hb hR.lt
  replace hB := hB.trans (hb.mono hB.size)
  clear hb
  generalize pcs 0 (l.take 80) = P at *
  clear hA hx
  have hgt : w.heap.size < w0.heap.size := hR0.lt
  go_wp2_with fail
  refine (law_small _ _ ir).mono ?_
  rintro e w2 ⟨rfl, rfl⟩
  generalize lit24 room = r at *
  go_upto_region 3 with fail
  go_cut [] (fun wx => Blk wx w.heap.size 59 (rect4 (lit24 X) (lit24 Y) (lit24 W) (lit24 H)) ∧ Below w.heap.size w wx ∧ wx.ownsRow w0.heap.size 36 57 v P.length (P.flatMap Pc.cells) ∧ wx.ownsRow w0.heap.size 80 57 v' P.length (P.flatMap Pc.cells))
  case first =>
    have hS : ∀ Z, (Blk Z w.heap.size 59 (rect4 X Y W H)) → (fun Z => Blk Z w.heap.size 59 (rect4 X Y W H) ∧ Z.cell? ⟨w.heap.size, 0, none⟩ = some (.int .i64 X) ∧ Z.cell? ⟨w.heap.size, 1, none⟩ = some (.int .i64 Y) ∧ Z.cell? ⟨w.heap.size, 2, none⟩ = some (.int .i64 W) ∧ Z.cell? ⟨w.heap.size, 3, none⟩ = some (.int .i64 H)) Z := fun Z h => ⟨h, h.cell 0, h.cell 1, h.cell 2, h.cell 3⟩
    refine wp_region_noPanic ?_
    refine Ord.region_M (S := fun Z => Blk Z w.heap.size 59 (rect4 X Y W H) ∧ Z.cell? ⟨w.heap.size, 0, none⟩ = some (.int .i64 X) ∧ Z.cell? ⟨w.heap.size, 1, none⟩ = some (.int .i64 Y) ∧ Z.cell? ⟨w.heap.size, 2, none⟩ = some (.int .i64 W) ∧ Z.cell? ⟨w.heap.size, 3, none⟩ = some (.int .i64 H)) 13 (.one 0 true (.one 1 true (.one 3 true (.one 4 true (.one 6 true (.one 7 true (.one 9 true (.one 10 true (.one 2 false (.one 5 false (.one 8 false (.one 11 false (.one 12 true (.one 13 false .nil)))))))))))))) (by kernel_rfl) (by kernel_rfl) (by kernel_rfl) (by kernel_rfl) (by decide) (fun _ _ _ _ _ h => h) (hS _ hR.drew) (fun hS0 => ?_)
    simp only [Ord.layT, List.getElem?_cons_zero, List.getElem?_cons_succ]
    (refine Ord.takeM (v := ?_) (Or.inl ⟨rfl, ?_⟩) ?_; rotate_left; (intro w hSw; (try dsimp only at hSw); go_simp; try (with_reducible rfl)); (try simp only [Act.put, List.setIfInBounds_toArray, List.set_cons_zero, List.set_cons_succ]))
    (refine Ord.takeM (v := ?_) (Or.inl ⟨rfl, ?_⟩) ?_; rotate_left; (intro w hSw; (try dsimp only at hSw); go_simp; try (with_reducible rfl)); (try simp only [Act.put, List.setIfInBounds_toArray, List.set_cons_zero, List.set_cons_succ]))
    (refine Ord.takeM (v := ?_) (Or.inl ⟨rfl, ?_⟩) ?_; rotate_left; (intro w hSw; (try dsimp only at hSw); go_simp; try (with_reducible rfl)); (try simp only [Act.put, List.setIfInBounds_toArray, List.set_cons_zero, List.set_cons_succ]))
    (refine Ord.takeM (v := ?_) (Or.inl ⟨rfl, ?_⟩) ?_; rotate_left; (intro w hSw; (try dsimp only at hSw); go_simp; try (with_reducible rfl)); (try simp only [Act.put, List.setIfInBounds_toArray, List.set_cons_zero, List.set_cons_succ]))
    (refine Ord.takeM (v := ?_) (Or.inl ⟨rfl, ?_⟩) ?_; rotate_left; (intro w hSw; (try dsimp only at hSw); go_simp; try (with_reducible rfl)); (try simp only [Act.put, List.setIfInBounds_toArray, List.set_cons_zero, List.set_cons_succ]))
    (refine Ord.takeM (v := ?_) (Or.inl ⟨rfl, ?_⟩) ?_; rotate_left; (intro w hSw; (try dsimp only at hSw); go_simp; try (with_reducible rfl)); (try simp only [Act.put, List.setIfInBounds_toArray, List.set_cons_zero, List.set_cons_succ]))
    (refine Ord.takeM (v := ?_) (Or.inl ⟨rfl, ?_⟩) ?_; rotate_left; (intro w hSw; (try dsimp only at hSw); go_simp; try (with_reducible rfl)); (try simp only [Act.put, List.setIfInBounds_toArray, List.set_cons_zero, List.set_cons_succ]))
    (refine Ord.takeM (v := ?_) (Or.inl ⟨rfl, ?_⟩) ?_; rotate_left; (intro w hSw; (try dsimp only at hSw); go_simp; try (with_reducible rfl)); (try simp only [Act.put, List.setIfInBounds_toArray, List.set_cons_zero, List.set_cons_succ]))
    refine Ord.aloneM rfl rfl (fun K hK => ?_)
    go_simp
    refine (law_small _ _ iX).mono ?_
    rintro e w9 ⟨rfl, rfl⟩
    go_wp2_with fail
    refine hK.out _ _ (hS0) (fun _ => ?_)
    clear hK K
    (try simp only [Act.put, List.setIfInBounds_toArray, List.set_cons_zero, List.set_cons_succ])
    refine Ord.aloneM rfl rfl (fun K hK => ?_)
    go_simp
    refine (law_small _ _ iY).mono ?_
    rintro e w9 ⟨rfl, rfl⟩
    go_wp2_with fail
    refine hK.out _ _ (hS0) (fun _ => ?_)
    clear hK K
    (try simp only [Act.put, List.setIfInBounds_toArray, List.set_cons_zero, List.set_cons_succ])
    refine Ord.aloneM rfl rfl (fun K hK => ?_)
    go_simp
    refine (law_small _ _ iW).mono ?_
    rintro e w9 ⟨rfl, rfl⟩
    go_wp2_with fail
    refine hK.out _ _ (hS0) (fun _ => ?_)
    clear hK K
    (try simp only [Act.put, List.setIfInBounds_toArray, List.set_cons_zero, List.set_cons_succ])
    refine Ord.aloneM rfl rfl (fun K hK => ?_)
    go_simp
    refine (law_small _ _ iH).mono ?_
    rintro e w9 ⟨rfl, rfl⟩
    go_wp2_with fail
    refine hK.out _ _ (hS0) (fun _ => ?_)
    clear hK K
    (try simp only [Act.put, List.setIfInBounds_toArray, List.set_cons_zero, List.set_cons_succ])
    (refine Ord.takeM (v := ?_) (Or.inl ⟨rfl, ?_⟩) ?_; rotate_left; (intro w hSw; (try dsimp only at hSw); go_simp; try (with_reducible rfl)); (try simp only [Act.put, List.setIfInBounds_toArray, List.set_cons_zero, List.set_cons_succ]))
    refine Ord.lastM rfl rfl (fun K hK => ?_)
    refine wp_store_row 59 _ _ rfl w.heap.size (rect4 (lit24 X) (lit24 Y) (lit24 W) (lit24 H)) rfl rfl 59 _ hR.drew rfl info_rect (rect_one _ _ _ _) ?_
    intro w3 hR3 hC
    have hfin := And.intro hR3 (And.intro (hB.drew.trans (hC.below (Nat.le_refl _))) (And.intro (own_keep (own_drew ho) (fun g hg _ => hC.other g (by have := (ho.lt g hg).1; omega))) (own_keep (own_drew ho') (fun g hg _ => hC.other g (by have := (ho'.lt g hg).1; omega)))))
    (try simp only [Act.put, List.setIfInBounds_toArray, List.set_cons_zero, List.set_cons_succ])
    refine hK.out _ _ ?_
    clear hK K
    refine Ord.doneM (NoPanic.normal ?_)
    clear hS
    go_wp2_with fail
    go_meet
    exact hfin
  case rest =>
  obtain ⟨hR, hB, ho, ho'⟩ := hcut
  obtain ⟨A1, c1, rfl, hc1, hP⟩ := own_pcs ho
  obtain ⟨A2, c2, rfl, hc2, hQ⟩ := own_pcs ho'
  clear ho ho' hR0
  generalize lit24 X = X at *
  generalize lit24 Y = Y at *
  generalize lit24 W = W at *
  generalize lit24 H = H at *
  go_wp2_with fail
  refine (break_n P _ A1 c1 r 0 _ rfl (by omega) hc1 hP).mono ?_
  rintro e w3 ⟨v, rfl, hoa, hb⟩
  replace hP := (hP.below hb).more hb.size
  replace hQ := (hQ.below hb).more hb.size
  replace hR := hR.below hb hR.lt
  replace hB := hB.trans (hb.mono hB.size)
  clear hb
  obtain ⟨A3, c3, rfl, hc3, hL⟩ := own_lns hoa
  clear hoa
  have HG : Hid (∀ k, k < (lns r 0 P).length → (lns r 0 P)[k]? = some (first r 0 P (pos r P k)) ∧ pos r P k < P.length) := hid (fun k h => lns_get r 0 P h)
  have hn80 := lns_length r 0 P
  generalize lns r 0 P = La at *
  go_wp2_with fail
  go_loopg [12] La.length (fun g s wr => ∃ k : Nat, g = La.length - k ∧ k ≤ La.length ∧ s = .int .i64 k ∧ (Blk wr w.heap.size 59 (rect4 X Y W H) ∧ Below w.heap.size w wr ∧ Pcs wr wr.heap.size A1 P ∧ Pcs wr wr.heap.size A2 P ∧ Lns wr wr.heap.size A3 La))
  case atStart => exact ⟨0, rfl, Nat.zero_le _, rfl, hR, hB, hP, hQ, hL⟩
  case round =>
    clear hR hB hP hQ hL
    obtain ⟨k, rfl, hk, rfl, hI⟩ := hrel
    by_cases hlt : k < La.length
    · obtain ⟨hk1, hk2⟩ := HG.out k hlt
      have hT1 := stop_gt r P hk2
      have hT2 := stop_le r P (Nat.le_of_lt hk2)
      obtain ⟨x, hxx⟩ : ∃ x, first r 0 P (pos r P k) = x := ⟨_, rfl⟩
      have hx0 : x.from_ = (pos r P k : Nat) := by rw [← hxx]; rfl
      have hx1 : x.to = (stop r P (pos r P k) : Nat) := by rw [← hxx]; rfl
      rw [hxx] at hk1
      clear hxx
      generalize stop r P (pos r P k) = T at *
      generalize pos r P k = i at *
      obtain ⟨x0, x1, wd, ht⟩ := x
      simp only at hx0 hx1
      subst hx0 hx1
      obtain ⟨b3, o3, x', rfl, -, -, -⟩ := hI.2.2.2.2.at_ hlt
      clear x'
      have HK := hid hk1
      clear hk1
      have hS : ∀ Z, (Blk Z w.heap.size 59 (rect4 X Y W H) ∧ Below w.heap.size w Z ∧ Pcs Z Z.heap.size A1 P ∧ Pcs Z Z.heap.size A2 P ∧ Lns Z Z.heap.size (some ⟨b3, o3, none⟩) La) → (fun Z => (Blk Z w.heap.size 59 (rect4 X Y W H) ∧ Below w.heap.size w Z ∧ Pcs Z Z.heap.size A1 P ∧ Pcs Z Z.heap.size A2 P ∧ Lns Z Z.heap.size (some ⟨b3, o3, none⟩) La) ∧ Z.rangeAt w.heap.size 0 (rect4 X Y W H).toList ∧ Z.rangeAt b3 (o3 + k * 4) (Ln.arr ⟨i, T, wd, ht⟩).toList) Z := fun Z h => ⟨h, h.1.range, lns_range h.2.2.2.2 HK.out⟩
      go_wp2_with fail
      refine wp_region_noPanic ?_
      refine Ord.region_ord (S := fun Z => (Blk Z w.heap.size 59 (rect4 X Y W H) ∧ Below w.heap.size w Z ∧ Pcs Z Z.heap.size A1 P ∧ Pcs Z Z.heap.size A2 P ∧ Lns Z Z.heap.size (some ⟨b3, o3, none⟩) La) ∧ Z.rangeAt w.heap.size 0 (rect4 X Y W H).toList ∧ Z.rangeAt b3 (o3 + k * 4) (Ln.arr ⟨i, T, wd, ht⟩).toList) [(0, true), (1, true), (2, true), (3, true), (4, true), (5, true), (6, true), (7, false), (8, true)] (by kernel_rfl) (by kernel_rfl) (by kernel_rfl) (by decide) (fun _ _ _ _ _ h => h) (hS _ ⟨hI.1.drew, hI.2.1.drew, hI.2.2.1, hI.2.2.2.1, hI.2.2.2.2⟩) (fun hS0 => ?_)
      simp only [Ord.lay, List.getElem?_cons_zero, List.getElem?_cons_succ]
      (refine Ord.take (v := ?_) (Or.inl ⟨rfl, ?_⟩) ?_; rotate_left; (intro w hSw; (try dsimp only at hSw); go_simp; try (with_reducible rfl)); (try simp only [Act.put, List.setIfInBounds_toArray, List.set_cons_zero, List.set_cons_succ]))
      (refine Ord.take (v := ?_) (Or.inl ⟨rfl, ?_⟩) ?_; rotate_left; (intro w hSw; (try dsimp only at hSw); go_simp; try (with_reducible rfl)); (try simp only [Act.put, List.setIfInBounds_toArray, List.set_cons_zero, List.set_cons_succ]))
      (refine Ord.take (v := ?_) (Or.inl ⟨rfl, ?_⟩) ?_; rotate_left; (intro w hSw; (try dsimp only at hSw); go_simp; try (with_reducible rfl)); (try simp only [Act.put, List.setIfInBounds_toArray, List.set_cons_zero, List.set_cons_succ]))
      (refine Ord.take (v := ?_) (Or.inl ⟨rfl, ?_⟩) ?_; rotate_left; (intro w hSw; (try dsimp only at hSw); go_simp; try (with_reducible rfl)); (try simp only [Act.put, List.setIfInBounds_toArray, List.set_cons_zero, List.set_cons_succ]))
      (refine Ord.take (yieldsIf_load_mid rfl _ _ rfl b3 (o3 + k * 4) rfl _ _ (fun w' h => h.2.2) Try.underlying43 rfl (info_line_list _)) ?_; (try simp only [Act.put, List.setIfInBounds_toArray, List.set_cons_zero, List.set_cons_succ]))
      (refine Ord.take (yieldsIf_load_mid rfl _ _ rfl w.heap.size 0 rfl _ _ (fun w' h => h.2.1) Try.underlying59 rfl (info_rect_list _ _ _ _)) ?_; (try simp only [Act.put, List.setIfInBounds_toArray, List.set_cons_zero, List.set_cons_succ]))
      (refine Ord.take (v := ?_) (Or.inl ⟨rfl, ?_⟩) ?_; rotate_left; (intro w hSw; (try dsimp only at hSw); go_simp; try (with_reducible rfl)); (try simp only [Act.put, List.setIfInBounds_toArray, List.set_cons_zero, List.set_cons_succ]))
      refine Ord.alone rfl (fun K hK => ?_)
      go_simp
      refine (set_n P _ A1 c1 i T wd ht X Y W H align _ rfl (by omega) (by omega) (by omega) hS0.1.2.2.1).mono ?_
      rintro e w9 ⟨v, rfl, hor, hb9⟩
      have hS1 := hS w9 ⟨hS0.1.1.below hb9 hS0.1.1.lt, hS0.1.2.1.trans (hb9.mono hS0.1.2.1.size), (hS0.1.2.2.1.below hb9).more hb9.size, (hS0.1.2.2.2.1.below hb9).more hb9.size, (hS0.1.2.2.2.2.below hb9).more hb9.size⟩
      go_wp2_with fail
      refine hK.out _ _ (hS1) (fun _ => ?_)
      clear hK K
      (try simp only [Act.put, List.setIfInBounds_toArray, List.set_cons_zero, List.set_cons_succ])
      (refine Ord.take (v := ?_) (Or.inl ⟨rfl, ?_⟩) ?_; rotate_left; (intro w hSw; (try dsimp only at hSw); go_simp; try (with_reducible rfl)); (try simp only [Act.put, List.setIfInBounds_toArray, List.set_cons_zero, List.set_cons_succ]))
      refine Ord.done (NoPanic.normal ?_)
      obtain ⟨⟨hI1, hI2, hI3, hI4, hI5⟩, hr1⟩ := hS1
      clear hS0 hI
      obtain ⟨A5, c5, rfl, hc5, hRa⟩ := own_rns hor
      clear hor hr1
      have hlr : (runsOf P i T wd ht X Y W align).length ≤ 80 := by
        have := runs_length (add Y ht) (cut P (wideA P i T) (wideB P i T)) (wideA P i T) (begin_ X W wd align)
        have h4 := wideB_le P i T
        rw [cut_length P (by omega)] at this
        unfold runsOf
        omega
      have hI6 : (fun Z => (Blk Z w.heap.size 59 (rect4 X Y W H) ∧ Below w.heap.size w Z ∧ Pcs Z Z.heap.size A1 P ∧ Pcs Z Z.heap.size A2 P ∧ Lns Z Z.heap.size (some ⟨b3, o3, none⟩) La) ∧ Rns Z Z.heap.size A5 (runsOf P i T wd ht X Y W align)) w9 := ⟨⟨hI1, hI2, hI3, hI4, hI5⟩, hRa⟩
      clear hI1 hI2 hI3 hI4 hI5 hRa
      have hT : ∀ Z, (fun Z => (Blk Z w.heap.size 59 (rect4 X Y W H) ∧ Below w.heap.size w Z ∧ Pcs Z Z.heap.size A1 P ∧ Pcs Z Z.heap.size A2 P ∧ Lns Z Z.heap.size (some ⟨b3, o3, none⟩) La) ∧ Rns Z Z.heap.size A5 (runsOf P i T wd ht X Y W align)) Z → (fun Z => ((Blk Z w.heap.size 59 (rect4 X Y W H) ∧ Below w.heap.size w Z ∧ Pcs Z Z.heap.size A1 P ∧ Pcs Z Z.heap.size A2 P ∧ Lns Z Z.heap.size (some ⟨b3, o3, none⟩) La) ∧ Rns Z Z.heap.size A5 (runsOf P i T wd ht X Y W align)) ∧ Z.rangeAt w.heap.size 0 (rect4 X Y W H).toList ∧ Z.cell? ⟨b3, o3 + k * 4, none⟩ = some (.int .i64 i) ∧ Z.cell? ⟨b3, o3 + k * 4 + 1, none⟩ = some (.int .i64 T) ∧ Z.cell? ⟨b3, o3 + k * 4 + 2, none⟩ = some (.int .i64 wd) ∧ Z.cell? ⟨b3, o3 + k * 4 + 3, none⟩ = some (.int .i64 ht)) Z := fun Z h => ⟨h, h.1.1.range, (lines_at h.1.2.2.2.2 HK.out).1, (lines_at h.1.2.2.2.2 HK.out).2.1, (lines_at h.1.2.2.2.2 HK.out).2.2.1, (lines_at h.1.2.2.2.2 HK.out).2.2.2⟩
      have bl : Pc := ⟨0, 0, 0, 0, false⟩
      go_upto_region 9 with fail
      refine wp_region_noPanic ?_
      refine Ord.region_ord (S := fun Z => ((Blk Z w.heap.size 59 (rect4 X Y W H) ∧ Below w.heap.size w Z ∧ Pcs Z Z.heap.size A1 P ∧ Pcs Z Z.heap.size A2 P ∧ Lns Z Z.heap.size (some ⟨b3, o3, none⟩) La) ∧ Rns Z Z.heap.size A5 (runsOf P i T wd ht X Y W align)) ∧ Z.rangeAt w.heap.size 0 (rect4 X Y W H).toList ∧ Z.cell? ⟨b3, o3 + k * 4, none⟩ = some (.int .i64 i) ∧ Z.cell? ⟨b3, o3 + k * 4 + 1, none⟩ = some (.int .i64 T) ∧ Z.cell? ⟨b3, o3 + k * 4 + 2, none⟩ = some (.int .i64 wd) ∧ Z.cell? ⟨b3, o3 + k * 4 + 3, none⟩ = some (.int .i64 ht)) [(0, true), (1, true), (2, true), (3, true), (4, true), (5, true), (6, true), (7, true), (8, true), (9, true), (10, true), (11, true), (12, true), (13, true), (14, true), (15, true), (16, true), (17, true), (18, true), (19, true), (20, true), (21, true), (22, true), (23, true), (24, false), (25, true)] (by kernel_rfl) (by kernel_rfl) (by kernel_rfl) (by decide) (fun _ _ _ _ _ h => h) (hT _ ⟨⟨hI6.1.1.drew, hI6.1.2.1.drew, hI6.1.2.2.1, hI6.1.2.2.2.1, hI6.1.2.2.2.2⟩, hI6.2⟩) (fun hS0 => ?_)
      simp only [Ord.lay, List.getElem?_cons_zero, List.getElem?_cons_succ]
      (refine Ord.take (v := ?_) (Or.inl ⟨rfl, ?_⟩) ?_; rotate_left; (intro w hSw; (try dsimp only at hSw); go_simp; try (with_reducible rfl)); (try simp only [Act.put, List.setIfInBounds_toArray, List.set_cons_zero, List.set_cons_succ]))
      (refine Ord.take (v := ?_) (Or.inl ⟨rfl, ?_⟩) ?_; rotate_left; (intro w hSw; (try dsimp only at hSw); go_simp; try (with_reducible rfl)); (try simp only [Act.put, List.setIfInBounds_toArray, List.set_cons_zero, List.set_cons_succ]))
      (refine Ord.take (v := ?_) (Or.inl ⟨rfl, ?_⟩) ?_; rotate_left; (intro w hSw; (try dsimp only at hSw); go_simp; try (with_reducible rfl)); (try simp only [Act.put, List.setIfInBounds_toArray, List.set_cons_zero, List.set_cons_succ]))
      (refine Ord.take (v := ?_) (Or.inl ⟨rfl, ?_⟩) ?_; rotate_left; (intro w hSw; (try dsimp only at hSw); go_simp; try (with_reducible rfl)); (try simp only [Act.put, List.setIfInBounds_toArray, List.set_cons_zero, List.set_cons_succ]))
      (refine Ord.take (v := ?_) (Or.inl ⟨rfl, ?_⟩) ?_; rotate_left; (intro w hSw; (try dsimp only at hSw); go_simp; try (with_reducible rfl)); (try simp only [Act.put, List.setIfInBounds_toArray, List.set_cons_zero, List.set_cons_succ]))
      (refine Ord.take (v := ?_) (Or.inl ⟨rfl, ?_⟩) ?_; rotate_left; (intro w hSw; (try dsimp only at hSw); go_simp; try (with_reducible rfl)); (try simp only [Act.put, List.setIfInBounds_toArray, List.set_cons_zero, List.set_cons_succ]))
      (refine Ord.take (v := ?_) (Or.inl ⟨rfl, ?_⟩) ?_; rotate_left; (intro w hSw; (try dsimp only at hSw); go_simp; try (with_reducible rfl)); (try simp only [Act.put, List.setIfInBounds_toArray, List.set_cons_zero, List.set_cons_succ]))
      (refine Ord.take (v := ?_) (Or.inl ⟨rfl, ?_⟩) ?_; rotate_left; (intro w hSw; (try dsimp only at hSw); go_simp; try (with_reducible rfl)); (try simp only [Act.put, List.setIfInBounds_toArray, List.set_cons_zero, List.set_cons_succ]))
      (refine Ord.take (v := ?_) (Or.inl ⟨rfl, ?_⟩) ?_; rotate_left; (intro w hSw; (try dsimp only at hSw); go_simp; try (with_reducible rfl)); (try simp only [Act.put, List.setIfInBounds_toArray, List.set_cons_zero, List.set_cons_succ]))
      (refine Ord.take (v := ?_) (Or.inl ⟨rfl, ?_⟩) ?_; rotate_left; (intro w hSw; (try dsimp only at hSw); go_simp; try (with_reducible rfl)); (try simp only [Act.put, List.setIfInBounds_toArray, List.set_cons_zero, List.set_cons_succ]))
      (refine Ord.take (v := ?_) (Or.inl ⟨rfl, ?_⟩) ?_; rotate_left; (intro w hSw; (try dsimp only at hSw); go_simp; try (with_reducible rfl)); (try simp only [Act.put, List.setIfInBounds_toArray, List.set_cons_zero, List.set_cons_succ]))
      (refine Ord.take (v := ?_) (Or.inl ⟨rfl, ?_⟩) ?_; rotate_left; (intro w hSw; (try dsimp only at hSw); go_simp; try (with_reducible rfl)); (try simp only [Act.put, List.setIfInBounds_toArray, List.set_cons_zero, List.set_cons_succ]))
      (refine Ord.take (v := ?_) (Or.inl ⟨rfl, ?_⟩) ?_; rotate_left; (intro w hSw; (try dsimp only at hSw); go_simp; try (with_reducible rfl)); (try simp only [Act.put, List.setIfInBounds_toArray, List.set_cons_zero, List.set_cons_succ]))
      (refine Ord.take (v := ?_) (Or.inl ⟨rfl, ?_⟩) ?_; rotate_left; (intro w hSw; (try dsimp only at hSw); go_simp; try (with_reducible rfl)); (try simp only [Act.put, List.setIfInBounds_toArray, List.set_cons_zero, List.set_cons_succ]))
      (refine Ord.take (v := ?_) (Or.inl ⟨rfl, ?_⟩) ?_; rotate_left; (intro w hSw; (try dsimp only at hSw); go_simp; try (with_reducible rfl)); (try simp only [Act.put, List.setIfInBounds_toArray, List.set_cons_zero, List.set_cons_succ]))
      (refine Ord.take (v := ?_) (Or.inl ⟨rfl, ?_⟩) ?_; rotate_left; (intro w hSw; (try dsimp only at hSw); go_simp; try (with_reducible rfl)); (try simp only [Act.put, List.setIfInBounds_toArray, List.set_cons_zero, List.set_cons_succ]))
      (refine Ord.take (v := ?_) (Or.inl ⟨rfl, ?_⟩) ?_; rotate_left; (intro w hSw; (try dsimp only at hSw); go_simp; try (with_reducible rfl)); (try simp only [Act.put, List.setIfInBounds_toArray, List.set_cons_zero, List.set_cons_succ]))
      (refine Ord.take (v := ?_) (Or.inl ⟨rfl, ?_⟩) ?_; rotate_left; (intro w hSw; (try dsimp only at hSw); go_simp; try (with_reducible rfl)); (try simp only [Act.put, List.setIfInBounds_toArray, List.set_cons_zero, List.set_cons_succ]))
      (refine Ord.take (v := ?_) (Or.inl ⟨rfl, ?_⟩) ?_; rotate_left; (intro w hSw; (try dsimp only at hSw); go_simp; try (with_reducible rfl)); (try simp only [Act.put, List.setIfInBounds_toArray, List.set_cons_zero, List.set_cons_succ]))
      (refine Ord.take (v := ?_) (Or.inl ⟨rfl, ?_⟩) ?_; rotate_left; (intro w hSw; (try dsimp only at hSw); go_simp; try (with_reducible rfl)); (try simp only [Act.put, List.setIfInBounds_toArray, List.set_cons_zero, List.set_cons_succ]))
      (refine Ord.take (v := ?_) (Or.inl ⟨rfl, ?_⟩) ?_; rotate_left; (intro w hSw; (try dsimp only at hSw); go_simp; try (with_reducible rfl)); (try simp only [Act.put, List.setIfInBounds_toArray, List.set_cons_zero, List.set_cons_succ]))
      (refine Ord.take (v := ?_) (Or.inl ⟨rfl, ?_⟩) ?_; rotate_left; (intro w hSw; (try dsimp only at hSw); go_simp; try (with_reducible rfl)); (try simp only [Act.put, List.setIfInBounds_toArray, List.set_cons_zero, List.set_cons_succ]))
      (refine Ord.take (yieldsIf_load_mid rfl _ _ rfl w.heap.size 0 rfl _ _ (fun w' h => h.2.1) Try.underlying59 rfl (info_rect_list _ _ _ _)) ?_; (try simp only [Act.put, List.setIfInBounds_toArray, List.set_cons_zero, List.set_cons_succ]))
      (refine Ord.take (v := ?_) (Or.inl ⟨rfl, ?_⟩) ?_; rotate_left; (intro w hSw; (try dsimp only at hSw); go_simp; try (with_reducible rfl)); (try simp only [Act.put, List.setIfInBounds_toArray, List.set_cons_zero, List.set_cons_succ]))
      refine Ord.alone rfl (fun K hK => ?_)
      go_simp
      refine (ref_set_n P _ A2 c2 i T wd ht X Y W H align _ rfl (by omega) (by omega) (by omega) hS0.1.1.2.2.2.1).mono ?_
      rintro e w10 ⟨v2, rfl, hor, hb9⟩
      have hS2 := hT w10 ⟨⟨hS0.1.1.1.below hb9 hS0.1.1.1.lt, hS0.1.1.2.1.trans (hb9.mono hS0.1.1.2.1.size), (hS0.1.1.2.2.1.below hb9).more hb9.size, (hS0.1.1.2.2.2.1.below hb9).more hb9.size, (hS0.1.1.2.2.2.2.below hb9).more hb9.size⟩, (hS0.1.2.below hb9).more hb9.size⟩
      go_wp2_with fail
      refine hK.out _ _ (hS2) (fun _ => ?_)
      clear hK K
      (try simp only [Act.put, List.setIfInBounds_toArray, List.set_cons_zero, List.set_cons_succ])
      (refine Ord.take (v := ?_) (Or.inl ⟨rfl, ?_⟩) ?_; rotate_left; (intro w hSw; (try dsimp only at hSw); go_simp; try (with_reducible rfl)); (try simp only [Act.put, List.setIfInBounds_toArray, List.set_cons_zero, List.set_cons_succ]))
      refine Ord.done (NoPanic.normal ?_)
      obtain ⟨⟨hI7, hRa⟩, -⟩ := hS2
      obtain ⟨A6, c6, rfl, hc6, hRb⟩ := own_rns hor
      clear hor hS0 hI6 hT hS
      generalize runsOf P i T wd ht X Y W align = RR at *
      go_wp2_with fail
      go_loopg [15] RR.length (fun g s wq => ∃ q : Nat, g = RR.length - q ∧ q ≤ RR.length ∧ s = .int .i64 q ∧ Drawn w10 wq)
      case atStart => exact ⟨0, rfl, Nat.zero_le _, rfl, .refl _⟩
      case round =>
        obtain ⟨q, rfl, hq, rfl, HD⟩ := hrel
        by_cases hlt2 : q < RR.length
        · obtain ⟨b5, o5, y, rfl, -, hy, -⟩ := hRa.at_ hlt2
          obtain ⟨b6, o6, y', rfl, -, hy', -⟩ := hRb.at_ hlt2
          obtain rfl : y = y' := Option.some.inj (hy.out.symm.trans hy'.out)
          obtain ⟨u0, u1, u2, u3, u4⟩ := runs_at (hRa.drawn HD) hy.out
          obtain ⟨v0, v1, v2, v3, v4⟩ := runs_at (hRb.drawn HD) hy.out
          obtain ⟨y0, y1, y2, y3, y4⟩ := y
          simp only at u0 u1 u2 u3 u4 v0 v1 v2 v3 v4
          go_wp2_with fail
          go_quiet (fail)
          go_wp2_with fail
          go_roundg (RR.length - (q + 1))
          case rel => exact ⟨q + 1, rfl, by omega, by go_num, HD.more _⟩
          case measure => omega
        · obtain rfl : q = RR.length := by omega
          have hh : wr.heap.size = w10.heap.size := by rw [HD.heap]
          have hI8 : Blk wr w.heap.size 59 (rect4 X Y W H) ∧ Below w.heap.size w wr ∧ Pcs wr wr.heap.size A1 P ∧ Pcs wr wr.heap.size A2 P ∧ Lns wr wr.heap.size (some ⟨b3, o3, none⟩) La := by
            rw [hh]
            exact ⟨hI7.1.drawn HD, hI7.2.1.trans (HD.below _), hI7.2.2.1.drawn HD, hI7.2.2.2.1.drawn HD, hI7.2.2.2.2.drawn HD⟩
          clear hh
          go_wp2_with fail
          go_roundg (La.length - (k + 1))
          case rel => exact ⟨k + 1, rfl, by omega, by go_num, hI8⟩
          case measure => omega
    · obtain rfl : k = La.length := by omega
      obtain ⟨hR, hB, hP, hQ, hL⟩ := hI
      go_wp2_with fail
      refine (known15 _).mono ?_
      rintro e w9 ⟨rfl, hb9⟩
      go_wp2_with fail
      go_ret
      exact ⟨rfl, hB.trans (hb9.mono hB.size)⟩
end Go.Proofs.Ytebolanengnpfaa
