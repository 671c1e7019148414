/-
  The walk of LinesApart.
-/
import Derived.Test.YtebolanengnpfaaWLinesSet
import Derived.Test.YtebolanengnpfaaLinesE
import Derived.Test.YtebolanengnpfaaWLinesRoom
namespace Go.Proofs.Ytebolanengnpfaa
open Go.RowKit Num Mem Opn
set_option linter.unusedVariables false
set_option linter.unusedSimpArgs false
theorem pcs_bare (l : List Bt) (i : Nat) : Bare (pcs i l) := by
  intro p hp h3
  obtain ⟨k, b, rfl⟩ := pcs_mem l hp
  have h : kindOf b.kind = 3 := h3
  simp [pcOf, h]
theorem pcs_high (l : List Bt) (i : Nat) : High24 (pcs i l) := by
  intro p hp
  obtain ⟨k, b, rfl⟩ := pcs_mem l hp
  exact ⟨lit24_lo b.height, lit24_hi b.height⟩
theorem cellD {w Z : World} (h : Drawn w Z) (a : Addr) : Z.cell? a = w.cell? a := by simp [World.cell?, h.heap]
set_option maxRecDepth 100000 in
set_option maxHeartbeats 40000000 in
theorem walk_LinesApart (A : Option Addr) (l : List Bt) (c : Nat) (X Y W H align : Int) (w : World) (hr : RowB w A l c) (iX : I64 X) (iY : I64 Y) (iW : I64 W) (iH : I64 H) (ia : I64 align) :
    Calls Try.prog 9 #[.slice A l.length c, .agg #[.int .i64 X, .int .i64 Y, .int .i64 W, .int .i64 H], .int .i64 align] w fun e w' => e = .returned (.bool true) ∧ Below w.heap.size w w' := by
  obtain ⟨hA, hlc, hcp, hx⟩ := hr
  have h80 : (pcs 0 (l.take 80)).length ≤ 80 := by rw [pcs_length]; simp; omega
  have HWW := hid (pcs_wide (l.take 80) 0)
  have HHH := hid (pcs_high (l.take 80) 0)
  have HBB := hid (pcs_bare (l.take 80) 0)
  have hR : Blk (w.alloc (.cells (rect4 X Y W H) 59)) w.heap.size 59 (rect4 X Y W H) := Blk.new _ _ _
  have hB : Below w.heap.size w (w.alloc (.cells (rect4 X Y W H) 59)) := by go_grown
  show Calls Try.prog 9 #[.slice A l.length c, .agg (rect4 X Y W H), .int .i64 align] w _
  go_enter Try.func9, Try.ntmps9
  go_upto_region 1 with fail
  refine wp_forget (fun Z => Blk Z w.heap.size 59 (rect4 X Y W H) ∧ Below w.heap.size w Z) ⟨hR, hB⟩ ?_
  clear hR hB
  rintro w0 ⟨hR, hB⟩
  have hR0 := hR
  go_wp2_with fail
  refine (some_n l _ A c _ rfl ((hA.below hB).more hB.size) (by omega) hx).mono ?_
  rintro e w1 ⟨v, v', rfl, hb, ho, ho'⟩
  replace hR := hR.below hb hR.lt
  replace hB := hB.trans (hb.mono hB.size)
  clear hb
  generalize pcs 0 (l.take 80) = P at *
  clear hA hx ho'
  have hgt : w.heap.size < w0.heap.size := hR0.lt
  go_upto_region 2 with fail
  go_cut [] (fun wx => Blk wx w.heap.size 59 (rect4 (lit24 X) (lit24 Y) (lit24 W) 0) ∧ Below w.heap.size w wx ∧ wx.ownsRow w0.heap.size 36 57 v P.length (P.flatMap Pc.cells))
  case first =>
    have hS : ∀ Z, (Blk Z w.heap.size 59 (rect4 X Y W H)) → (fun Z => Blk Z w.heap.size 59 (rect4 X Y W H) ∧ Z.cell? ⟨w.heap.size, 0, none⟩ = some (.int .i64 X) ∧ Z.cell? ⟨w.heap.size, 1, none⟩ = some (.int .i64 Y) ∧ Z.cell? ⟨w.heap.size, 2, none⟩ = some (.int .i64 W)) Z := fun Z h => ⟨h, h.cell 0, h.cell 1, h.cell 2⟩
    refine wp_region_noPanic ?_
    refine Ord.region_M (S := fun Z => Blk Z w.heap.size 59 (rect4 X Y W H) ∧ Z.cell? ⟨w.heap.size, 0, none⟩ = some (.int .i64 X) ∧ Z.cell? ⟨w.heap.size, 1, none⟩ = some (.int .i64 Y) ∧ Z.cell? ⟨w.heap.size, 2, none⟩ = some (.int .i64 W)) 10 (.one 0 true (.one 1 true (.one 3 true (.one 4 true (.one 6 true (.one 7 true (.one 2 false (.one 5 false (.one 8 false (.one 9 true (.one 10 false .nil))))))))))) (by kernel_rfl) (by kernel_rfl) (by kernel_rfl) (by kernel_rfl) (by decide) (fun _ _ _ _ _ h => h) (hS _ hR.drew) (fun hS0 => ?_)
    simp only [Ord.layT, List.getElem?_cons_zero, List.getElem?_cons_succ]
    (refine Ord.takeM (v := ?_) (Or.inl ⟨rfl, ?_⟩) ?_; rotate_left; (intro w hSw; (try dsimp only at hSw); go_simp; try (with_reducible rfl)); (try simp only [Act.put, List.setIfInBounds_toArray, List.set_cons_zero, List.set_cons_succ]))
    (refine Ord.takeM (v := ?_) (Or.inl ⟨rfl, ?_⟩) ?_; rotate_left; (intro w hSw; (try dsimp only at hSw); go_simp; try (with_reducible rfl)); (try simp only [Act.put, List.setIfInBounds_toArray, List.set_cons_zero, List.set_cons_succ]))
    (refine Ord.takeM (v := ?_) (Or.inl ⟨rfl, ?_⟩) ?_; rotate_left; (intro w hSw; (try dsimp only at hSw); go_simp; try (with_reducible rfl)); (try simp only [Act.put, List.setIfInBounds_toArray, List.set_cons_zero, List.set_cons_succ]))
    (refine Ord.takeM (v := ?_) (Or.inl ⟨rfl, ?_⟩) ?_; rotate_left; (intro w hSw; (try dsimp only at hSw); go_simp; try (with_reducible rfl)); (try simp only [Act.put, List.setIfInBounds_toArray, List.set_cons_zero, List.set_cons_succ]))
    (refine Ord.takeM (v := ?_) (Or.inl ⟨rfl, ?_⟩) ?_; rotate_left; (intro w hSw; (try dsimp only at hSw); go_simp; try (with_reducible rfl)); (try simp only [Act.put, List.setIfInBounds_toArray, List.set_cons_zero, List.set_cons_succ]))
    (refine Ord.takeM (v := ?_) (Or.inl ⟨rfl, ?_⟩) ?_; rotate_left; (intro w hSw; (try dsimp only at hSw); go_simp; try (with_reducible rfl)); (try simp only [Act.put, List.setIfInBounds_toArray, List.set_cons_zero, List.set_cons_succ]))
    refine Ord.aloneM rfl rfl (fun K hK => ?_)
    go_simp
    refine (law_small _ _ iX).mono ?_
    rintro e w9 ⟨rfl, rfl⟩
    go_wp2_with fail
    refine hK.out _ _ (hS0) (fun _ => ?_)
    clear hK K
    (try simp only [Act.put, List.setIfInBounds_toArray, List.set_cons_zero, List.set_cons_succ])
    refine Ord.aloneM rfl rfl (fun K hK => ?_)
    go_simp
    refine (law_small _ _ iY).mono ?_
    rintro e w9 ⟨rfl, rfl⟩
    go_wp2_with fail
    refine hK.out _ _ (hS0) (fun _ => ?_)
    clear hK K
    (try simp only [Act.put, List.setIfInBounds_toArray, List.set_cons_zero, List.set_cons_succ])
    refine Ord.aloneM rfl rfl (fun K hK => ?_)
    go_simp
    refine (law_small _ _ iW).mono ?_
    rintro e w9 ⟨rfl, rfl⟩
    go_wp2_with fail
    refine hK.out _ _ (hS0) (fun _ => ?_)
    clear hK K
    (try simp only [Act.put, List.setIfInBounds_toArray, List.set_cons_zero, List.set_cons_succ])
    (refine Ord.takeM (v := ?_) (Or.inl ⟨rfl, ?_⟩) ?_; rotate_left; (intro w hSw; (try dsimp only at hSw); go_simp; try (with_reducible rfl)); (try simp only [Act.put, List.setIfInBounds_toArray, List.set_cons_zero, List.set_cons_succ]))
    refine Ord.lastM rfl rfl (fun K hK => ?_)
    refine wp_store_row 59 _ _ rfl w.heap.size (rect4 (lit24 X) (lit24 Y) (lit24 W) 0) rfl rfl 59 _ hR.drew rfl info_rect (rect_one _ _ _ _) ?_
    intro w3 hR3 hC
    have hfin := And.intro hR3 (And.intro (hB.drew.trans (hC.below (Nat.le_refl _))) (own_keep (own_drew ho) (fun g hg _ => hC.other g (by have := (ho.lt g hg).1; omega))))
    (try simp only [Act.put, List.setIfInBounds_toArray, List.set_cons_zero, List.set_cons_succ])
    refine hK.out _ _ ?_
    clear hK K
    refine Ord.doneM (NoPanic.normal ?_)
    clear hS
    go_wp2_with fail
    go_meet
    exact hfin
  case rest =>
  obtain ⟨hR, hB, ho⟩ := hcut
  obtain ⟨A1, c1, rfl, hc1, hP⟩ := own_pcs ho
  clear ho hR0
  have hX1 := lit24_lo X
  have hX2 := lit24_hi X
  have hY1 := lit24_lo Y
  have hY2 := lit24_hi Y
  have hW1 := lit24_lo W
  have hW2 := lit24_hi W
  generalize lit24 X = X at *
  generalize lit24 Y = Y at *
  generalize lit24 W = W at *
  have r2 : wc.cell? ⟨w.heap.size, 2, none⟩ = some (.int .i64 W) := hR.cell 2
  go_wp2_with fail
  refine (break_n P _ A1 c1 W 0 _ rfl (by omega) hc1 hP).mono ?_
  rintro e w3 ⟨v, rfl, hoa, hb⟩
  replace hP := (hP.below hb).more hb.size
  replace hR := hR.below hb hR.lt
  replace hB := hB.trans (hb.mono hB.size)
  clear hb r2
  obtain ⟨A3, c3, rfl, hc3, hL⟩ := own_lns hoa
  clear hoa
  have HG : Hid (∀ k, k < (lns W 0 P).length → (lns W 0 P)[k]? = some (first W 0 P (pos W P k)) ∧ pos W P k < P.length) := hid (fun k h => lns_get W 0 P h)
  have hn80 := lns_length W 0 P
  generalize lns W 0 P = La at *
  go_wp2_with fail
  go_loopg [10] La.length (fun g s wr => ∃ k : Nat, g = La.length - k ∧ k ≤ La.length ∧ s = .int .i64 k ∧ (Blk wr w.heap.size 59 (rect4 X Y W 0) ∧ Below w.heap.size w wr ∧ Pcs wr wr.heap.size A1 P ∧ Lns wr wr.heap.size A3 La))
  case atStart => exact ⟨0, rfl, Nat.zero_le _, rfl, hR, hB, hP, hL⟩
  case round => as_aux_lemma =>
    clear hR hB hP hL
    obtain ⟨k, rfl, hk, rfl, hI⟩ := hrel
    by_cases hlt : k < La.length
    · obtain ⟨hk1, hk2⟩ := HG.out k hlt
      have hT1 := stop_gt W P hk2
      have hT2 := stop_le W P (Nat.le_of_lt hk2)
      obtain ⟨f1, f2, f3, f4, f5⟩ := first_bd (room := W) HWW.out HHH.out h80 (pos W P k)
      obtain ⟨x, hxx⟩ : ∃ x, first W 0 P (pos W P k) = x := ⟨_, rfl⟩
      have hx0 : x.from_ = (pos W P k : Nat) := by rw [← hxx]; rfl
      have hx1 : x.to = (stop W P (pos W P k) : Nat) := by rw [← hxx]; rfl
      rw [hxx] at hk1 f1 f2 f3 f4 f5
      clear hxx
      generalize stop W P (pos W P k) = T at *
      generalize pos W P k = i at *
      obtain ⟨x0, x1, wd, ht⟩ := x
      simp only at hx0 hx1 f1 f2 f3 f4 f5
      subst hx0 hx1
      have ha1 := wideA_ge P i T
      have ha3 := wideB_ge P (Nat.le_of_lt hT1) hT2
      have ha4 := wideB_le P i T
      obtain ⟨g1, g2, g3, g4⟩ := begin_bd (X := X) (W := W) (wd := wd) align ⟨hX1, hX2⟩ ⟨hW1, hW2⟩ ⟨f2, f3⟩
      have hbt : add Y ht = Y + ht := add_small hY1 f4 (by omega)
      obtain ⟨RR, hRR⟩ : ∃ RR, runsOf P i T wd ht X Y W align = RR := ⟨_, rfl⟩
      obtain ⟨lf, hlf⟩ : ∃ lf, begin_ X W wd align = lf := ⟨_, rfl⟩
      have hRR2 : RR = runs (Y + ht) (cut P (wideA P i T) (wideB P i T)) (wideA P i T) lf := by rw [← hRR, ← hlf, ← hbt]; rfl
      rw [hlf] at g1 g2 g3 g4
      have HG3 := hid g3
      have HG4 := hid g4
      have hlr : RR.length ≤ 80 := by
        have := runs_length (Y + ht) (cut P (wideA P i T) (wideB P i T)) (wideA P i T) lf
        rw [cut_length P (by omega)] at this
        rw [hRR2]; omega
      have HRE := hid hRR
      have HWD := hid f1
      have HR := hid hRR2
      clear hRR hRR2 hlf hbt f1 g3 g4
      generalize wideA P i T = a at *
      generalize wideB P i T = z at *
      obtain ⟨b3, o3, x', rfl, -, -, -⟩ := hI.2.2.2.at_ hlt
      clear x'
      have HK := hid hk1
      clear hk1
      have hS : ∀ Z, (Blk Z w.heap.size 59 (rect4 X Y W 0) ∧ Below w.heap.size w Z ∧ Pcs Z Z.heap.size A1 P ∧ Lns Z Z.heap.size (some ⟨b3, o3, none⟩) La) → (fun Z => (Blk Z w.heap.size 59 (rect4 X Y W 0) ∧ Below w.heap.size w Z ∧ Pcs Z Z.heap.size A1 P ∧ Lns Z Z.heap.size (some ⟨b3, o3, none⟩) La) ∧ Z.rangeAt w.heap.size 0 (rect4 X Y W 0).toList ∧ Z.rangeAt b3 (o3 + k * 4) (Ln.arr ⟨i, T, wd, ht⟩).toList) Z := fun Z h => ⟨h, h.1.range, lns_range h.2.2.2 HK.out⟩
      go_wp2_with fail
      refine wp_region_noPanic ?_
      refine Ord.region_ord (S := fun Z => (Blk Z w.heap.size 59 (rect4 X Y W 0) ∧ Below w.heap.size w Z ∧ Pcs Z Z.heap.size A1 P ∧ Lns Z Z.heap.size (some ⟨b3, o3, none⟩) La) ∧ Z.rangeAt w.heap.size 0 (rect4 X Y W 0).toList ∧ Z.rangeAt b3 (o3 + k * 4) (Ln.arr ⟨i, T, wd, ht⟩).toList) [(0, true), (1, true), (2, true), (3, true), (4, true), (5, true), (6, true), (7, false), (8, true)] (by kernel_rfl) (by kernel_rfl) (by kernel_rfl) (by decide) (fun _ _ _ _ _ h => h) (hS _ ⟨hI.1.drew, hI.2.1.drew, hI.2.2.1, hI.2.2.2⟩) (fun hS0 => ?_)
      simp only [Ord.lay, List.getElem?_cons_zero, List.getElem?_cons_succ]
      (refine Ord.take (v := ?_) (Or.inl ⟨rfl, ?_⟩) ?_; rotate_left; (intro w hSw; (try dsimp only at hSw); go_simp; try (with_reducible rfl)); (try simp only [Act.put, List.setIfInBounds_toArray, List.set_cons_zero, List.set_cons_succ]))
      (refine Ord.take (v := ?_) (Or.inl ⟨rfl, ?_⟩) ?_; rotate_left; (intro w hSw; (try dsimp only at hSw); go_simp; try (with_reducible rfl)); (try simp only [Act.put, List.setIfInBounds_toArray, List.set_cons_zero, List.set_cons_succ]))
      (refine Ord.take (v := ?_) (Or.inl ⟨rfl, ?_⟩) ?_; rotate_left; (intro w hSw; (try dsimp only at hSw); go_simp; try (with_reducible rfl)); (try simp only [Act.put, List.setIfInBounds_toArray, List.set_cons_zero, List.set_cons_succ]))
      (refine Ord.take (v := ?_) (Or.inl ⟨rfl, ?_⟩) ?_; rotate_left; (intro w hSw; (try dsimp only at hSw); go_simp; try (with_reducible rfl)); (try simp only [Act.put, List.setIfInBounds_toArray, List.set_cons_zero, List.set_cons_succ]))
      (refine Ord.take (yieldsIf_load_mid rfl _ _ rfl b3 (o3 + k * 4) rfl _ _ (fun w' h => h.2.2) Try.underlying43 rfl (info_line_list _)) ?_; (try simp only [Act.put, List.setIfInBounds_toArray, List.set_cons_zero, List.set_cons_succ]))
      (refine Ord.take (yieldsIf_load_mid rfl _ _ rfl w.heap.size 0 rfl _ _ (fun w' h => h.2.1) Try.underlying59 rfl (info_rect_list _ _ _ _)) ?_; (try simp only [Act.put, List.setIfInBounds_toArray, List.set_cons_zero, List.set_cons_succ]))
      (refine Ord.take (v := ?_) (Or.inl ⟨rfl, ?_⟩) ?_; rotate_left; (intro w hSw; (try dsimp only at hSw); go_simp; try (with_reducible rfl)); (try simp only [Act.put, List.setIfInBounds_toArray, List.set_cons_zero, List.set_cons_succ]))
      refine Ord.alone rfl (fun K hK => ?_)
      go_simp
      refine (set_n P _ A1 c1 i T wd ht X Y W 0 align _ rfl (by omega) (by omega) (by omega) hS0.1.2.2.1).mono ?_
      rintro e w9 ⟨v, rfl, hor, hb9⟩
      have hS1 := hS w9 ⟨hS0.1.1.below hb9 hS0.1.1.lt, hS0.1.2.1.trans (hb9.mono hS0.1.2.1.size), (hS0.1.2.2.1.below hb9).more hb9.size, (hS0.1.2.2.2.below hb9).more hb9.size⟩
      go_wp2_with fail
      refine hK.out _ _ (hS1) (fun _ => ?_)
      clear hK K
      (try simp only [Act.put, List.setIfInBounds_toArray, List.set_cons_zero, List.set_cons_succ])
      (refine Ord.take (v := ?_) (Or.inl ⟨rfl, ?_⟩) ?_; rotate_left; (intro w hSw; (try dsimp only at hSw); go_simp; try (with_reducible rfl)); (try simp only [Act.put, List.setIfInBounds_toArray, List.set_cons_zero, List.set_cons_succ]))
      refine Ord.done (NoPanic.normal ?_)
      rw [HRE.out] at hor
      obtain ⟨⟨hI1, hI2, hI3, hI4⟩, -⟩ := hS1
      clear hS0 hI hS
      obtain ⟨A5, c5, rfl, hc5, hRa⟩ := own_rns hor
      clear hor HRE
      obtain ⟨b1, o1, p1, rfl, -, -, -⟩ := Pcs.get hI3 (k := i) (by omega)
      clear p1
      go_wp2_with fail
      go_loopg [12, 13, 14, 15] RR.length (fun g s12 s13 s14 s15 wq => ∃ (q j : Nat) (en la s : Int), g = RR.length - q ∧ q ≤ RR.length ∧ s15 = .int .i64 q ∧ s12 = .int .i64 en ∧ s13 = .int .i64 la ∧ s14 = .int .i64 s ∧ a ≤ j ∧ j ≤ z ∧ -1 ≤ la ∧ la < j ∧ 0 ≤ s ∧ s ≤ wd ∧ Hid (RR.drop q = runs (Y + ht) (cut P j z) j (lf + s)) ∧ Hid (s + sumP (cut P j z) = wd) ∧ (en = -1 ∧ q = 0 ∧ s = 0 ∨ en = lf + s ∧ 0 < q) ∧ Drawn w9 wq)
      case atStart => exact ⟨0, a, -1, -1, 0, rfl, Nat.zero_le _, rfl, rfl, rfl, rfl, Nat.le_refl _, ha3, by omega, by omega, by omega, f2, hid (by rw [Int.add_zero]; exact HR.out), hid (by rw [HWD.out]; omega), .inl ⟨rfl, rfl, rfl⟩, .refl _⟩
      case round => as_aux_lemma =>
        obtain ⟨q, j, en, la, s, rfl, hq, rfl, rfl, rfl, rfl, hj1, hj2, hl1, hl2, hs1, hs2, HRD, HSD, hen, HD⟩ := hrel
        have hRq := hRa.drawn HD
        have l0 : wr.cell? ⟨b3, o3 + k * 4, none⟩ = some (.int .i64 i) := (lines_at (hI4.drawn HD) HK.out).1
        have l1 : wr.cell? ⟨b3, o3 + k * 4 + 1, none⟩ = some (.int .i64 T) := (lines_at (hI4.drawn HD) HK.out).2.1
        have l2 : wr.cell? ⟨b3, o3 + k * 4 + 2, none⟩ = some (.int .i64 wd) := (lines_at (hI4.drawn HD) HK.out).2.2.1
        have l3 : wr.cell? ⟨b3, o3 + k * 4 + 3, none⟩ = some (.int .i64 ht) := (lines_at (hI4.drawn HD) HK.out).2.2.2
        have hR1 := hI1.drawn HD
        have r0 : wr.cell? ⟨w.heap.size, 0, none⟩ = some (.int .i64 X) := hR1.cell 0
        have r1 : wr.cell? ⟨w.heap.size, 1, none⟩ = some (.int .i64 Y) := hR1.cell 1
        have r2 : wr.cell? ⟨w.heap.size, 2, none⟩ = some (.int .i64 W) := hR1.cell 2
        by_cases hlt2 : q < RR.length
        · obtain ⟨b5, o5, y, rfl, -, hy, -⟩ := hRq.at_ hlt2
          have hcons : RR.drop q = y :: RR.drop (q + 1) := by
            have e := hy.out
            rw [List.getElem?_eq_getElem hlt2] at e
            rw [List.drop_eq_getElem_cons hlt2, Option.some.inj e]
          obtain ⟨m, p, hm1, hm2, hp, hye, hte, hse⟩ := runs_next HBB.out (z - j) rfl (by omega) (HRD.out.symm.trans hcons)
          obtain ⟨hw1, hw2⟩ := HWW.out p (List.mem_of_getElem? hp)
          obtain ⟨hh1, hh2⟩ := HHH.out p (List.mem_of_getElem? hp)
          have hsp := sumP_bd (HWW.out.cut (m + 1) z)
          have hsd := HSD.out
          rw [hse] at hsd
          obtain ⟨u0, u1, u2, u3, u4⟩ := runs_at hRq hy.out
          rw [hye] at u0 u1 u2 u3 u4
          simp only at u0 u1 u2 u3 u4
          have hmP : m < P.length := (List.getElem?_eq_some_iff.1 hp).1
          have pw3 := (pcs_here (hI3.drawn HD) hp).2.1
          have hadd : add (lf + s) p.width = lf + (s + p.width) := by rw [add_small (by omega) hw1 (by omega)]; omega
          have hsub : sub (Y + ht) p.height = Y + ht - p.height := by unfold sub; rw [show sat (Y + ht) = Y + ht from sat_id (by omega) (by omega), show sat p.height = p.height from sat_id (by omega) (by omega)]; exact sat_id (by omega) (by omega)
          rw [hadd] at hte
          rw [hsub] at u2
          obtain ⟨pw, hpw⟩ : ∃ pw, p.width = pw := ⟨_, rfl⟩
          obtain ⟨ph, hph⟩ : ∃ ph, p.height = ph := ⟨_, rfl⟩
          obtain ⟨yv, hyv⟩ : ∃ yv, Y + ht - p.height = yv := ⟨_, rfl⟩
          rw [hyv] at u2
          rw [hpw] at u3 pw3 hte hw1 hw2 hsd
          rw [hph] at u4 hh1 hh2 hyv
          have gy1 : IntKind.i64.wrap (yv + ph) = Y + ht := by rw [show yv + ph = Y + ht by omega]; exact IntWalk.i64_in _ (by omega)
          have gy2 : IntKind.i64.wrap (Y + ht) = Y + ht := IntWalk.i64_in _ (by omega)
          have hyv2 : -16777216 ≤ yv ∧ yv ≤ 33554432 := by omega
          obtain ⟨hyv3, hyv4⟩ := hyv2
          have HTE := hid (show RR.drop (q + 1) = runs (Y + ht) (cut P (m + 1) z) (m + 1) (lf + (s + pw)) from hte)
          have HSE := hid (show s + pw + sumP (cut P (m + 1) z) = wd by omega)
          have hsw : s + pw ≤ wd := by omega
          clear hcons hte hse hsd hsp hye hadd hsub hpw hph hyv hp HRD HSD hy
          obtain ⟨n, hn⟩ : ∃ n, lf + s = n := ⟨_, rfl⟩
          have hn0 : 0 ≤ n := by omega
          have hn1 : n ≤ 2000000000 := by omega
          have gs1 : IntKind.i64.wrap (s + pw) = s + pw := IntWalk.i64_in _ (by omega)
          have gn1 : IntKind.i64.wrap (n + pw) = n + pw := IntWalk.i64_in _ (by omega)
          rw [hn] at u1 hen
          have HN := hid hn
          clear hn
          have d1 : decide ((m : Int) ≤ la) = false := by simp; omega
          have d2 : decide (m < i) = false := by simp; omega
          have d3 : decide (T ≤ m) = false := by simp; omega
          have hSQ : ∀ Z, Drawn wr Z → (fun Z => Drawn wr Z ∧ Z.cell? ⟨b5, o5 + q * 5, none⟩ = some (.int .i64 m) ∧ Z.cell? ⟨b5, o5 + q * 5 + 1, none⟩ = some (.int .i64 n) ∧ Z.cell? ⟨b5, o5 + q * 5 + 2, none⟩ = some (.int .i64 yv) ∧ Z.cell? ⟨b5, o5 + q * 5 + 3, none⟩ = some (.int .i64 pw) ∧ Z.cell? ⟨b5, o5 + q * 5 + 4, none⟩ = some (.int .i64 ph) ∧ Z.cell? ⟨b3, o3 + k * 4, none⟩ = some (.int .i64 i) ∧ Z.cell? ⟨b3, o3 + k * 4 + 1, none⟩ = some (.int .i64 T) ∧ Z.cell? ⟨b3, o3 + k * 4 + 3, none⟩ = some (.int .i64 ht) ∧ Z.cell? ⟨w.heap.size, 1, none⟩ = some (.int .i64 Y) ∧ Z.cell? ⟨b1, o1 + m * 57 + 3, none⟩ = some (.int .i64 pw)) Z := fun Z h => ⟨h, (cellD h _).trans u0, (cellD h _).trans u1, (cellD h _).trans u2, (cellD h _).trans u3, (cellD h _).trans u4, (cellD h _).trans l0, (cellD h _).trans l1, (cellD h _).trans l3, (cellD h _).trans r1, (cellD h _).trans pw3⟩
          clear hRq hR1
          go_upto_region 14 with fail
          go_cut [143] (fun s wx => s = .bool false ∧ Drawn wr wx)
          case first =>
            rcases hen with ⟨rfl, hq0, hs0⟩ | ⟨h1, hq0⟩
            · as_aux_lemma =>
              replace hq0 := hid hq0
              replace hs0 := hid hs0
              refine wp_region_noPanic ?_
              refine Ord.region_ord (S := fun Z => Drawn wr Z ∧ Z.cell? ⟨b5, o5 + q * 5, none⟩ = some (.int .i64 m) ∧ Z.cell? ⟨b5, o5 + q * 5 + 1, none⟩ = some (.int .i64 n) ∧ Z.cell? ⟨b5, o5 + q * 5 + 2, none⟩ = some (.int .i64 yv) ∧ Z.cell? ⟨b5, o5 + q * 5 + 3, none⟩ = some (.int .i64 pw) ∧ Z.cell? ⟨b5, o5 + q * 5 + 4, none⟩ = some (.int .i64 ph) ∧ Z.cell? ⟨b3, o3 + k * 4, none⟩ = some (.int .i64 i) ∧ Z.cell? ⟨b3, o3 + k * 4 + 1, none⟩ = some (.int .i64 T) ∧ Z.cell? ⟨b3, o3 + k * 4 + 3, none⟩ = some (.int .i64 ht) ∧ Z.cell? ⟨w.heap.size, 1, none⟩ = some (.int .i64 Y) ∧ Z.cell? ⟨b1, o1 + m * 57 + 3, none⟩ = some (.int .i64 pw)) [(0, true), (1, true), (2, true), (3, true), (4, true), (5, true), (6, true), (7, true), (8, true), (9, true), (10, true), (11, true), (12, true), (13, true), (14, true), (15, true), (16, true), (17, true), (18, true), (19, true), (20, true), (21, true), (22, true), (23, true), (24, true), (25, true), (26, true), (27, true), (28, true), (29, true), (30, true), (31, true), (32, true), (33, true), (34, true), (35, true), (36, true), (37, true), (38, true), (39, true), (40, true), (41, true), (42, true), (43, true), (44, true), (45, true), (46, true), (47, true), (48, true), (49, true), (50, true), (51, true), (52, true), (53, true), (54, true), (55, true), (56, true), (57, true), (58, true), (59, true), (60, true), (61, true), (62, true), (63, true), (64, true), (65, true), (66, true), (67, true), (68, true), (69, true), (70, true), (71, true), (72, true), (73, true), (74, true), (75, true), (76, true), (77, true), (78, true), (79, true), (80, true), (81, true), (82, true), (83, true), (84, true), (85, true), (86, true), (87, true), (88, true)] (by kernel_rfl) (by kernel_rfl) (by kernel_rfl) (by decide) (fun _ _ _ _ _ h => h) (hSQ _ (Drawn.refl _).drew) (fun hS0 => ?_)
              simp only [Ord.lay, List.getElem?_cons_zero, List.getElem?_cons_succ]
              (refine Ord.take (v := ?_) (Or.inl ⟨rfl, ?_⟩) ?_; rotate_left; (intro w hSw; (try dsimp only at hSw); go_simp; try (with_reducible rfl)); (try simp only [Act.put, List.setIfInBounds_toArray, List.set_cons_zero, List.set_cons_succ]))
              (refine Ord.take (v := ?_) (Or.inl ⟨rfl, ?_⟩) ?_; rotate_left; (intro w hSw; (try dsimp only at hSw); go_simp; try (with_reducible rfl)); (try simp only [Act.put, List.setIfInBounds_toArray, List.set_cons_zero, List.set_cons_succ]))
              (refine Ord.take (v := ?_) (Or.inl ⟨rfl, ?_⟩) ?_; rotate_left; (intro w hSw; (try dsimp only at hSw); go_simp; try (with_reducible rfl)); (try simp only [Act.put, List.setIfInBounds_toArray, List.set_cons_zero, List.set_cons_succ]))
              (refine Ord.take (v := ?_) (Or.inl ⟨rfl, ?_⟩) ?_; rotate_left; (intro w hSw; (try dsimp only at hSw); go_simp; try (with_reducible rfl)); (try simp only [Act.put, List.setIfInBounds_toArray, List.set_cons_zero, List.set_cons_succ]))
              (refine Ord.take (v := ?_) (Or.inl ⟨rfl, ?_⟩) ?_; rotate_left; (intro w hSw; (try dsimp only at hSw); go_simp; try (with_reducible rfl)); (try simp only [Act.put, List.setIfInBounds_toArray, List.set_cons_zero, List.set_cons_succ]))
              (refine Ord.take (v := ?_) (Or.inl ⟨rfl, ?_⟩) ?_; rotate_left; (intro w hSw; (try dsimp only at hSw); go_simp; try (with_reducible rfl)); (try simp only [Act.put, List.setIfInBounds_toArray, List.set_cons_zero, List.set_cons_succ]))
              (refine Ord.take (v := ?_) (Or.inl ⟨rfl, ?_⟩) ?_; rotate_left; (intro w hSw; (try dsimp only at hSw); go_simp; try (with_reducible rfl)); (try simp only [Act.put, List.setIfInBounds_toArray, List.set_cons_zero, List.set_cons_succ]))
              (refine Ord.take (v := ?_) (Or.inl ⟨rfl, ?_⟩) ?_; rotate_left; (intro w hSw; (try dsimp only at hSw); go_simp; try (with_reducible rfl)); (try simp only [Act.put, List.setIfInBounds_toArray, List.set_cons_zero, List.set_cons_succ]))
              (refine Ord.take (v := ?_) (Or.inl ⟨rfl, ?_⟩) ?_; rotate_left; (intro w hSw; (try dsimp only at hSw); go_simp; try (with_reducible rfl)); (try simp only [Act.put, List.setIfInBounds_toArray, List.set_cons_zero, List.set_cons_succ]))
              (refine Ord.take (v := ?_) (Or.inl ⟨rfl, ?_⟩) ?_; rotate_left; (intro w hSw; (try dsimp only at hSw); go_simp; try (with_reducible rfl)); (try simp only [Act.put, List.setIfInBounds_toArray, List.set_cons_zero, List.set_cons_succ]))
              (refine Ord.take (v := ?_) (Or.inl ⟨rfl, ?_⟩) ?_; rotate_left; (intro w hSw; (try dsimp only at hSw); go_simp; try (with_reducible rfl)); (try simp only [Act.put, List.setIfInBounds_toArray, List.set_cons_zero, List.set_cons_succ]))
              (refine Ord.take (v := ?_) (Or.inl ⟨rfl, ?_⟩) ?_; rotate_left; (intro w hSw; (try dsimp only at hSw); go_simp; try (with_reducible rfl)); (try simp only [Act.put, List.setIfInBounds_toArray, List.set_cons_zero, List.set_cons_succ]))
              (refine Ord.take (v := ?_) (Or.inl ⟨rfl, ?_⟩) ?_; rotate_left; (intro w hSw; (try dsimp only at hSw); go_simp; try (with_reducible rfl)); (try simp only [Act.put, List.setIfInBounds_toArray, List.set_cons_zero, List.set_cons_succ]))
              (refine Ord.take (v := ?_) (Or.inl ⟨rfl, ?_⟩) ?_; rotate_left; (intro w hSw; (try dsimp only at hSw); go_simp; try (with_reducible rfl)); (try simp only [Act.put, List.setIfInBounds_toArray, List.set_cons_zero, List.set_cons_succ]))
              (refine Ord.take (v := ?_) (Or.inl ⟨rfl, ?_⟩) ?_; rotate_left; (intro w hSw; (try dsimp only at hSw); go_simp; try (with_reducible rfl)); (try simp only [Act.put, List.setIfInBounds_toArray, List.set_cons_zero, List.set_cons_succ]))
              (refine Ord.take (v := ?_) (Or.inl ⟨rfl, ?_⟩) ?_; rotate_left; (intro w hSw; (try dsimp only at hSw); go_simp; try (with_reducible rfl)); (try simp only [Act.put, List.setIfInBounds_toArray, List.set_cons_zero, List.set_cons_succ]))
              (refine Ord.take (v := ?_) (Or.inl ⟨rfl, ?_⟩) ?_; rotate_left; (intro w hSw; (try dsimp only at hSw); go_simp; try (with_reducible rfl)); (try simp only [Act.put, List.setIfInBounds_toArray, List.set_cons_zero, List.set_cons_succ]))
              (refine Ord.take (v := ?_) (Or.inl ⟨rfl, ?_⟩) ?_; rotate_left; (intro w hSw; (try dsimp only at hSw); go_simp; try (with_reducible rfl)); (try simp only [Act.put, List.setIfInBounds_toArray, List.set_cons_zero, List.set_cons_succ]))
              (refine Ord.take (v := ?_) (Or.inl ⟨rfl, ?_⟩) ?_; rotate_left; (intro w hSw; (try dsimp only at hSw); go_simp; try (with_reducible rfl)); (try simp only [Act.put, List.setIfInBounds_toArray, List.set_cons_zero, List.set_cons_succ]))
              (refine Ord.take (v := ?_) (Or.inl ⟨rfl, ?_⟩) ?_; rotate_left; (intro w hSw; (try dsimp only at hSw); go_simp; try (with_reducible rfl)); (try simp only [Act.put, List.setIfInBounds_toArray, List.set_cons_zero, List.set_cons_succ]))
              (refine Ord.take (v := ?_) (Or.inl ⟨rfl, ?_⟩) ?_; rotate_left; (intro w hSw; (try dsimp only at hSw); go_simp; try (with_reducible rfl)); (try simp only [Act.put, List.setIfInBounds_toArray, List.set_cons_zero, List.set_cons_succ]))
              (refine Ord.take (v := ?_) (Or.inl ⟨rfl, ?_⟩) ?_; rotate_left; (intro w hSw; (try dsimp only at hSw); go_simp; try (with_reducible rfl)); (try simp only [Act.put, List.setIfInBounds_toArray, List.set_cons_zero, List.set_cons_succ]))
              (refine Ord.take (v := ?_) (Or.inl ⟨rfl, ?_⟩) ?_; rotate_left; (intro w hSw; (try dsimp only at hSw); go_simp; try (with_reducible rfl)); (try simp only [Act.put, List.setIfInBounds_toArray, List.set_cons_zero, List.set_cons_succ]))
              (refine Ord.take (v := ?_) (Or.inl ⟨rfl, ?_⟩) ?_; rotate_left; (intro w hSw; (try dsimp only at hSw); go_simp; try (with_reducible rfl)); (try simp only [Act.put, List.setIfInBounds_toArray, List.set_cons_zero, List.set_cons_succ]))
              (refine Ord.take (v := ?_) (Or.inl ⟨rfl, ?_⟩) ?_; rotate_left; (intro w hSw; (try dsimp only at hSw); go_simp; try (with_reducible rfl)); (try simp only [Act.put, List.setIfInBounds_toArray, List.set_cons_zero, List.set_cons_succ]))
              (refine Ord.take (v := ?_) (Or.inl ⟨rfl, ?_⟩) ?_; rotate_left; (intro w hSw; (try dsimp only at hSw); go_simp; try (with_reducible rfl)); (try simp only [Act.put, List.setIfInBounds_toArray, List.set_cons_zero, List.set_cons_succ]))
              (refine Ord.take (v := ?_) (Or.inl ⟨rfl, ?_⟩) ?_; rotate_left; (intro w hSw; (try dsimp only at hSw); go_simp; try (with_reducible rfl)); (try simp only [Act.put, List.setIfInBounds_toArray, List.set_cons_zero, List.set_cons_succ]))
              (refine Ord.take (v := ?_) (Or.inl ⟨rfl, ?_⟩) ?_; rotate_left; (intro w hSw; (try dsimp only at hSw); go_simp; try (with_reducible rfl)); (try simp only [Act.put, List.setIfInBounds_toArray, List.set_cons_zero, List.set_cons_succ]))
              (refine Ord.take (v := ?_) (Or.inl ⟨rfl, ?_⟩) ?_; rotate_left; (intro w hSw; (try dsimp only at hSw); go_simp; try (with_reducible rfl)); (try simp only [Act.put, List.setIfInBounds_toArray, List.set_cons_zero, List.set_cons_succ]))
              (refine Ord.take (v := ?_) (Or.inl ⟨rfl, ?_⟩) ?_; rotate_left; (intro w hSw; (try dsimp only at hSw); go_simp; try (with_reducible rfl)); (try simp only [Act.put, List.setIfInBounds_toArray, List.set_cons_zero, List.set_cons_succ]))
              (refine Ord.take (v := ?_) (Or.inl ⟨rfl, ?_⟩) ?_; rotate_left; (intro w hSw; (try dsimp only at hSw); go_simp; try (with_reducible rfl)); (try simp only [Act.put, List.setIfInBounds_toArray, List.set_cons_zero, List.set_cons_succ]))
              (refine Ord.take (v := ?_) (Or.inl ⟨rfl, ?_⟩) ?_; rotate_left; (intro w hSw; (try dsimp only at hSw); go_simp; try (with_reducible rfl)); (try simp only [Act.put, List.setIfInBounds_toArray, List.set_cons_zero, List.set_cons_succ]))
              (refine Ord.take (v := ?_) (Or.inl ⟨rfl, ?_⟩) ?_; rotate_left; (intro w hSw; (try dsimp only at hSw); go_simp; try (with_reducible rfl)); (try simp only [Act.put, List.setIfInBounds_toArray, List.set_cons_zero, List.set_cons_succ]))
              (refine Ord.take (v := ?_) (Or.inl ⟨rfl, ?_⟩) ?_; rotate_left; (intro w hSw; (try dsimp only at hSw); go_simp; try (with_reducible rfl)); (try simp only [Act.put, List.setIfInBounds_toArray, List.set_cons_zero, List.set_cons_succ]))
              (refine Ord.take (v := ?_) (Or.inl ⟨rfl, ?_⟩) ?_; rotate_left; (intro w hSw; (try dsimp only at hSw); go_simp; try (with_reducible rfl)); (try simp only [Act.put, List.setIfInBounds_toArray, List.set_cons_zero, List.set_cons_succ]))
              (refine Ord.take (v := ?_) (Or.inl ⟨rfl, ?_⟩) ?_; rotate_left; (intro w hSw; (try dsimp only at hSw); go_simp; try (with_reducible rfl)); (try simp only [Act.put, List.setIfInBounds_toArray, List.set_cons_zero, List.set_cons_succ]))
              (refine Ord.take (v := ?_) (Or.inl ⟨rfl, ?_⟩) ?_; rotate_left; (intro w hSw; (try dsimp only at hSw); go_simp; try (with_reducible rfl)); (try simp only [Act.put, List.setIfInBounds_toArray, List.set_cons_zero, List.set_cons_succ]))
              (refine Ord.take (Or.inr ⟨rfl, rfl⟩) ?_; (try simp only [Act.put, List.setIfInBounds_toArray, List.set_cons_zero, List.set_cons_succ]))
              (refine Ord.take (Or.inr ⟨rfl, rfl⟩) ?_; (try simp only [Act.put, List.setIfInBounds_toArray, List.set_cons_zero, List.set_cons_succ]))
              (refine Ord.take (Or.inr ⟨rfl, rfl⟩) ?_; (try simp only [Act.put, List.setIfInBounds_toArray, List.set_cons_zero, List.set_cons_succ]))
              (refine Ord.take (Or.inr ⟨rfl, rfl⟩) ?_; (try simp only [Act.put, List.setIfInBounds_toArray, List.set_cons_zero, List.set_cons_succ]))
              (refine Ord.take (Or.inr ⟨rfl, rfl⟩) ?_; (try simp only [Act.put, List.setIfInBounds_toArray, List.set_cons_zero, List.set_cons_succ]))
              (refine Ord.take (Or.inr ⟨rfl, rfl⟩) ?_; (try simp only [Act.put, List.setIfInBounds_toArray, List.set_cons_zero, List.set_cons_succ]))
              (refine Ord.take (Or.inr ⟨rfl, rfl⟩) ?_; (try simp only [Act.put, List.setIfInBounds_toArray, List.set_cons_zero, List.set_cons_succ]))
              (refine Ord.take (Or.inr ⟨rfl, rfl⟩) ?_; (try simp only [Act.put, List.setIfInBounds_toArray, List.set_cons_zero, List.set_cons_succ]))
              (refine Ord.take (v := ?_) (Or.inl ⟨rfl, ?_⟩) ?_; rotate_left; (intro w hSw; (try dsimp only at hSw); go_simp; try (with_reducible rfl)); (try simp only [Act.put, List.setIfInBounds_toArray, List.set_cons_zero, List.set_cons_succ]))
              (refine Ord.take (v := ?_) (Or.inl ⟨rfl, ?_⟩) ?_; rotate_left; (intro w hSw; (try dsimp only at hSw); go_simp; try (with_reducible rfl)); (try simp only [Act.put, List.setIfInBounds_toArray, List.set_cons_zero, List.set_cons_succ]))
              (refine Ord.take (v := ?_) (Or.inl ⟨rfl, ?_⟩) ?_; rotate_left; (intro w hSw; (try dsimp only at hSw); go_simp; try (with_reducible rfl)); (try simp only [Act.put, List.setIfInBounds_toArray, List.set_cons_zero, List.set_cons_succ]))
              (refine Ord.take (v := ?_) (Or.inl ⟨rfl, ?_⟩) ?_; rotate_left; (intro w hSw; (try dsimp only at hSw); go_simp; try (with_reducible rfl)); (try simp only [Act.put, List.setIfInBounds_toArray, List.set_cons_zero, List.set_cons_succ]))
              (refine Ord.take (v := ?_) (Or.inl ⟨rfl, ?_⟩) ?_; rotate_left; (intro w hSw; (try dsimp only at hSw); go_simp; try (with_reducible rfl)); (try simp only [Act.put, List.setIfInBounds_toArray, List.set_cons_zero, List.set_cons_succ]))
              (refine Ord.take (v := ?_) (Or.inl ⟨rfl, ?_⟩) ?_; rotate_left; (intro w hSw; (try dsimp only at hSw); go_simp; try (with_reducible rfl)); (try simp only [Act.put, List.setIfInBounds_toArray, List.set_cons_zero, List.set_cons_succ]))
              (refine Ord.take (v := ?_) (Or.inl ⟨rfl, ?_⟩) ?_; rotate_left; (intro w hSw; (try dsimp only at hSw); go_simp; try (with_reducible rfl)); (try simp only [Act.put, List.setIfInBounds_toArray, List.set_cons_zero, List.set_cons_succ]))
              (refine Ord.take (v := ?_) (Or.inl ⟨rfl, ?_⟩) ?_; rotate_left; (intro w hSw; (try dsimp only at hSw); go_simp; try (with_reducible rfl)); (try simp only [Act.put, List.setIfInBounds_toArray, List.set_cons_zero, List.set_cons_succ]))
              (refine Ord.take (v := ?_) (Or.inl ⟨rfl, ?_⟩) ?_; rotate_left; (intro w hSw; (try dsimp only at hSw); go_simp; try (with_reducible rfl)); (try simp only [Act.put, List.setIfInBounds_toArray, List.set_cons_zero, List.set_cons_succ]))
              (refine Ord.take (v := ?_) (Or.inl ⟨rfl, ?_⟩) ?_; rotate_left; (intro w hSw; (try dsimp only at hSw); go_simp; try (with_reducible rfl)); (try simp only [Act.put, List.setIfInBounds_toArray, List.set_cons_zero, List.set_cons_succ]))
              (refine Ord.take (v := ?_) (Or.inl ⟨rfl, ?_⟩) ?_; rotate_left; (intro w hSw; (try dsimp only at hSw); go_simp; try (with_reducible rfl)); (try simp only [Act.put, List.setIfInBounds_toArray, List.set_cons_zero, List.set_cons_succ]))
              (refine Ord.take (v := ?_) (Or.inl ⟨rfl, ?_⟩) ?_; rotate_left; (intro w hSw; (try dsimp only at hSw); go_simp; try (with_reducible rfl)); (try simp only [Act.put, List.setIfInBounds_toArray, List.set_cons_zero, List.set_cons_succ]))
              (refine Ord.take (v := ?_) (Or.inl ⟨rfl, ?_⟩) ?_; rotate_left; (intro w hSw; (try dsimp only at hSw); go_simp; try (with_reducible rfl)); (try simp only [Act.put, List.setIfInBounds_toArray, List.set_cons_zero, List.set_cons_succ]))
              (refine Ord.take (v := ?_) (Or.inl ⟨rfl, ?_⟩) ?_; rotate_left; (intro w hSw; (try dsimp only at hSw); go_simp; try (with_reducible rfl)); (try simp only [Act.put, List.setIfInBounds_toArray, List.set_cons_zero, List.set_cons_succ]))
              (refine Ord.take (v := ?_) (Or.inl ⟨rfl, ?_⟩) ?_; rotate_left; (intro w hSw; (try dsimp only at hSw); go_simp; try (with_reducible rfl)); (try simp only [Act.put, List.setIfInBounds_toArray, List.set_cons_zero, List.set_cons_succ]))
              (refine Ord.take (v := ?_) (Or.inl ⟨rfl, ?_⟩) ?_; rotate_left; (intro w hSw; (try dsimp only at hSw); go_simp; try (with_reducible rfl)); (try simp only [Act.put, List.setIfInBounds_toArray, List.set_cons_zero, List.set_cons_succ]))
              (refine Ord.take (v := ?_) (Or.inl ⟨rfl, ?_⟩) ?_; rotate_left; (intro w hSw; (try dsimp only at hSw); go_simp; try (with_reducible rfl)); (try simp only [Act.put, List.setIfInBounds_toArray, List.set_cons_zero, List.set_cons_succ]))
              (refine Ord.take (v := ?_) (Or.inl ⟨rfl, ?_⟩) ?_; rotate_left; (intro w hSw; (try dsimp only at hSw); go_simp; try (with_reducible rfl)); (try simp only [Act.put, List.setIfInBounds_toArray, List.set_cons_zero, List.set_cons_succ]))
              (refine Ord.take (v := ?_) (Or.inl ⟨rfl, ?_⟩) ?_; rotate_left; (intro w hSw; (try dsimp only at hSw); go_simp; try (with_reducible rfl)); (try simp only [Act.put, List.setIfInBounds_toArray, List.set_cons_zero, List.set_cons_succ]))
              (refine Ord.take (v := ?_) (Or.inl ⟨rfl, ?_⟩) ?_; rotate_left; (intro w hSw; (try dsimp only at hSw); go_simp; try (with_reducible rfl)); (try simp only [Act.put, List.setIfInBounds_toArray, List.set_cons_zero, List.set_cons_succ]))
              (refine Ord.take (v := ?_) (Or.inl ⟨rfl, ?_⟩) ?_; rotate_left; (intro w hSw; (try dsimp only at hSw); go_simp; try (with_reducible rfl)); (try simp only [Act.put, List.setIfInBounds_toArray, List.set_cons_zero, List.set_cons_succ]))
              (refine Ord.take (v := ?_) (Or.inl ⟨rfl, ?_⟩) ?_; rotate_left; (intro w hSw; (try dsimp only at hSw); go_simp; try (with_reducible rfl)); (try simp only [Act.put, List.setIfInBounds_toArray, List.set_cons_zero, List.set_cons_succ]))
              (refine Ord.take (v := ?_) (Or.inl ⟨rfl, ?_⟩) ?_; rotate_left; (intro w hSw; (try dsimp only at hSw); go_simp; try (with_reducible rfl)); (try simp only [Act.put, List.setIfInBounds_toArray, List.set_cons_zero, List.set_cons_succ]))
              (refine Ord.take (v := ?_) (Or.inl ⟨rfl, ?_⟩) ?_; rotate_left; (intro w hSw; (try dsimp only at hSw); go_simp; try (with_reducible rfl)); (try simp only [Act.put, List.setIfInBounds_toArray, List.set_cons_zero, List.set_cons_succ]))
              (refine Ord.take (v := ?_) (Or.inl ⟨rfl, ?_⟩) ?_; rotate_left; (intro w hSw; (try dsimp only at hSw); go_simp; try (with_reducible rfl)); (try simp only [Act.put, List.setIfInBounds_toArray, List.set_cons_zero, List.set_cons_succ]))
              (refine Ord.take (v := ?_) (Or.inl ⟨rfl, ?_⟩) ?_; rotate_left; (intro w hSw; (try dsimp only at hSw); go_simp; try (with_reducible rfl)); (try simp only [Act.put, List.setIfInBounds_toArray, List.set_cons_zero, List.set_cons_succ]))
              (refine Ord.take (v := ?_) (Or.inl ⟨rfl, ?_⟩) ?_; rotate_left; (intro w hSw; (try dsimp only at hSw); go_simp; try (with_reducible rfl)); (try simp only [Act.put, List.setIfInBounds_toArray, List.set_cons_zero, List.set_cons_succ]))
              (refine Ord.take (v := ?_) (Or.inl ⟨rfl, ?_⟩) ?_; rotate_left; (intro w hSw; (try dsimp only at hSw); go_simp; try (with_reducible rfl)); (try simp only [Act.put, List.setIfInBounds_toArray, List.set_cons_zero, List.set_cons_succ]))
              (refine Ord.take (v := ?_) (Or.inl ⟨rfl, ?_⟩) ?_; rotate_left; (intro w hSw; (try dsimp only at hSw); go_simp; try (with_reducible rfl)); (try simp only [Act.put, List.setIfInBounds_toArray, List.set_cons_zero, List.set_cons_succ]))
              (refine Ord.take (v := ?_) (Or.inl ⟨rfl, ?_⟩) ?_; rotate_left; (intro w hSw; (try dsimp only at hSw); go_simp; try (with_reducible rfl)); (try simp only [Act.put, List.setIfInBounds_toArray, List.set_cons_zero, List.set_cons_succ]))
              (refine Ord.take (v := ?_) (Or.inl ⟨rfl, ?_⟩) ?_; rotate_left; (intro w hSw; (try dsimp only at hSw); go_simp; try (with_reducible rfl)); (try simp only [Act.put, List.setIfInBounds_toArray, List.set_cons_zero, List.set_cons_succ]))
              (refine Ord.take (v := ?_) (Or.inl ⟨rfl, ?_⟩) ?_; rotate_left; (intro w hSw; (try dsimp only at hSw); go_simp; try (with_reducible rfl)); (try simp only [Act.put, List.setIfInBounds_toArray, List.set_cons_zero, List.set_cons_succ]))
              (refine Ord.take (v := ?_) (Or.inl ⟨rfl, ?_⟩) ?_; rotate_left; (intro w hSw; (try dsimp only at hSw); go_simp; try (with_reducible rfl)); (try simp only [Act.put, List.setIfInBounds_toArray, List.set_cons_zero, List.set_cons_succ]))
              (refine Ord.take (v := ?_) (Or.inl ⟨rfl, ?_⟩) ?_; rotate_left; (intro w hSw; (try dsimp only at hSw); go_simp; try (with_reducible rfl)); (try simp only [Act.put, List.setIfInBounds_toArray, List.set_cons_zero, List.set_cons_succ]))
              (refine Ord.take (v := ?_) (Or.inl ⟨rfl, ?_⟩) ?_; rotate_left; (intro w hSw; (try dsimp only at hSw); go_simp; try (with_reducible rfl)); (try simp only [Act.put, List.setIfInBounds_toArray, List.set_cons_zero, List.set_cons_succ]))
              (refine Ord.take (v := ?_) (Or.inl ⟨rfl, ?_⟩) ?_; rotate_left; (intro w hSw; (try dsimp only at hSw); go_simp; try (with_reducible rfl)); (try simp only [Act.put, List.setIfInBounds_toArray, List.set_cons_zero, List.set_cons_succ]))
              (refine Ord.take (v := ?_) (Or.inl ⟨rfl, ?_⟩) ?_; rotate_left; (intro w hSw; (try dsimp only at hSw); go_simp; try (with_reducible rfl)); (try simp only [Act.put, List.setIfInBounds_toArray, List.set_cons_zero, List.set_cons_succ]))
              (refine Ord.take (v := ?_) (Or.inl ⟨rfl, ?_⟩) ?_; rotate_left; (intro w hSw; (try dsimp only at hSw); go_simp; try (with_reducible rfl)); (try simp only [Act.put, List.setIfInBounds_toArray, List.set_cons_zero, List.set_cons_succ]))
              (refine Ord.take (v := ?_) (Or.inl ⟨rfl, ?_⟩) ?_; rotate_left; (intro w hSw; (try dsimp only at hSw); go_simp; try (with_reducible rfl)); (try simp only [Act.put, List.setIfInBounds_toArray, List.set_cons_zero, List.set_cons_succ]))
              (refine Ord.take (v := ?_) (Or.inl ⟨rfl, ?_⟩) ?_; rotate_left; (intro w hSw; (try dsimp only at hSw); go_simp; try (with_reducible rfl)); (try simp only [Act.put, List.setIfInBounds_toArray, List.set_cons_zero, List.set_cons_succ]))
              (refine Ord.take (v := ?_) (Or.inl ⟨rfl, ?_⟩) ?_; rotate_left; (intro w hSw; (try dsimp only at hSw); go_simp; try (with_reducible rfl)); (try simp only [Act.put, List.setIfInBounds_toArray, List.set_cons_zero, List.set_cons_succ]))
              (refine Ord.take (v := ?_) (Or.inl ⟨rfl, ?_⟩) ?_; rotate_left; (intro w hSw; (try dsimp only at hSw); go_simp; try (with_reducible rfl)); (try simp only [Act.put, List.setIfInBounds_toArray, List.set_cons_zero, List.set_cons_succ]))
              (refine Ord.take (v := ?_) (Or.inl ⟨rfl, ?_⟩) ?_; rotate_left; (intro w hSw; (try dsimp only at hSw); go_simp; try (with_reducible rfl)); (try simp only [Act.put, List.setIfInBounds_toArray, List.set_cons_zero, List.set_cons_succ]))
              (refine Ord.take (v := ?_) (Or.inl ⟨rfl, ?_⟩) ?_; rotate_left; (intro w hSw; (try dsimp only at hSw); go_simp; try (with_reducible rfl)); (try simp only [Act.put, List.setIfInBounds_toArray, List.set_cons_zero, List.set_cons_succ]))
              refine Ord.done (NoPanic.normal ?_)
              go_wp2_with fail
              go_meet
              exact ⟨rfl, hS0.1⟩
            · as_aux_lemma =>
              replace h1 := h1.symm
              subst h1
              refine wp_region_noPanic ?_
              refine Ord.region_ord (S := fun Z => Drawn wr Z ∧ Z.cell? ⟨b5, o5 + q * 5, none⟩ = some (.int .i64 m) ∧ Z.cell? ⟨b5, o5 + q * 5 + 1, none⟩ = some (.int .i64 n) ∧ Z.cell? ⟨b5, o5 + q * 5 + 2, none⟩ = some (.int .i64 yv) ∧ Z.cell? ⟨b5, o5 + q * 5 + 3, none⟩ = some (.int .i64 pw) ∧ Z.cell? ⟨b5, o5 + q * 5 + 4, none⟩ = some (.int .i64 ph) ∧ Z.cell? ⟨b3, o3 + k * 4, none⟩ = some (.int .i64 i) ∧ Z.cell? ⟨b3, o3 + k * 4 + 1, none⟩ = some (.int .i64 T) ∧ Z.cell? ⟨b3, o3 + k * 4 + 3, none⟩ = some (.int .i64 ht) ∧ Z.cell? ⟨w.heap.size, 1, none⟩ = some (.int .i64 Y) ∧ Z.cell? ⟨b1, o1 + m * 57 + 3, none⟩ = some (.int .i64 pw)) [(0, true), (1, true), (2, true), (3, true), (4, true), (5, true), (6, true), (7, true), (8, true), (9, true), (10, true), (11, true), (12, true), (13, true), (14, true), (15, true), (16, true), (17, true), (18, true), (19, true), (20, true), (21, true), (22, true), (23, true), (24, true), (25, true), (26, true), (27, true), (28, true), (29, true), (30, true), (31, true), (32, true), (33, true), (34, true), (35, true), (36, true), (37, true), (38, true), (39, true), (40, true), (41, true), (42, true), (43, true), (44, true), (45, true), (46, true), (47, true), (48, true), (49, true), (50, true), (51, true), (52, true), (53, true), (54, true), (55, true), (56, true), (57, true), (58, true), (59, true), (60, true), (61, true), (62, true), (63, true), (64, true), (65, true), (66, true), (67, true), (68, true), (69, true), (70, true), (71, true), (72, true), (73, true), (74, true), (75, true), (76, true), (77, true), (78, true), (79, true), (80, true), (81, true), (82, true), (83, true), (84, true), (85, true), (86, true), (87, true), (88, true)] (by kernel_rfl) (by kernel_rfl) (by kernel_rfl) (by decide) (fun _ _ _ _ _ h => h) (hSQ _ (Drawn.refl _).drew) (fun hS0 => ?_)
              simp only [Ord.lay, List.getElem?_cons_zero, List.getElem?_cons_succ]
              (refine Ord.take (v := ?_) (Or.inl ⟨rfl, ?_⟩) ?_; rotate_left; (intro w hSw; (try dsimp only at hSw); go_simp; try (with_reducible rfl)); (try simp only [Act.put, List.setIfInBounds_toArray, List.set_cons_zero, List.set_cons_succ]))
              (refine Ord.take (v := ?_) (Or.inl ⟨rfl, ?_⟩) ?_; rotate_left; (intro w hSw; (try dsimp only at hSw); go_simp; try (with_reducible rfl)); (try simp only [Act.put, List.setIfInBounds_toArray, List.set_cons_zero, List.set_cons_succ]))
              (refine Ord.take (v := ?_) (Or.inl ⟨rfl, ?_⟩) ?_; rotate_left; (intro w hSw; (try dsimp only at hSw); go_simp; try (with_reducible rfl)); (try simp only [Act.put, List.setIfInBounds_toArray, List.set_cons_zero, List.set_cons_succ]))
              (refine Ord.take (v := ?_) (Or.inl ⟨rfl, ?_⟩) ?_; rotate_left; (intro w hSw; (try dsimp only at hSw); go_simp; try (with_reducible rfl)); (try simp only [Act.put, List.setIfInBounds_toArray, List.set_cons_zero, List.set_cons_succ]))
              (refine Ord.take (v := ?_) (Or.inl ⟨rfl, ?_⟩) ?_; rotate_left; (intro w hSw; (try dsimp only at hSw); go_simp; try (with_reducible rfl)); (try simp only [Act.put, List.setIfInBounds_toArray, List.set_cons_zero, List.set_cons_succ]))
              (refine Ord.take (v := ?_) (Or.inl ⟨rfl, ?_⟩) ?_; rotate_left; (intro w hSw; (try dsimp only at hSw); go_simp; try (with_reducible rfl)); (try simp only [Act.put, List.setIfInBounds_toArray, List.set_cons_zero, List.set_cons_succ]))
              (refine Ord.take (v := ?_) (Or.inl ⟨rfl, ?_⟩) ?_; rotate_left; (intro w hSw; (try dsimp only at hSw); go_simp; try (with_reducible rfl)); (try simp only [Act.put, List.setIfInBounds_toArray, List.set_cons_zero, List.set_cons_succ]))
              (refine Ord.take (v := ?_) (Or.inl ⟨rfl, ?_⟩) ?_; rotate_left; (intro w hSw; (try dsimp only at hSw); go_simp; try (with_reducible rfl)); (try simp only [Act.put, List.setIfInBounds_toArray, List.set_cons_zero, List.set_cons_succ]))
              (refine Ord.take (v := ?_) (Or.inl ⟨rfl, ?_⟩) ?_; rotate_left; (intro w hSw; (try dsimp only at hSw); go_simp; try (with_reducible rfl)); (try simp only [Act.put, List.setIfInBounds_toArray, List.set_cons_zero, List.set_cons_succ]))
              (refine Ord.take (v := ?_) (Or.inl ⟨rfl, ?_⟩) ?_; rotate_left; (intro w hSw; (try dsimp only at hSw); go_simp; try (with_reducible rfl)); (try simp only [Act.put, List.setIfInBounds_toArray, List.set_cons_zero, List.set_cons_succ]))
              (refine Ord.take (v := ?_) (Or.inl ⟨rfl, ?_⟩) ?_; rotate_left; (intro w hSw; (try dsimp only at hSw); go_simp; try (with_reducible rfl)); (try simp only [Act.put, List.setIfInBounds_toArray, List.set_cons_zero, List.set_cons_succ]))
              (refine Ord.take (v := ?_) (Or.inl ⟨rfl, ?_⟩) ?_; rotate_left; (intro w hSw; (try dsimp only at hSw); go_simp; try (with_reducible rfl)); (try simp only [Act.put, List.setIfInBounds_toArray, List.set_cons_zero, List.set_cons_succ]))
              (refine Ord.take (v := ?_) (Or.inl ⟨rfl, ?_⟩) ?_; rotate_left; (intro w hSw; (try dsimp only at hSw); go_simp; try (with_reducible rfl)); (try simp only [Act.put, List.setIfInBounds_toArray, List.set_cons_zero, List.set_cons_succ]))
              (refine Ord.take (v := ?_) (Or.inl ⟨rfl, ?_⟩) ?_; rotate_left; (intro w hSw; (try dsimp only at hSw); go_simp; try (with_reducible rfl)); (try simp only [Act.put, List.setIfInBounds_toArray, List.set_cons_zero, List.set_cons_succ]))
              (refine Ord.take (v := ?_) (Or.inl ⟨rfl, ?_⟩) ?_; rotate_left; (intro w hSw; (try dsimp only at hSw); go_simp; try (with_reducible rfl)); (try simp only [Act.put, List.setIfInBounds_toArray, List.set_cons_zero, List.set_cons_succ]))
              (refine Ord.take (v := ?_) (Or.inl ⟨rfl, ?_⟩) ?_; rotate_left; (intro w hSw; (try dsimp only at hSw); go_simp; try (with_reducible rfl)); (try simp only [Act.put, List.setIfInBounds_toArray, List.set_cons_zero, List.set_cons_succ]))
              (refine Ord.take (v := ?_) (Or.inl ⟨rfl, ?_⟩) ?_; rotate_left; (intro w hSw; (try dsimp only at hSw); go_simp; try (with_reducible rfl)); (try simp only [Act.put, List.setIfInBounds_toArray, List.set_cons_zero, List.set_cons_succ]))
              (refine Ord.take (v := ?_) (Or.inl ⟨rfl, ?_⟩) ?_; rotate_left; (intro w hSw; (try dsimp only at hSw); go_simp; try (with_reducible rfl)); (try simp only [Act.put, List.setIfInBounds_toArray, List.set_cons_zero, List.set_cons_succ]))
              (refine Ord.take (v := ?_) (Or.inl ⟨rfl, ?_⟩) ?_; rotate_left; (intro w hSw; (try dsimp only at hSw); go_simp; try (with_reducible rfl)); (try simp only [Act.put, List.setIfInBounds_toArray, List.set_cons_zero, List.set_cons_succ]))
              (refine Ord.take (v := ?_) (Or.inl ⟨rfl, ?_⟩) ?_; rotate_left; (intro w hSw; (try dsimp only at hSw); go_simp; try (with_reducible rfl)); (try simp only [Act.put, List.setIfInBounds_toArray, List.set_cons_zero, List.set_cons_succ]))
              (refine Ord.take (v := ?_) (Or.inl ⟨rfl, ?_⟩) ?_; rotate_left; (intro w hSw; (try dsimp only at hSw); go_simp; try (with_reducible rfl)); (try simp only [Act.put, List.setIfInBounds_toArray, List.set_cons_zero, List.set_cons_succ]))
              (refine Ord.take (v := ?_) (Or.inl ⟨rfl, ?_⟩) ?_; rotate_left; (intro w hSw; (try dsimp only at hSw); go_simp; try (with_reducible rfl)); (try simp only [Act.put, List.setIfInBounds_toArray, List.set_cons_zero, List.set_cons_succ]))
              (refine Ord.take (v := ?_) (Or.inl ⟨rfl, ?_⟩) ?_; rotate_left; (intro w hSw; (try dsimp only at hSw); go_simp; try (with_reducible rfl)); (try simp only [Act.put, List.setIfInBounds_toArray, List.set_cons_zero, List.set_cons_succ]))
              (refine Ord.take (v := ?_) (Or.inl ⟨rfl, ?_⟩) ?_; rotate_left; (intro w hSw; (try dsimp only at hSw); go_simp; try (with_reducible rfl)); (try simp only [Act.put, List.setIfInBounds_toArray, List.set_cons_zero, List.set_cons_succ]))
              (refine Ord.take (v := ?_) (Or.inl ⟨rfl, ?_⟩) ?_; rotate_left; (intro w hSw; (try dsimp only at hSw); go_simp; try (with_reducible rfl)); (try simp only [Act.put, List.setIfInBounds_toArray, List.set_cons_zero, List.set_cons_succ]))
              (refine Ord.take (v := ?_) (Or.inl ⟨rfl, ?_⟩) ?_; rotate_left; (intro w hSw; (try dsimp only at hSw); go_simp; try (with_reducible rfl)); (try simp only [Act.put, List.setIfInBounds_toArray, List.set_cons_zero, List.set_cons_succ]))
              (refine Ord.take (v := ?_) (Or.inl ⟨rfl, ?_⟩) ?_; rotate_left; (intro w hSw; (try dsimp only at hSw); go_simp; try (with_reducible rfl)); (try simp only [Act.put, List.setIfInBounds_toArray, List.set_cons_zero, List.set_cons_succ]))
              (refine Ord.take (v := ?_) (Or.inl ⟨rfl, ?_⟩) ?_; rotate_left; (intro w hSw; (try dsimp only at hSw); go_simp; try (with_reducible rfl)); (try simp only [Act.put, List.setIfInBounds_toArray, List.set_cons_zero, List.set_cons_succ]))
              (refine Ord.take (v := ?_) (Or.inl ⟨rfl, ?_⟩) ?_; rotate_left; (intro w hSw; (try dsimp only at hSw); go_simp; try (with_reducible rfl)); (try simp only [Act.put, List.setIfInBounds_toArray, List.set_cons_zero, List.set_cons_succ]))
              (refine Ord.take (v := ?_) (Or.inl ⟨rfl, ?_⟩) ?_; rotate_left; (intro w hSw; (try dsimp only at hSw); go_simp; try (with_reducible rfl)); (try simp only [Act.put, List.setIfInBounds_toArray, List.set_cons_zero, List.set_cons_succ]))
              (refine Ord.take (v := ?_) (Or.inl ⟨rfl, ?_⟩) ?_; rotate_left; (intro w hSw; (try dsimp only at hSw); go_simp; try (with_reducible rfl)); (try simp only [Act.put, List.setIfInBounds_toArray, List.set_cons_zero, List.set_cons_succ]))
              (refine Ord.take (v := ?_) (Or.inl ⟨rfl, ?_⟩) ?_; rotate_left; (intro w hSw; (try dsimp only at hSw); go_simp; try (with_reducible rfl)); (try simp only [Act.put, List.setIfInBounds_toArray, List.set_cons_zero, List.set_cons_succ]))
              (refine Ord.take (v := ?_) (Or.inl ⟨rfl, ?_⟩) ?_; rotate_left; (intro w hSw; (try dsimp only at hSw); go_simp; try (with_reducible rfl)); (try simp only [Act.put, List.setIfInBounds_toArray, List.set_cons_zero, List.set_cons_succ]))
              (refine Ord.take (v := ?_) (Or.inl ⟨rfl, ?_⟩) ?_; rotate_left; (intro w hSw; (try dsimp only at hSw); go_simp; try (with_reducible rfl)); (try simp only [Act.put, List.setIfInBounds_toArray, List.set_cons_zero, List.set_cons_succ]))
              (refine Ord.take (v := ?_) (Or.inl ⟨rfl, ?_⟩) ?_; rotate_left; (intro w hSw; (try dsimp only at hSw); go_simp; try (with_reducible rfl)); (try simp only [Act.put, List.setIfInBounds_toArray, List.set_cons_zero, List.set_cons_succ]))
              (refine Ord.take (v := ?_) (Or.inl ⟨rfl, ?_⟩) ?_; rotate_left; (intro w hSw; (try dsimp only at hSw); go_simp; try (with_reducible rfl)); (try simp only [Act.put, List.setIfInBounds_toArray, List.set_cons_zero, List.set_cons_succ]))
              (refine Ord.take (v := ?_) (Or.inl ⟨rfl, ?_⟩) ?_; rotate_left; (intro w hSw; (try dsimp only at hSw); go_simp; try (with_reducible rfl)); (try simp only [Act.put, List.setIfInBounds_toArray, List.set_cons_zero, List.set_cons_succ]))
              (refine Ord.take (v := ?_) (Or.inl ⟨rfl, ?_⟩) ?_; rotate_left; (intro w hSw; (try dsimp only at hSw); go_simp; try (with_reducible rfl)); (try simp only [Act.put, List.setIfInBounds_toArray, List.set_cons_zero, List.set_cons_succ]))
              (refine Ord.take (v := ?_) (Or.inl ⟨rfl, ?_⟩) ?_; rotate_left; (intro w hSw; (try dsimp only at hSw); go_simp; try (with_reducible rfl)); (try simp only [Act.put, List.setIfInBounds_toArray, List.set_cons_zero, List.set_cons_succ]))
              (refine Ord.take (v := ?_) (Or.inl ⟨rfl, ?_⟩) ?_; rotate_left; (intro w hSw; (try dsimp only at hSw); go_simp; try (with_reducible rfl)); (try simp only [Act.put, List.setIfInBounds_toArray, List.set_cons_zero, List.set_cons_succ]))
              (refine Ord.take (v := ?_) (Or.inl ⟨rfl, ?_⟩) ?_; rotate_left; (intro w hSw; (try dsimp only at hSw); go_simp; try (with_reducible rfl)); (try simp only [Act.put, List.setIfInBounds_toArray, List.set_cons_zero, List.set_cons_succ]))
              (refine Ord.take (v := ?_) (Or.inl ⟨rfl, ?_⟩) ?_; rotate_left; (intro w hSw; (try dsimp only at hSw); go_simp; try (with_reducible rfl)); (try simp only [Act.put, List.setIfInBounds_toArray, List.set_cons_zero, List.set_cons_succ]))
              (refine Ord.take (v := ?_) (Or.inl ⟨rfl, ?_⟩) ?_; rotate_left; (intro w hSw; (try dsimp only at hSw); go_simp; try (with_reducible rfl)); (try simp only [Act.put, List.setIfInBounds_toArray, List.set_cons_zero, List.set_cons_succ]))
              (refine Ord.take (v := ?_) (Or.inl ⟨rfl, ?_⟩) ?_; rotate_left; (intro w hSw; (try dsimp only at hSw); go_simp; try (with_reducible rfl)); (try simp only [Act.put, List.setIfInBounds_toArray, List.set_cons_zero, List.set_cons_succ]))
              (refine Ord.take (v := ?_) (Or.inl ⟨rfl, ?_⟩) ?_; rotate_left; (intro w hSw; (try dsimp only at hSw); go_simp; try (with_reducible rfl)); (try simp only [Act.put, List.setIfInBounds_toArray, List.set_cons_zero, List.set_cons_succ]))
              (refine Ord.take (v := ?_) (Or.inl ⟨rfl, ?_⟩) ?_; rotate_left; (intro w hSw; (try dsimp only at hSw); go_simp; try (with_reducible rfl)); (try simp only [Act.put, List.setIfInBounds_toArray, List.set_cons_zero, List.set_cons_succ]))
              (refine Ord.take (v := ?_) (Or.inl ⟨rfl, ?_⟩) ?_; rotate_left; (intro w hSw; (try dsimp only at hSw); go_simp; try (with_reducible rfl)); (try simp only [Act.put, List.setIfInBounds_toArray, List.set_cons_zero, List.set_cons_succ]))
              (refine Ord.take (v := ?_) (Or.inl ⟨rfl, ?_⟩) ?_; rotate_left; (intro w hSw; (try dsimp only at hSw); go_simp; try (with_reducible rfl)); (try simp only [Act.put, List.setIfInBounds_toArray, List.set_cons_zero, List.set_cons_succ]))
              (refine Ord.take (v := ?_) (Or.inl ⟨rfl, ?_⟩) ?_; rotate_left; (intro w hSw; (try dsimp only at hSw); go_simp; try (with_reducible rfl)); (try simp only [Act.put, List.setIfInBounds_toArray, List.set_cons_zero, List.set_cons_succ]))
              (refine Ord.take (v := ?_) (Or.inl ⟨rfl, ?_⟩) ?_; rotate_left; (intro w hSw; (try dsimp only at hSw); go_simp; try (with_reducible rfl)); (try simp only [Act.put, List.setIfInBounds_toArray, List.set_cons_zero, List.set_cons_succ]))
              (refine Ord.take (v := ?_) (Or.inl ⟨rfl, ?_⟩) ?_; rotate_left; (intro w hSw; (try dsimp only at hSw); go_simp; try (with_reducible rfl)); (try simp only [Act.put, List.setIfInBounds_toArray, List.set_cons_zero, List.set_cons_succ]))
              (refine Ord.take (v := ?_) (Or.inl ⟨rfl, ?_⟩) ?_; rotate_left; (intro w hSw; (try dsimp only at hSw); go_simp; try (with_reducible rfl)); (try simp only [Act.put, List.setIfInBounds_toArray, List.set_cons_zero, List.set_cons_succ]))
              (refine Ord.take (v := ?_) (Or.inl ⟨rfl, ?_⟩) ?_; rotate_left; (intro w hSw; (try dsimp only at hSw); go_simp; try (with_reducible rfl)); (try simp only [Act.put, List.setIfInBounds_toArray, List.set_cons_zero, List.set_cons_succ]))
              (refine Ord.take (v := ?_) (Or.inl ⟨rfl, ?_⟩) ?_; rotate_left; (intro w hSw; (try dsimp only at hSw); go_simp; try (with_reducible rfl)); (try simp only [Act.put, List.setIfInBounds_toArray, List.set_cons_zero, List.set_cons_succ]))
              (refine Ord.take (v := ?_) (Or.inl ⟨rfl, ?_⟩) ?_; rotate_left; (intro w hSw; (try dsimp only at hSw); go_simp; try (with_reducible rfl)); (try simp only [Act.put, List.setIfInBounds_toArray, List.set_cons_zero, List.set_cons_succ]))
              (refine Ord.take (v := ?_) (Or.inl ⟨rfl, ?_⟩) ?_; rotate_left; (intro w hSw; (try dsimp only at hSw); go_simp; try (with_reducible rfl)); (try simp only [Act.put, List.setIfInBounds_toArray, List.set_cons_zero, List.set_cons_succ]))
              (refine Ord.take (v := ?_) (Or.inl ⟨rfl, ?_⟩) ?_; rotate_left; (intro w hSw; (try dsimp only at hSw); go_simp; try (with_reducible rfl)); (try simp only [Act.put, List.setIfInBounds_toArray, List.set_cons_zero, List.set_cons_succ]))
              (refine Ord.take (v := ?_) (Or.inl ⟨rfl, ?_⟩) ?_; rotate_left; (intro w hSw; (try dsimp only at hSw); go_simp; try (with_reducible rfl)); (try simp only [Act.put, List.setIfInBounds_toArray, List.set_cons_zero, List.set_cons_succ]))
              (refine Ord.take (v := ?_) (Or.inl ⟨rfl, ?_⟩) ?_; rotate_left; (intro w hSw; (try dsimp only at hSw); go_simp; try (with_reducible rfl)); (try simp only [Act.put, List.setIfInBounds_toArray, List.set_cons_zero, List.set_cons_succ]))
              (refine Ord.take (v := ?_) (Or.inl ⟨rfl, ?_⟩) ?_; rotate_left; (intro w hSw; (try dsimp only at hSw); go_simp; try (with_reducible rfl)); (try simp only [Act.put, List.setIfInBounds_toArray, List.set_cons_zero, List.set_cons_succ]))
              (refine Ord.take (v := ?_) (Or.inl ⟨rfl, ?_⟩) ?_; rotate_left; (intro w hSw; (try dsimp only at hSw); go_simp; try (with_reducible rfl)); (try simp only [Act.put, List.setIfInBounds_toArray, List.set_cons_zero, List.set_cons_succ]))
              (refine Ord.take (v := ?_) (Or.inl ⟨rfl, ?_⟩) ?_; rotate_left; (intro w hSw; (try dsimp only at hSw); go_simp; try (with_reducible rfl)); (try simp only [Act.put, List.setIfInBounds_toArray, List.set_cons_zero, List.set_cons_succ]))
              (refine Ord.take (v := ?_) (Or.inl ⟨rfl, ?_⟩) ?_; rotate_left; (intro w hSw; (try dsimp only at hSw); go_simp; try (with_reducible rfl)); (try simp only [Act.put, List.setIfInBounds_toArray, List.set_cons_zero, List.set_cons_succ]))
              (refine Ord.take (v := ?_) (Or.inl ⟨rfl, ?_⟩) ?_; rotate_left; (intro w hSw; (try dsimp only at hSw); go_simp; try (with_reducible rfl)); (try simp only [Act.put, List.setIfInBounds_toArray, List.set_cons_zero, List.set_cons_succ]))
              (refine Ord.take (v := ?_) (Or.inl ⟨rfl, ?_⟩) ?_; rotate_left; (intro w hSw; (try dsimp only at hSw); go_simp; try (with_reducible rfl)); (try simp only [Act.put, List.setIfInBounds_toArray, List.set_cons_zero, List.set_cons_succ]))
              (refine Ord.take (v := ?_) (Or.inl ⟨rfl, ?_⟩) ?_; rotate_left; (intro w hSw; (try dsimp only at hSw); go_simp; try (with_reducible rfl)); (try simp only [Act.put, List.setIfInBounds_toArray, List.set_cons_zero, List.set_cons_succ]))
              (refine Ord.take (v := ?_) (Or.inl ⟨rfl, ?_⟩) ?_; rotate_left; (intro w hSw; (try dsimp only at hSw); go_simp; try (with_reducible rfl)); (try simp only [Act.put, List.setIfInBounds_toArray, List.set_cons_zero, List.set_cons_succ]))
              (refine Ord.take (v := ?_) (Or.inl ⟨rfl, ?_⟩) ?_; rotate_left; (intro w hSw; (try dsimp only at hSw); go_simp; try (with_reducible rfl)); (try simp only [Act.put, List.setIfInBounds_toArray, List.set_cons_zero, List.set_cons_succ]))
              (refine Ord.take (v := ?_) (Or.inl ⟨rfl, ?_⟩) ?_; rotate_left; (intro w hSw; (try dsimp only at hSw); go_simp; try (with_reducible rfl)); (try simp only [Act.put, List.setIfInBounds_toArray, List.set_cons_zero, List.set_cons_succ]))
              (refine Ord.take (v := ?_) (Or.inl ⟨rfl, ?_⟩) ?_; rotate_left; (intro w hSw; (try dsimp only at hSw); go_simp; try (with_reducible rfl)); (try simp only [Act.put, List.setIfInBounds_toArray, List.set_cons_zero, List.set_cons_succ]))
              (refine Ord.take (v := ?_) (Or.inl ⟨rfl, ?_⟩) ?_; rotate_left; (intro w hSw; (try dsimp only at hSw); go_simp; try (with_reducible rfl)); (try simp only [Act.put, List.setIfInBounds_toArray, List.set_cons_zero, List.set_cons_succ]))
              (refine Ord.take (v := ?_) (Or.inl ⟨rfl, ?_⟩) ?_; rotate_left; (intro w hSw; (try dsimp only at hSw); go_simp; try (with_reducible rfl)); (try simp only [Act.put, List.setIfInBounds_toArray, List.set_cons_zero, List.set_cons_succ]))
              (refine Ord.take (v := ?_) (Or.inl ⟨rfl, ?_⟩) ?_; rotate_left; (intro w hSw; (try dsimp only at hSw); go_simp; try (with_reducible rfl)); (try simp only [Act.put, List.setIfInBounds_toArray, List.set_cons_zero, List.set_cons_succ]))
              (refine Ord.take (v := ?_) (Or.inl ⟨rfl, ?_⟩) ?_; rotate_left; (intro w hSw; (try dsimp only at hSw); go_simp; try (with_reducible rfl)); (try simp only [Act.put, List.setIfInBounds_toArray, List.set_cons_zero, List.set_cons_succ]))
              (refine Ord.take (v := ?_) (Or.inl ⟨rfl, ?_⟩) ?_; rotate_left; (intro w hSw; (try dsimp only at hSw); go_simp; try (with_reducible rfl)); (try simp only [Act.put, List.setIfInBounds_toArray, List.set_cons_zero, List.set_cons_succ]))
              (refine Ord.take (v := ?_) (Or.inl ⟨rfl, ?_⟩) ?_; rotate_left; (intro w hSw; (try dsimp only at hSw); go_simp; try (with_reducible rfl)); (try simp only [Act.put, List.setIfInBounds_toArray, List.set_cons_zero, List.set_cons_succ]))
              (refine Ord.take (v := ?_) (Or.inl ⟨rfl, ?_⟩) ?_; rotate_left; (intro w hSw; (try dsimp only at hSw); go_simp; try (with_reducible rfl)); (try simp only [Act.put, List.setIfInBounds_toArray, List.set_cons_zero, List.set_cons_succ]))
              (refine Ord.take (v := ?_) (Or.inl ⟨rfl, ?_⟩) ?_; rotate_left; (intro w hSw; (try dsimp only at hSw); go_simp; try (with_reducible rfl)); (try simp only [Act.put, List.setIfInBounds_toArray, List.set_cons_zero, List.set_cons_succ]))
              (refine Ord.take (v := ?_) (Or.inl ⟨rfl, ?_⟩) ?_; rotate_left; (intro w hSw; (try dsimp only at hSw); go_simp; try (with_reducible rfl)); (try simp only [Act.put, List.setIfInBounds_toArray, List.set_cons_zero, List.set_cons_succ]))
              (refine Ord.take (v := ?_) (Or.inl ⟨rfl, ?_⟩) ?_; rotate_left; (intro w hSw; (try dsimp only at hSw); go_simp; try (with_reducible rfl)); (try simp only [Act.put, List.setIfInBounds_toArray, List.set_cons_zero, List.set_cons_succ]))
              (refine Ord.take (v := ?_) (Or.inl ⟨rfl, ?_⟩) ?_; rotate_left; (intro w hSw; (try dsimp only at hSw); go_simp; try (with_reducible rfl)); (try simp only [Act.put, List.setIfInBounds_toArray, List.set_cons_zero, List.set_cons_succ]))
              (refine Ord.take (v := ?_) (Or.inl ⟨rfl, ?_⟩) ?_; rotate_left; (intro w hSw; (try dsimp only at hSw); go_simp; try (with_reducible rfl)); (try simp only [Act.put, List.setIfInBounds_toArray, List.set_cons_zero, List.set_cons_succ]))
              (refine Ord.take (v := ?_) (Or.inl ⟨rfl, ?_⟩) ?_; rotate_left; (intro w hSw; (try dsimp only at hSw); go_simp; try (with_reducible rfl)); (try simp only [Act.put, List.setIfInBounds_toArray, List.set_cons_zero, List.set_cons_succ]))
              (refine Ord.take (v := ?_) (Or.inl ⟨rfl, ?_⟩) ?_; rotate_left; (intro w hSw; (try dsimp only at hSw); go_simp; try (with_reducible rfl)); (try simp only [Act.put, List.setIfInBounds_toArray, List.set_cons_zero, List.set_cons_succ]))
              (refine Ord.take (v := ?_) (Or.inl ⟨rfl, ?_⟩) ?_; rotate_left; (intro w hSw; (try dsimp only at hSw); go_simp; try (with_reducible rfl)); (try simp only [Act.put, List.setIfInBounds_toArray, List.set_cons_zero, List.set_cons_succ]))
              (refine Ord.take (v := ?_) (Or.inl ⟨rfl, ?_⟩) ?_; rotate_left; (intro w hSw; (try dsimp only at hSw); go_simp; try (with_reducible rfl)); (try simp only [Act.put, List.setIfInBounds_toArray, List.set_cons_zero, List.set_cons_succ]))
              (refine Ord.take (v := ?_) (Or.inl ⟨rfl, ?_⟩) ?_; rotate_left; (intro w hSw; (try dsimp only at hSw); go_simp; try (with_reducible rfl)); (try simp only [Act.put, List.setIfInBounds_toArray, List.set_cons_zero, List.set_cons_succ]))
              (refine Ord.take (v := ?_) (Or.inl ⟨rfl, ?_⟩) ?_; rotate_left; (intro w hSw; (try dsimp only at hSw); go_simp; try (with_reducible rfl)); (try simp only [Act.put, List.setIfInBounds_toArray, List.set_cons_zero, List.set_cons_succ]))
              (refine Ord.take (v := ?_) (Or.inl ⟨rfl, ?_⟩) ?_; rotate_left; (intro w hSw; (try dsimp only at hSw); go_simp; try (with_reducible rfl)); (try simp only [Act.put, List.setIfInBounds_toArray, List.set_cons_zero, List.set_cons_succ]))
              refine Ord.done (NoPanic.normal ?_)
              go_wp2_with fail
              go_meet
              exact ⟨rfl, hS0.1⟩
          case rest => as_aux_lemma =>
          obtain ⟨rfl, HD14⟩ := hcut
          have hSQ2 := hSQ _ HD14
          go_wp2_with fail
          refine wp_region_noPanic ?_
          refine Ord.region_ord (S := fun Z => Drawn wr Z ∧ Z.cell? ⟨b5, o5 + q * 5, none⟩ = some (.int .i64 m) ∧ Z.cell? ⟨b5, o5 + q * 5 + 1, none⟩ = some (.int .i64 n) ∧ Z.cell? ⟨b5, o5 + q * 5 + 2, none⟩ = some (.int .i64 yv) ∧ Z.cell? ⟨b5, o5 + q * 5 + 3, none⟩ = some (.int .i64 pw) ∧ Z.cell? ⟨b5, o5 + q * 5 + 4, none⟩ = some (.int .i64 ph) ∧ Z.cell? ⟨b3, o3 + k * 4, none⟩ = some (.int .i64 i) ∧ Z.cell? ⟨b3, o3 + k * 4 + 1, none⟩ = some (.int .i64 T) ∧ Z.cell? ⟨b3, o3 + k * 4 + 3, none⟩ = some (.int .i64 ht) ∧ Z.cell? ⟨w.heap.size, 1, none⟩ = some (.int .i64 Y) ∧ Z.cell? ⟨b1, o1 + m * 57 + 3, none⟩ = some (.int .i64 pw)) [(0, true), (1, true), (2, true), (3, true), (4, true), (5, true), (6, true), (7, true), (8, true), (9, true), (10, true), (11, true), (12, true), (13, true)] (by kernel_rfl) (by kernel_rfl) (by kernel_rfl) (by decide) (fun _ _ _ _ _ h => h) (hSQ _ HD14.drew) (fun hS0 => ?_)
          simp only [Ord.lay, List.getElem?_cons_zero, List.getElem?_cons_succ]
          (refine Ord.take (v := ?_) (Or.inl ⟨rfl, ?_⟩) ?_; rotate_left; (intro w hSw; (try dsimp only at hSw); go_simp; try (with_reducible rfl)); (try simp only [Act.put, List.setIfInBounds_toArray, List.set_cons_zero, List.set_cons_succ]))
          (refine Ord.take (v := ?_) (Or.inl ⟨rfl, ?_⟩) ?_; rotate_left; (intro w hSw; (try dsimp only at hSw); go_simp; try (with_reducible rfl)); (try simp only [Act.put, List.setIfInBounds_toArray, List.set_cons_zero, List.set_cons_succ]))
          (refine Ord.take (v := ?_) (Or.inl ⟨rfl, ?_⟩) ?_; rotate_left; (intro w hSw; (try dsimp only at hSw); go_simp; try (with_reducible rfl)); (try simp only [Act.put, List.setIfInBounds_toArray, List.set_cons_zero, List.set_cons_succ]))
          (refine Ord.take (v := ?_) (Or.inl ⟨rfl, ?_⟩) ?_; rotate_left; (intro w hSw; (try dsimp only at hSw); go_simp; try (with_reducible rfl)); (try simp only [Act.put, List.setIfInBounds_toArray, List.set_cons_zero, List.set_cons_succ]))
          (refine Ord.take (v := ?_) (Or.inl ⟨rfl, ?_⟩) ?_; rotate_left; (intro w hSw; (try dsimp only at hSw); go_simp; try (with_reducible rfl)); (try simp only [Act.put, List.setIfInBounds_toArray, List.set_cons_zero, List.set_cons_succ]))
          (refine Ord.take (v := ?_) (Or.inl ⟨rfl, ?_⟩) ?_; rotate_left; (intro w hSw; (try dsimp only at hSw); go_simp; try (with_reducible rfl)); (try simp only [Act.put, List.setIfInBounds_toArray, List.set_cons_zero, List.set_cons_succ]))
          (refine Ord.take (v := ?_) (Or.inl ⟨rfl, ?_⟩) ?_; rotate_left; (intro w hSw; (try dsimp only at hSw); go_simp; try (with_reducible rfl)); (try simp only [Act.put, List.setIfInBounds_toArray, List.set_cons_zero, List.set_cons_succ]))
          (refine Ord.take (v := ?_) (Or.inl ⟨rfl, ?_⟩) ?_; rotate_left; (intro w hSw; (try dsimp only at hSw); go_simp; try (with_reducible rfl)); (try simp only [Act.put, List.setIfInBounds_toArray, List.set_cons_zero, List.set_cons_succ]))
          (refine Ord.take (v := ?_) (Or.inl ⟨rfl, ?_⟩) ?_; rotate_left; (intro w hSw; (try dsimp only at hSw); go_simp; try (with_reducible rfl)); (try simp only [Act.put, List.setIfInBounds_toArray, List.set_cons_zero, List.set_cons_succ]))
          (refine Ord.take (v := ?_) (Or.inl ⟨rfl, ?_⟩) ?_; rotate_left; (intro w hSw; (try dsimp only at hSw); go_simp; try (with_reducible rfl)); (try simp only [Act.put, List.setIfInBounds_toArray, List.set_cons_zero, List.set_cons_succ]))
          (refine Ord.take (v := ?_) (Or.inl ⟨rfl, ?_⟩) ?_; rotate_left; (intro w hSw; (try dsimp only at hSw); go_simp; try (with_reducible rfl)); (try simp only [Act.put, List.setIfInBounds_toArray, List.set_cons_zero, List.set_cons_succ]))
          (refine Ord.take (v := ?_) (Or.inl ⟨rfl, ?_⟩) ?_; rotate_left; (intro w hSw; (try dsimp only at hSw); go_simp; try (with_reducible rfl)); (try simp only [Act.put, List.setIfInBounds_toArray, List.set_cons_zero, List.set_cons_succ]))
          (refine Ord.take (v := ?_) (Or.inl ⟨rfl, ?_⟩) ?_; rotate_left; (intro w hSw; (try dsimp only at hSw); go_simp; try (with_reducible rfl)); (try simp only [Act.put, List.setIfInBounds_toArray, List.set_cons_zero, List.set_cons_succ]))
          (refine Ord.take (v := ?_) (Or.inl ⟨rfl, ?_⟩) ?_; rotate_left; (intro w hSw; (try dsimp only at hSw); go_simp; try (with_reducible rfl)); (try simp only [Act.put, List.setIfInBounds_toArray, List.set_cons_zero, List.set_cons_succ]))
          refine Ord.done (NoPanic.normal ?_)
          obtain ⟨HDx, -, z1, -, z3, -⟩ := hS0
          clear hSQ hSQ2
          go_wp2_with fail
          go_roundg (RR.length - (q + 1))
          case rel => exact ⟨q + 1, m + 1, n + pw, m, s + pw, rfl, by omega, by go_num, rfl, rfl, rfl, by omega, by omega, by omega, by omega, by omega, hsw, HTE, HSE, .inr ⟨by rw [← HN.out]; omega, by omega⟩, HD.trans HDx⟩
          case measure => omega
        · as_aux_lemma =>
          obtain rfl : q = RR.length := by omega
          have hnil := HRD.out
          rw [List.drop_of_length_le (Nat.le_refl _)] at hnil
          have hz0 := runs_none HBB.out (z - j) rfl (by omega) hnil.symm
          obtain rfl : s = wd := by have := HSD.out; omega
          have hh : wr.heap.size = w9.heap.size := by rw [HD.heap]
          clear hnil hz0 HSD HRD
          rcases Nat.eq_zero_or_pos RR.length with h0 | h0
          · have g0 : ((RR.length : Int) == 0) = true := by simp [h0]
            have hI8 : Blk wr w.heap.size 59 (rect4 X Y W 0) ∧ Below w.heap.size w wr ∧ Pcs wr wr.heap.size (some ⟨b1, o1, none⟩) P ∧ Lns wr wr.heap.size (some ⟨b3, o3, none⟩) La := by
              rw [hh]
              exact ⟨hI1.drawn HD, hI2.trans (HD.below _), hI3.drawn HD, hI4.drawn HD⟩
            clear hh h0
            go_wp2_with fail
            go_roundg (La.length - (k + 1))
            case rel => exact ⟨k + 1, rfl, by omega, by go_num, hI8⟩
            case measure => omega
          · have g0 : ((RR.length : Int) == 0) = false := beq_eq_false_iff_ne.2 (by omega)
            obtain ⟨rfl, -⟩ : en = lf + s ∧ 0 < RR.length := by
              rcases hen with ⟨_, h, _⟩ | h
              · omega
              · exact h
            clear hen
            obtain ⟨b5, o5, y, rfl, -, hy, -⟩ := hRq.at_ h0
            have hcons : RR = y :: RR.drop 1 := by
              have e := hy.out
              rw [List.getElem?_eq_getElem h0] at e
              have := List.drop_eq_getElem_cons h0
              rw [Option.some.inj e] at this
              simpa using this
            obtain ⟨m, p, -, -, -, hye, -, -⟩ := runs_next HBB.out (z - a) rfl (by omega) (HR.out.symm.trans hcons)
            have u1 := (runs_at hRq hy.out).2.1
            rw [hye] at u1
            simp only [Nat.zero_mul, Nat.add_zero] at u1
            clear hcons hye hy
            obtain ⟨en, hen⟩ : ∃ en, lf + s = en := ⟨_, rfl⟩
            have HEN := hid hen
            rw [hen]
            clear hen
            have gx : IntKind.i64.wrap (X + W) = X + W := IntWalk.i64_in _ (by omega)
            go_upto_region 22 with fail
            go_cut [214] (fun s wx => s = .bool false ∧ Drawn wr wx)
            case first => as_aux_lemma =>
              by_cases a1 : align = 1
              · have e1 : (align == 1) = true := by simpa using a1
                have e0 : (align == 0) = false := by rw [a1]; rfl
                by_cases hle : s ≤ W
                · have e2 : decide (s ≤ W) = true := by simpa using hle
                  have e3 : (en != X + W) = false := by rw [bne_eq_false_iff_eq, ← HEN.out, HG3.out a1 hle]; omega
                  clear a1
                  go_quiet (fail)
                  go_wp2_with fail
                  go_meet
                  exact ⟨rfl, ⟨_, rfl⟩⟩
                · have e2 : decide (s ≤ W) = false := by simpa using hle
                  clear a1
                  go_quiet (fail)
                  go_wp2_with fail
                  go_meet
                  exact ⟨rfl, ⟨_, rfl⟩⟩
              · have e1 : (align == 1) = false := by simpa using a1
                by_cases a0 : align = 0
                · have e0 : (align == 0) = true := by simpa using a0
                  have hlf := HG4.out a0
                  rw [hlf] at u1
                  clear a1 a0 hlf
                  go_quiet (fail)
                  go_wp2_with fail
                  go_meet
                  exact ⟨rfl, ⟨_, rfl⟩⟩
                · have e0 : (align == 0) = false := by simpa using a0
                  clear a1 a0
                  go_quiet (fail)
                  go_wp2_with fail
                  go_meet
                  exact ⟨rfl, ⟨_, rfl⟩⟩
            case rest => as_aux_lemma =>
            obtain ⟨rfl, HD2⟩ := hcut
            have hI8 : Blk wc w.heap.size 59 (rect4 X Y W 0) ∧ Below w.heap.size w wc ∧ Pcs wc wc.heap.size (some ⟨b1, o1, none⟩) P ∧ Lns wc wc.heap.size (some ⟨b3, o3, none⟩) La := by
              rw [HD2.heap, hh]
              exact ⟨(hI1.drawn HD).drawn HD2, (hI2.trans (HD.below _)).trans (HD2.below _), (hI3.drawn HD).drawn HD2, (hI4.drawn HD).drawn HD2⟩
            clear hh h0
            go_wp2_with fail
            go_roundg (La.length - (k + 1))
            case rel => exact ⟨k + 1, rfl, by omega, by go_num, hI8⟩
            case measure => omega
    · obtain rfl : k = La.length := by omega
      obtain ⟨hR, hB, hP, hL⟩ := hI
      go_wp2_with fail
      refine (known15 _).mono ?_
      rintro e w9 ⟨rfl, hb9⟩
      go_wp2_with fail
      go_ret
      exact ⟨rfl, hB.trans (hb9.mono hB.size)⟩
end Go.Proofs.Ytebolanengnpfaa
