/-
  The walk of FlexOrder.
-/
import Derived.Test.YteghacdpfhohoaaWFlexFills
import Derived.Test.YteghacdpfhohoaaPlainF4
namespace Go.Proofs.Yteghacdpfhohoaa
open Go.RowKit Num Mem Opn
set_option linter.unusedVariables false
set_option linter.unusedSimpArgs false
theorem span_at {w : World} {B : Nat} {A : Option Addr} {P : List Sp} (h : Recs w B A 2 Sp.cells P) {k : Nat} (hk : k < P.length) :
    ∃ b off y, A = some ⟨b, off, none⟩ ∧ b < B ∧ Hid (P.getD k sp0 = y) ∧ w.cell? ⟨b, off + k * 2, none⟩ = some (.int .i64 y.at_) ∧ w.cell? ⟨b, off + k * 2 + 1, none⟩ = some (.int .i64 y.size) := by
  obtain ⟨b, off, e, hb, hc⟩ := h (by rintro rfl; simp at hk)
  have hx : P[k]? = some P[k] := List.getElem?_eq_getElem hk
  exact ⟨b, off, P[k], e, hb, hid (by simp [List.getD_eq_getElem?_getD, hk]), hc k _ hx 0 _ rfl, hc k _ hx 1 _ rfl⟩
theorem span_more {w : World} {B b off : Nat} {P : List Sp} (h : Recs w B (some ⟨b, off, none⟩) 2 Sp.cells P) {k : Nat} (hk : k < P.length) :
    ∃ y, Hid (P.getD k sp0 = y) ∧ w.cell? ⟨b, off + k * 2, none⟩ = some (.int .i64 y.at_) ∧ w.cell? ⟨b, off + k * 2 + 1, none⟩ = some (.int .i64 y.size) ∧ w.rangeAt b (off + k * 2) (sp2 y.at_ y.size).toList := by
  obtain ⟨b', off', e, hb, hc⟩ := h (by rintro rfl; simp at hk)
  injection e with e
  injection e with e1 e2 e3
  subst e1 e2
  have hx : P[k]? = some P[k] := List.getElem?_eq_getElem hk
  exact ⟨P[k], hid (by simp [List.getD_eq_getElem?_getD, hk]), hc k _ hx 0 _ rfl, hc k _ hx 1 _ rfl, fun j v hv => hc k _ hx j v hv⟩
theorem item_more {w : World} {B b off : Nat} {l : List It} (h : Recs w B (some ⟨b, off, none⟩) 4 It.cells l) {k : Nat} (hk : k < l.length) :
    ∃ x, Hid (l.getD k it0 = x) ∧ w.cell? ⟨b, off + k * 4 + 1, none⟩ = some (.int .i64 x.outer) := by
  obtain ⟨b', off', e, hb, hc⟩ := h (by rintro rfl; simp at hk)
  injection e with e
  injection e with e1 e2 e3
  subst e1 e2
  have hx : l[k]? = some l[k] := List.getElem?_eq_getElem hk
  exact ⟨l[k], hid (by simp [List.getD_eq_getElem?_getD, hk]), hc k _ hx 1 _ rfl⟩
set_option maxRecDepth 100000 in
set_option maxHeartbeats 16000000 in
theorem walk_FlexOrder (room : Int) (A0 : Option Addr) (l0 : List It) (c0 : Nat) (just : Int) (w : World) (ir : I64 room) (hr : RowI w A0 l0 c0) (ij : I64 just) :
    Calls Try.prog 10 #[.int .i64 room, .slice A0 l0.length c0, .int .i64 just] w fun e w' => e = .returned (.bool true) ∧ Below w.heap.size w w' := by
  obtain ⟨hA0, hlc, hcp, hx⟩ := hr
  have hr1 := few_lo room
  have hr2 := few_hi room
  have hsm := small_it l0
  have hl40 : ((l0.take 40).map it).length ≤ 40 := by simp; omega
  go_enter Try.func10, Try.ntmps10
  go_wp2_with fail
  refine (some_items l0 A0 c0 _ (by omega) hA0 (fun x h => ⟨(hx x h).1, (hx x h).2.1⟩)).mono ?_
  rintro e w1 ⟨v, v', rfl, hb1, ho⟩
  generalize (l0.take 40).map it = l at *
  obtain ⟨A, c, rfl, hc⟩ := own_some ho
  have hA : Recs w1 w1.heap.size A 4 It.cells l := Recs.of_own it_length (by decide) ho
  clear hA0 hlc hcp hx ho
  go_wp2_with fail
  refine (small_any _ _ ir).mono ?_
  rintro e w' ⟨rfl, rfl⟩
  generalize few room = R at *
  go_wp2_with fail
  refine (flex_Places R l A c just _ (by omega) ⟨by omega, by omega⟩ hA).mono ?_
  rintro e w2 ⟨v2, rfl, hb2, hO⟩
  have HF := places_laid (just := just) hsm hr1 hr2 hl40
  replace hA := (hA.below hb2).more hb2.size
  have hB := hb1.trans (hb2.mono hb1.size)
  clear hb1 hb2
  generalize places R l just = P at *
  obtain ⟨AP, cP, rfl, hcP⟩ := own_some hO
  have hP : Recs w2 w2.heap.size AP 2 Sp.cells P := Recs.of_own sp_length (by decide) hO
  clear hO
  obtain ⟨hPL, a, left, s, g, hs, hg, hleft, ha1, ha2, hPk, hj3, hev, hz0, hj1, hj2, hjo, hj3s⟩ := HF
  replace hPL := hid hPL
  replace hPk := hid hPk
  replace hj3 := hid hj3
  clear hev
  replace hz0 := hid hz0
  replace hj1 := hid hj1
  replace hj2 := hid hj2
  replace hjo := hid hjo
  replace hj3s := hid hj3s
  replace hsm := hid hsm
  replace hs := hid hs
  replace hg := hid hg
  replace hleft := hid hleft
  go_wp2_with fail
  go_loopw [10, 11] (fun s10 s11 wr => ∃ k : Nat, k ≤ l.length ∧ s11 = .int .i64 k ∧ s10 = .int .i64 (psum s k + osum l k) ∧ Drawn w2 wr) (fun _ i _ => l.length - (intOf i).toNat)
  case atStart => exact ⟨0, Nat.zero_le _, rfl, rfl, .refl _⟩
  case round =>
    obtain ⟨k, hk, rfl, rfl, hd⟩ := hrel
    have p1 := psum_at hs.out k
    have p3 := osum_bd hsm.out (k := k)
    by_cases hlt : k < l.length
    · have hPr := (hP.drawn hd)
      obtain ⟨bs, os, y1, rfl, hbs, HY1, cy0, cy1⟩ := span_at hPr (k := k) (by rw [hPL.out]; exact hlt)
      obtain ⟨bi, oi, x1, rfl, hbi, HX1, -, -, cx1, -, -⟩ := item_at (hA.drawn hd) hlt
      have HK := hPk.out k hlt
      rw [HY1.out] at HK
      have e1 := congrArg Sp.size HK
      have e2 := congrArg Sp.at_ HK
      simp only at e1 e2
      have b1 := hs.out k
      have b2 := hsm.out k
      rw [← e1] at b1
      rw [HX1.out] at b2
      have HSU : Hid (psum s (k + 1) + osum l (k + 1) = psum s k + osum l k + y1.size + x1.outer) := hid (by simp only [psum, osum]; rw [HX1.out, ← e1]; omega)
      have hw3 : IntKind.i64.wrap (psum s k + osum l k + y1.size) = psum s k + osum l k + y1.size := IntWalk.i64_in _ (by omega)
      have hw4 : IntKind.i64.wrap (psum s k + osum l k + y1.size + x1.outer) = psum s k + osum l k + y1.size + x1.outer := IntWalk.i64_in _ (by omega)
      generalize psum s k + osum l k = SU at *
      have hSB : (fun Z : World => Z.cell? ⟨bs, os + k * 2 + 1, none⟩ = some (.int .i64 y1.size) ∧ Z.cell? ⟨bi, oi + k * 4 + 1, none⟩ = some (.int .i64 x1.outer)) wr.drew := ⟨cy1, cx1⟩
      rcases Nat.eq_zero_or_pos k with h0 | h0
      · have d1 : decide (0 < k) = false := decide_eq_false (by omega)
        have d1' : decide ((0 : Int) < (k : Int)) = false := decide_eq_false (by omega)
        clear e1 e2 HK
        replace h0 := hid h0
        go_upto_region 15 with fail
        refine wp_region_noPanic ?_
        refine Ord.region_Q (S := fun Z : World => Z.cell? ⟨bs, os + k * 2 + 1, none⟩ = some (.int .i64 y1.size) ∧ Z.cell? ⟨bi, oi + k * 4 + 1, none⟩ = some (.int .i64 x1.outer)) 999 (.one 0 true (.one 1 true (.one 2 true (.one 3 true (.one 4 true (.one 5 true (.one 6 true (.one 7 true (.one 8 true (.one 9 true (.one 10 true (.one 11 true (.one 12 true (.one 13 true .nil)))))))))))))) (by kernel_rfl) (by kernel_rfl) (by kernel_rfl) (by decide) (fun _ _ _ _ _ h => h) (hSB) (fun hS0 => ?_)
        simp only [Ord.layT, List.getElem?_cons_zero, List.getElem?_cons_succ]
        (refine Ord.takeQ (v := ?_) (Or.inl ⟨rfl, ?_⟩) ?_; rotate_left; (intro w hSw; (try dsimp only at hSw); go_simp; try (with_reducible rfl)); (try simp only [Act.put, List.setIfInBounds_toArray, List.set_cons_zero, List.set_cons_succ]))
        (refine Ord.takeQ (v := ?_) (Or.inl ⟨rfl, ?_⟩) ?_; rotate_left; (intro w hSw; (try dsimp only at hSw); go_simp; try (with_reducible rfl)); (try simp only [Act.put, List.setIfInBounds_toArray, List.set_cons_zero, List.set_cons_succ]))
        (refine Ord.takeQ (v := ?_) (Or.inl ⟨rfl, ?_⟩) ?_; rotate_left; (intro w hSw; (try dsimp only at hSw); go_simp; try (with_reducible rfl)); (try simp only [Act.put, List.setIfInBounds_toArray, List.set_cons_zero, List.set_cons_succ]))
        (refine Ord.takeQ (v := ?_) (Or.inl ⟨rfl, ?_⟩) ?_; rotate_left; (intro w hSw; (try dsimp only at hSw); go_simp; try (with_reducible rfl)); (try simp only [Act.put, List.setIfInBounds_toArray, List.set_cons_zero, List.set_cons_succ]))
        (refine Ord.takeQ (v := ?_) (Or.inl ⟨rfl, ?_⟩) ?_; rotate_left; (intro w hSw; (try dsimp only at hSw); go_simp; try (with_reducible rfl)); (try simp only [Act.put, List.setIfInBounds_toArray, List.set_cons_zero, List.set_cons_succ]))
        (refine Ord.takeQ (v := ?_) (Or.inl ⟨rfl, ?_⟩) ?_; rotate_left; (intro w hSw; (try dsimp only at hSw); go_simp; try (with_reducible rfl)); (try simp only [Act.put, List.setIfInBounds_toArray, List.set_cons_zero, List.set_cons_succ]))
        (refine Ord.takeQ (v := ?_) (Or.inl ⟨rfl, ?_⟩) ?_; rotate_left; (intro w hSw; (try dsimp only at hSw); go_simp; try (with_reducible rfl)); (try simp only [Act.put, List.setIfInBounds_toArray, List.set_cons_zero, List.set_cons_succ]))
        (refine Ord.takeQ (v := ?_) (Or.inl ⟨rfl, ?_⟩) ?_; rotate_left; (intro w hSw; (try dsimp only at hSw); go_simp; try (with_reducible rfl)); (try simp only [Act.put, List.setIfInBounds_toArray, List.set_cons_zero, List.set_cons_succ]))
        (refine Ord.takeQ (v := ?_) (Or.inl ⟨rfl, ?_⟩) ?_; rotate_left; (intro w hSw; (try dsimp only at hSw); go_simp; try (with_reducible rfl)); (try simp only [Act.put, List.setIfInBounds_toArray, List.set_cons_zero, List.set_cons_succ]))
        (refine Ord.takeQ (v := ?_) (Or.inl ⟨rfl, ?_⟩) ?_; rotate_left; (intro w hSw; (try dsimp only at hSw); go_simp; try (with_reducible rfl)); (try simp only [Act.put, List.setIfInBounds_toArray, List.set_cons_zero, List.set_cons_succ]))
        (refine Ord.takeQ (v := ?_) (Or.inl ⟨rfl, ?_⟩) ?_; rotate_left; (intro w hSw; (try dsimp only at hSw); go_simp; try (with_reducible rfl)); (try simp only [Act.put, List.setIfInBounds_toArray, List.set_cons_zero, List.set_cons_succ]))
        (refine Ord.takeQ (v := ?_) (Or.inl ⟨rfl, ?_⟩) ?_; rotate_left; (intro w hSw; (try dsimp only at hSw); go_simp; try (with_reducible rfl)); (try simp only [Act.put, List.setIfInBounds_toArray, List.set_cons_zero, List.set_cons_succ]))
        (refine Ord.takeQ (v := ?_) (Or.inl ⟨rfl, ?_⟩) ?_; rotate_left; (intro w hSw; (try dsimp only at hSw); go_simp; try (with_reducible rfl)); (try simp only [Act.put, List.setIfInBounds_toArray, List.set_cons_zero, List.set_cons_succ]))
        (refine Ord.takeQ (v := ?_) (Or.inl ⟨rfl, ?_⟩) ?_; rotate_left; (intro w hSw; (try dsimp only at hSw); go_simp; try (with_reducible rfl)); (try simp only [Act.put, List.setIfInBounds_toArray, List.set_cons_zero, List.set_cons_succ]))
        refine Ord.doneQ (NoPanic.normal ?_)
        clear hSB
        go_wp2_with fail
        go_roundw
        case rel => exact ⟨k + 1, by omega, by go_num, by rw [HSU.out], hd.drew⟩
        case measure => simp [intOf]; omega
      · obtain ⟨p, hkp⟩ : ∃ p, k = p + 1 := ⟨k - 1, by omega⟩
        obtain ⟨y0, HY0, cz0, cz1, -⟩ := span_more hPr (k := p) (by rw [hPL.out]; omega)
        obtain ⟨x0, HX0, cu1⟩ := item_more (hA.drawn hd) (k := p) (by omega)
        have HK0 := hPk.out p (by omega)
        rw [HY0.out] at HK0
        have f1 := congrArg Sp.size HK0
        have f2 := congrArg Sp.at_ HK0
        simp only at f1 f2
        have q1 := hs.out p
        have q2 := hsm.out p
        have q3 := hg.out p
        have q4 := psum_at hg.out p
        have q5 := psum_at hs.out p
        have q6 := osum_bd hsm.out (k := p)
        rw [← f1] at q1
        rw [HX0.out] at q2
        have hE : y1.at_ = y0.at_ + y0.size + x0.outer + g.getD p 0 := by
          rw [hkp] at e2
          simp only [psum, osum] at e2
          rw [HX0.out, ← f1] at e2
          omega
        have hw1 : IntKind.i64.wrap (y0.at_ + y0.size) = y0.at_ + y0.size := IntWalk.i64_in _ (by omega)
        have hw2 : IntKind.i64.wrap (y0.at_ + y0.size + x0.outer) = y0.at_ + y0.size + x0.outer := IntWalk.i64_in _ (by omega)
        have d1 : decide (0 < k) = true := decide_eq_true (by omega)
        have d1' : decide ((0 : Int) < (k : Int)) = true := decide_eq_true (by omega)
        have d2 : decide (y1.at_ < y0.at_ + y0.size + x0.outer) = false := decide_eq_false (by omega)
        have i0 : (k : Int) - 1 = (p : Int) := by omega
        have i1 : IntKind.i64.wrap ((k : Int) - 1) = (p : Int) := by rw [i0]; exact IntWalk.i64_in _ (by omega)
        have i2 : IntKind.i64.wrap (p : Int) = (p : Int) := IntWalk.i64_in _ (by omega)
        have i3 : p < l.length := by omega
        have i4 : ¬ ((p : Int) < 0) := by omega
        have i5 : (p : Int).toNat = p := by omega
        have hSA : (fun Z : World => Z.cell? ⟨bs, os + p * 2, none⟩ = some (.int .i64 y0.at_) ∧ Z.cell? ⟨bs, os + p * 2 + 1, none⟩ = some (.int .i64 y0.size) ∧ Z.cell? ⟨bi, oi + p * 4 + 1, none⟩ = some (.int .i64 x0.outer)) wr.drew := ⟨cz0, cz1, cu1⟩
        have hJ : (just != 3) = true → (y1.at_ != y0.at_ + y0.size + x0.outer) = false := fun h => by
          have := hj3.out (by simpa using h) p
          simp only [bne_eq_false_iff_eq]
          omega
        replace hJ := hid hJ
        clear e1 e2 f1 f2 HK HK0 hE hkp q3 q4 q5 q6 p1 p3 h0 q1 q2
        go_upto_region 12 with fail
        refine wp_region_noPanic ?_
        refine Ord.region_Q (S := fun Z : World => Z.cell? ⟨bs, os + p * 2, none⟩ = some (.int .i64 y0.at_) ∧ Z.cell? ⟨bs, os + p * 2 + 1, none⟩ = some (.int .i64 y0.size) ∧ Z.cell? ⟨bi, oi + p * 4 + 1, none⟩ = some (.int .i64 x0.outer)) 999 (.one 0 true (.one 1 true (.one 2 true (.one 3 true (.one 4 true (.one 5 true (.one 6 true (.one 7 true (.one 8 true (.one 9 true (.one 10 true (.one 11 true (.one 12 true (.one 13 true (.one 14 true (.one 15 true (.one 16 true (.one 17 true (.one 18 true (.one 19 true (.one 20 true .nil))))))))))))))))))))) (by kernel_rfl) (by kernel_rfl) (by kernel_rfl) (by decide) (fun _ _ _ _ _ h => h) (hSA) (fun hS0 => ?_)
        simp only [Ord.layT, List.getElem?_cons_zero, List.getElem?_cons_succ]
        (refine Ord.takeQ (v := ?_) (Or.inl ⟨rfl, ?_⟩) ?_; rotate_left; (intro w hSw; (try dsimp only at hSw); go_simp; try (with_reducible rfl)); (try simp only [Act.put, List.setIfInBounds_toArray, List.set_cons_zero, List.set_cons_succ]))
        (refine Ord.takeQ (v := ?_) (Or.inl ⟨rfl, ?_⟩) ?_; rotate_left; (intro w hSw; (try dsimp only at hSw); go_simp; try (with_reducible rfl)); (try simp only [Act.put, List.setIfInBounds_toArray, List.set_cons_zero, List.set_cons_succ]))
        (refine Ord.takeQ (v := ?_) (Or.inl ⟨rfl, ?_⟩) ?_; rotate_left; (intro w hSw; (try dsimp only at hSw); go_simp; try (with_reducible rfl)); (try simp only [Act.put, List.setIfInBounds_toArray, List.set_cons_zero, List.set_cons_succ]))
        (refine Ord.takeQ (v := ?_) (Or.inl ⟨rfl, ?_⟩) ?_; rotate_left; (intro w hSw; (try dsimp only at hSw); go_simp; try (with_reducible rfl)); (try simp only [Act.put, List.setIfInBounds_toArray, List.set_cons_zero, List.set_cons_succ]))
        (refine Ord.takeQ (v := ?_) (Or.inl ⟨rfl, ?_⟩) ?_; rotate_left; (intro w hSw; (try dsimp only at hSw); go_simp; try (with_reducible rfl)); (try simp only [Act.put, List.setIfInBounds_toArray, List.set_cons_zero, List.set_cons_succ]))
        (refine Ord.takeQ (v := ?_) (Or.inl ⟨rfl, ?_⟩) ?_; rotate_left; (intro w hSw; (try dsimp only at hSw); go_simp; try (with_reducible rfl)); (try simp only [Act.put, List.setIfInBounds_toArray, List.set_cons_zero, List.set_cons_succ]))
        (refine Ord.takeQ (v := ?_) (Or.inl ⟨rfl, ?_⟩) ?_; rotate_left; (intro w hSw; (try dsimp only at hSw); go_simp; try (with_reducible rfl)); (try simp only [Act.put, List.setIfInBounds_toArray, List.set_cons_zero, List.set_cons_succ]))
        (refine Ord.takeQ (v := ?_) (Or.inl ⟨rfl, ?_⟩) ?_; rotate_left; (intro w hSw; (try dsimp only at hSw); go_simp; try (with_reducible rfl)); (try simp only [Act.put, List.setIfInBounds_toArray, List.set_cons_zero, List.set_cons_succ]))
        (refine Ord.takeQ (v := ?_) (Or.inl ⟨rfl, ?_⟩) ?_; rotate_left; (intro w hSw; (try dsimp only at hSw); go_simp; try (with_reducible rfl)); (try simp only [Act.put, List.setIfInBounds_toArray, List.set_cons_zero, List.set_cons_succ]))
        (refine Ord.takeQ (v := ?_) (Or.inl ⟨rfl, ?_⟩) ?_; rotate_left; (intro w hSw; (try dsimp only at hSw); go_simp; try (with_reducible rfl)); (try simp only [Act.put, List.setIfInBounds_toArray, List.set_cons_zero, List.set_cons_succ]))
        (refine Ord.takeQ (v := ?_) (Or.inl ⟨rfl, ?_⟩) ?_; rotate_left; (intro w hSw; (try dsimp only at hSw); go_simp; try (with_reducible rfl)); (try simp only [Act.put, List.setIfInBounds_toArray, List.set_cons_zero, List.set_cons_succ]))
        (refine Ord.takeQ (v := ?_) (Or.inl ⟨rfl, ?_⟩) ?_; rotate_left; (intro w hSw; (try dsimp only at hSw); go_simp; try (with_reducible rfl)); (try simp only [Act.put, List.setIfInBounds_toArray, List.set_cons_zero, List.set_cons_succ]))
        (refine Ord.takeQ (v := ?_) (Or.inl ⟨rfl, ?_⟩) ?_; rotate_left; (intro w hSw; (try dsimp only at hSw); go_simp; try (with_reducible rfl)); (try simp only [Act.put, List.setIfInBounds_toArray, List.set_cons_zero, List.set_cons_succ]))
        (refine Ord.takeQ (v := ?_) (Or.inl ⟨rfl, ?_⟩) ?_; rotate_left; (intro w hSw; (try dsimp only at hSw); go_simp; try (with_reducible rfl)); (try simp only [Act.put, List.setIfInBounds_toArray, List.set_cons_zero, List.set_cons_succ]))
        (refine Ord.takeQ (v := ?_) (Or.inl ⟨rfl, ?_⟩) ?_; rotate_left; (intro w hSw; (try dsimp only at hSw); go_simp; try (with_reducible rfl)); (try simp only [Act.put, List.setIfInBounds_toArray, List.set_cons_zero, List.set_cons_succ]))
        (refine Ord.takeQ (v := ?_) (Or.inl ⟨rfl, ?_⟩) ?_; rotate_left; (intro w hSw; (try dsimp only at hSw); go_simp; try (with_reducible rfl)); (try simp only [Act.put, List.setIfInBounds_toArray, List.set_cons_zero, List.set_cons_succ]))
        (refine Ord.takeQ (v := ?_) (Or.inl ⟨rfl, ?_⟩) ?_; rotate_left; (intro w hSw; (try dsimp only at hSw); go_simp; try (with_reducible rfl)); (try simp only [Act.put, List.setIfInBounds_toArray, List.set_cons_zero, List.set_cons_succ]))
        (refine Ord.takeQ (v := ?_) (Or.inl ⟨rfl, ?_⟩) ?_; rotate_left; (intro w hSw; (try dsimp only at hSw); go_simp; try (with_reducible rfl)); (try simp only [Act.put, List.setIfInBounds_toArray, List.set_cons_zero, List.set_cons_succ]))
        (refine Ord.takeQ (v := ?_) (Or.inl ⟨rfl, ?_⟩) ?_; rotate_left; (intro w hSw; (try dsimp only at hSw); go_simp; try (with_reducible rfl)); (try simp only [Act.put, List.setIfInBounds_toArray, List.set_cons_zero, List.set_cons_succ]))
        (refine Ord.takeQ (v := ?_) (Or.inl ⟨rfl, ?_⟩) ?_; rotate_left; (intro w hSw; (try dsimp only at hSw); go_simp; try (with_reducible rfl)); (try simp only [Act.put, List.setIfInBounds_toArray, List.set_cons_zero, List.set_cons_succ]))
        (refine Ord.takeQ (v := ?_) (Or.inl ⟨rfl, ?_⟩) ?_; rotate_left; (intro w hSw; (try dsimp only at hSw); go_simp; try (with_reducible rfl)); (try simp only [Act.put, List.setIfInBounds_toArray, List.set_cons_zero, List.set_cons_succ]))
        refine Ord.doneQ (NoPanic.normal ?_)
        clear hSA cz0 cz1 cu1 hw1 hw2 i0 i1 i2 i4 i5
        have hSB2 : (fun Z : World => Z.cell? ⟨bs, os + k * 2 + 1, none⟩ = some (.int .i64 y1.size) ∧ Z.cell? ⟨bi, oi + k * 4 + 1, none⟩ = some (.int .i64 x1.outer)) wr.drew.drew := ⟨cy1, cx1⟩
        have cy0' : wr.drew.cell? ⟨bs, os + k * 2, none⟩ = some (.int .i64 y1.at_) := cy0
        by_cases h3 : just = 3
        · have g3 : (just != 3) = false := by simpa using h3
          go_upto_region 15 with fail
          refine wp_region_noPanic ?_
          refine Ord.region_Q (S := fun Z : World => Z.cell? ⟨bs, os + k * 2 + 1, none⟩ = some (.int .i64 y1.size) ∧ Z.cell? ⟨bi, oi + k * 4 + 1, none⟩ = some (.int .i64 x1.outer)) 999 (.one 0 true (.one 1 true (.one 2 true (.one 3 true (.one 4 true (.one 5 true (.one 6 true (.one 7 true (.one 8 true (.one 9 true (.one 10 true (.one 11 true (.one 12 true (.one 13 true .nil)))))))))))))) (by kernel_rfl) (by kernel_rfl) (by kernel_rfl) (by decide) (fun _ _ _ _ _ h => h) (hSB2) (fun hS0 => ?_)
          simp only [Ord.layT, List.getElem?_cons_zero, List.getElem?_cons_succ]
          (refine Ord.takeQ (v := ?_) (Or.inl ⟨rfl, ?_⟩) ?_; rotate_left; (intro w hSw; (try dsimp only at hSw); go_simp; try (with_reducible rfl)); (try simp only [Act.put, List.setIfInBounds_toArray, List.set_cons_zero, List.set_cons_succ]))
          (refine Ord.takeQ (v := ?_) (Or.inl ⟨rfl, ?_⟩) ?_; rotate_left; (intro w hSw; (try dsimp only at hSw); go_simp; try (with_reducible rfl)); (try simp only [Act.put, List.setIfInBounds_toArray, List.set_cons_zero, List.set_cons_succ]))
          (refine Ord.takeQ (v := ?_) (Or.inl ⟨rfl, ?_⟩) ?_; rotate_left; (intro w hSw; (try dsimp only at hSw); go_simp; try (with_reducible rfl)); (try simp only [Act.put, List.setIfInBounds_toArray, List.set_cons_zero, List.set_cons_succ]))
          (refine Ord.takeQ (v := ?_) (Or.inl ⟨rfl, ?_⟩) ?_; rotate_left; (intro w hSw; (try dsimp only at hSw); go_simp; try (with_reducible rfl)); (try simp only [Act.put, List.setIfInBounds_toArray, List.set_cons_zero, List.set_cons_succ]))
          (refine Ord.takeQ (v := ?_) (Or.inl ⟨rfl, ?_⟩) ?_; rotate_left; (intro w hSw; (try dsimp only at hSw); go_simp; try (with_reducible rfl)); (try simp only [Act.put, List.setIfInBounds_toArray, List.set_cons_zero, List.set_cons_succ]))
          (refine Ord.takeQ (v := ?_) (Or.inl ⟨rfl, ?_⟩) ?_; rotate_left; (intro w hSw; (try dsimp only at hSw); go_simp; try (with_reducible rfl)); (try simp only [Act.put, List.setIfInBounds_toArray, List.set_cons_zero, List.set_cons_succ]))
          (refine Ord.takeQ (v := ?_) (Or.inl ⟨rfl, ?_⟩) ?_; rotate_left; (intro w hSw; (try dsimp only at hSw); go_simp; try (with_reducible rfl)); (try simp only [Act.put, List.setIfInBounds_toArray, List.set_cons_zero, List.set_cons_succ]))
          (refine Ord.takeQ (v := ?_) (Or.inl ⟨rfl, ?_⟩) ?_; rotate_left; (intro w hSw; (try dsimp only at hSw); go_simp; try (with_reducible rfl)); (try simp only [Act.put, List.setIfInBounds_toArray, List.set_cons_zero, List.set_cons_succ]))
          (refine Ord.takeQ (v := ?_) (Or.inl ⟨rfl, ?_⟩) ?_; rotate_left; (intro w hSw; (try dsimp only at hSw); go_simp; try (with_reducible rfl)); (try simp only [Act.put, List.setIfInBounds_toArray, List.set_cons_zero, List.set_cons_succ]))
          (refine Ord.takeQ (v := ?_) (Or.inl ⟨rfl, ?_⟩) ?_; rotate_left; (intro w hSw; (try dsimp only at hSw); go_simp; try (with_reducible rfl)); (try simp only [Act.put, List.setIfInBounds_toArray, List.set_cons_zero, List.set_cons_succ]))
          (refine Ord.takeQ (v := ?_) (Or.inl ⟨rfl, ?_⟩) ?_; rotate_left; (intro w hSw; (try dsimp only at hSw); go_simp; try (with_reducible rfl)); (try simp only [Act.put, List.setIfInBounds_toArray, List.set_cons_zero, List.set_cons_succ]))
          (refine Ord.takeQ (v := ?_) (Or.inl ⟨rfl, ?_⟩) ?_; rotate_left; (intro w hSw; (try dsimp only at hSw); go_simp; try (with_reducible rfl)); (try simp only [Act.put, List.setIfInBounds_toArray, List.set_cons_zero, List.set_cons_succ]))
          (refine Ord.takeQ (v := ?_) (Or.inl ⟨rfl, ?_⟩) ?_; rotate_left; (intro w hSw; (try dsimp only at hSw); go_simp; try (with_reducible rfl)); (try simp only [Act.put, List.setIfInBounds_toArray, List.set_cons_zero, List.set_cons_succ]))
          (refine Ord.takeQ (v := ?_) (Or.inl ⟨rfl, ?_⟩) ?_; rotate_left; (intro w hSw; (try dsimp only at hSw); go_simp; try (with_reducible rfl)); (try simp only [Act.put, List.setIfInBounds_toArray, List.set_cons_zero, List.set_cons_succ]))
          refine Ord.doneQ (NoPanic.normal ?_)
          clear hSB2
          go_wp2_with fail
          go_roundw
          case rel => exact ⟨k + 1, by omega, by go_num, by rw [HSU.out], hd.drew.drew⟩
          case measure => simp [intOf]; omega
        · have g3 : (just != 3) = true := by simpa using h3
          have g4 := hJ.out g3
          go_upto_region 15 with fail
          refine wp_region_noPanic ?_
          refine Ord.region_Q (S := fun Z : World => Z.cell? ⟨bs, os + k * 2 + 1, none⟩ = some (.int .i64 y1.size) ∧ Z.cell? ⟨bi, oi + k * 4 + 1, none⟩ = some (.int .i64 x1.outer)) 999 (.one 0 true (.one 1 true (.one 2 true (.one 3 true (.one 4 true (.one 5 true (.one 6 true (.one 7 true (.one 8 true (.one 9 true (.one 10 true (.one 11 true (.one 12 true (.one 13 true .nil)))))))))))))) (by kernel_rfl) (by kernel_rfl) (by kernel_rfl) (by decide) (fun _ _ _ _ _ h => h) (hSB2) (fun hS0 => ?_)
          simp only [Ord.layT, List.getElem?_cons_zero, List.getElem?_cons_succ]
          (refine Ord.takeQ (v := ?_) (Or.inl ⟨rfl, ?_⟩) ?_; rotate_left; (intro w hSw; (try dsimp only at hSw); go_simp; try (with_reducible rfl)); (try simp only [Act.put, List.setIfInBounds_toArray, List.set_cons_zero, List.set_cons_succ]))
          (refine Ord.takeQ (v := ?_) (Or.inl ⟨rfl, ?_⟩) ?_; rotate_left; (intro w hSw; (try dsimp only at hSw); go_simp; try (with_reducible rfl)); (try simp only [Act.put, List.setIfInBounds_toArray, List.set_cons_zero, List.set_cons_succ]))
          (refine Ord.takeQ (v := ?_) (Or.inl ⟨rfl, ?_⟩) ?_; rotate_left; (intro w hSw; (try dsimp only at hSw); go_simp; try (with_reducible rfl)); (try simp only [Act.put, List.setIfInBounds_toArray, List.set_cons_zero, List.set_cons_succ]))
          (refine Ord.takeQ (v := ?_) (Or.inl ⟨rfl, ?_⟩) ?_; rotate_left; (intro w hSw; (try dsimp only at hSw); go_simp; try (with_reducible rfl)); (try simp only [Act.put, List.setIfInBounds_toArray, List.set_cons_zero, List.set_cons_succ]))
          (refine Ord.takeQ (v := ?_) (Or.inl ⟨rfl, ?_⟩) ?_; rotate_left; (intro w hSw; (try dsimp only at hSw); go_simp; try (with_reducible rfl)); (try simp only [Act.put, List.setIfInBounds_toArray, List.set_cons_zero, List.set_cons_succ]))
          (refine Ord.takeQ (v := ?_) (Or.inl ⟨rfl, ?_⟩) ?_; rotate_left; (intro w hSw; (try dsimp only at hSw); go_simp; try (with_reducible rfl)); (try simp only [Act.put, List.setIfInBounds_toArray, List.set_cons_zero, List.set_cons_succ]))
          (refine Ord.takeQ (v := ?_) (Or.inl ⟨rfl, ?_⟩) ?_; rotate_left; (intro w hSw; (try dsimp only at hSw); go_simp; try (with_reducible rfl)); (try simp only [Act.put, List.setIfInBounds_toArray, List.set_cons_zero, List.set_cons_succ]))
          (refine Ord.takeQ (v := ?_) (Or.inl ⟨rfl, ?_⟩) ?_; rotate_left; (intro w hSw; (try dsimp only at hSw); go_simp; try (with_reducible rfl)); (try simp only [Act.put, List.setIfInBounds_toArray, List.set_cons_zero, List.set_cons_succ]))
          (refine Ord.takeQ (v := ?_) (Or.inl ⟨rfl, ?_⟩) ?_; rotate_left; (intro w hSw; (try dsimp only at hSw); go_simp; try (with_reducible rfl)); (try simp only [Act.put, List.setIfInBounds_toArray, List.set_cons_zero, List.set_cons_succ]))
          (refine Ord.takeQ (v := ?_) (Or.inl ⟨rfl, ?_⟩) ?_; rotate_left; (intro w hSw; (try dsimp only at hSw); go_simp; try (with_reducible rfl)); (try simp only [Act.put, List.setIfInBounds_toArray, List.set_cons_zero, List.set_cons_succ]))
          (refine Ord.takeQ (v := ?_) (Or.inl ⟨rfl, ?_⟩) ?_; rotate_left; (intro w hSw; (try dsimp only at hSw); go_simp; try (with_reducible rfl)); (try simp only [Act.put, List.setIfInBounds_toArray, List.set_cons_zero, List.set_cons_succ]))
          (refine Ord.takeQ (v := ?_) (Or.inl ⟨rfl, ?_⟩) ?_; rotate_left; (intro w hSw; (try dsimp only at hSw); go_simp; try (with_reducible rfl)); (try simp only [Act.put, List.setIfInBounds_toArray, List.set_cons_zero, List.set_cons_succ]))
          (refine Ord.takeQ (v := ?_) (Or.inl ⟨rfl, ?_⟩) ?_; rotate_left; (intro w hSw; (try dsimp only at hSw); go_simp; try (with_reducible rfl)); (try simp only [Act.put, List.setIfInBounds_toArray, List.set_cons_zero, List.set_cons_succ]))
          (refine Ord.takeQ (v := ?_) (Or.inl ⟨rfl, ?_⟩) ?_; rotate_left; (intro w hSw; (try dsimp only at hSw); go_simp; try (with_reducible rfl)); (try simp only [Act.put, List.setIfInBounds_toArray, List.set_cons_zero, List.set_cons_succ]))
          refine Ord.doneQ (NoPanic.normal ?_)
          clear hSB2
          go_wp2_with fail
          go_roundw
          case rel => exact ⟨k + 1, by omega, by go_num, by rw [HSU.out], hd.drew.drew⟩
          case measure => simp [intOf]; omega
    · obtain rfl : k = l.length := by omega
      replace hP := hP.drawn hd
      replace hA := hA.drawn hd
      replace hB := hB.trans (hd.below _)
      have hsz : w2.heap.size = wr.heap.size := by rw [hd.heap]
      rw [hsz] at hP hA
      clear hd hsz
      rcases Nat.eq_zero_or_pos l.length with h0 | h0
      · have d1 : ((l.length : Int) == 0) = true := by simpa using h0
        have d2 : (l.length == 0) = true := by simpa using h0
        replace h0 := hid h0
        clear p1 p3
        go_wp2_with fail
        refine (known18 _).mono ?_
        rintro e w8 ⟨rfl, hb8⟩
        go_wp2_with fail
        go_ret
        exact ⟨rfl, hB.trans (hb8.mono hB.size)⟩
      · obtain ⟨q, hq⟩ : ∃ q, l.length = q + 1 := ⟨l.length - 1, by omega⟩
        have d1 : ((l.length : Int) == 0) = false := beq_eq_false_iff_ne.2 (by omega)
        have d2 : (l.length == 0) = false := beq_eq_false_iff_ne.2 (by omega)
        obtain ⟨bs, os, y0, rfl, hbs, HY0, cy0, -⟩ := span_at hP (k := 0) (by rw [hPL.out]; exact h0)
        obtain ⟨bi, oi, x9, rfl, hbi, HX9, -, -, cx9, -, -⟩ := item_at hA (k := q) (by omega)
        obtain ⟨y9, HY9, cy8, cy9, hrg⟩ := span_more hP (k := q) (by rw [hPL.out]; omega)
        have e1 : (l.length : Int) - 1 = (q : Int) := by omega
        have e2 : IntKind.i64.wrap ((l.length : Int) - 1) = (q : Int) := by rw [e1]; exact IntWalk.i64_in _ (by omega)
        have e3 : q < l.length := by omega
        have e5 : IntKind.i64.wrap (q : Int) = (q : Int) := IntWalk.i64_in _ (by omega)
        have e6 : ¬ ((q : Int) < 0) := by omega
        have e7 : (q : Int).toNat = q := by omega
        have e4 : 0 < l.length := h0
        have K0 := hPk.out 0 h0
        have K9 := hPk.out q e3
        rw [HY0.out] at K0
        rw [HY9.out] at K9
        have k1 := congrArg Sp.at_ K0
        have k2 := congrArg Sp.at_ K9
        have k3 := congrArg Sp.size K9
        simp only [psum, osum] at k1 k2 k3
        have hlf := hleft.out
        have hsum : psum s l.length + osum l l.length = psum s q + osum l q + y9.size + x9.outer := by rw [hq]; simp only [psum, osum]; rw [HX9.out, ← k3]; omega
        have hy0 : y0.at_ = a := by omega
        have b1 := psum_at hg.out q
        have b2 := hs.out q
        have b3 := hsm.out q
        rw [HX9.out] at b3
        rw [← k3] at b2
        have b4 := psum_at hs.out q
        have b5 := osum_bd hsm.out (k := q)
        have HLW : IntKind.i64.wrap (R - (psum s l.length + osum l l.length)) = left := by rw [IntWalk.i64_in _ (by omega)]; omega
        have hend : just ≠ 3 → y9.at_ + y9.size + x9.outer = a + R - left := fun hj => by
          have : psum g q = 0 := psum_zero (fun i _ => hj3.out hj i)
          omega
        have hend3 : just = 3 → 1 < l.length → 0 < left → y9.at_ + y9.size + x9.outer = R := fun hj hn hl => by
          have h1 := hj3s.out hl hj hn
          rw [show l.length - 1 = q by omega] at h1
          have h2 := hjo.out (by omega) (by omega)
          omega
        replace hend := hid hend
        replace hend3 := hid hend3
        have hw1 : IntKind.i64.wrap (y9.at_ + y9.size) = y9.at_ + y9.size := IntWalk.i64_in _ (by omega)
        have hw2 : IntKind.i64.wrap (y9.at_ + y9.size + x9.outer) = y9.at_ + y9.size + x9.outer := IntWalk.i64_in _ (by omega)
        replace hq := hid hq
        replace hy0 := hid hy0
        have hlb : left ≤ 1000000000 := by omega
        clear k1 k2 k3 K0 K9 hlf hsum b1 b4 b5 p1 p3 cy8 cy9
        rw [Nat.zero_mul, Nat.add_zero] at cy0
        generalize psum s l.length + osum l l.length = SU at *
        go_wp2_with (first | refine stop_load 76 _ rfl rfl ?_ | refine stop_store 76 _ _ rfl rfl ?_)
        refine ⟨?_⟩
        refine wl_load_at rfl 76 _ rfl bs (os + q * 2) rfl (sp2 y9.at_ y9.size) _ hrg Try.underlying76 rfl (info_sp2 _ _) ?_
        (try simp only [Act.put, List.setIfInBounds_toArray, List.set_cons_zero, List.set_cons_succ])
        go_wp2_with (first | refine stop_load 76 _ rfl rfl ?_ | refine stop_store 76 _ _ rfl rfl ?_)
        refine ⟨?_⟩
        refine wl_store rfl 76 _ _ rfl wr.heap.size (sp2 y9.at_ y9.size) rfl rfl 76 _ (Blk.new _ _ _) rfl (info_sp2 _ _) (sp_one _ _) ?_
        intro w5 hX hC
        (try simp only [Act.put, List.setIfInBounds_toArray, List.set_cons_zero, List.set_cons_succ])
        have hbb : Below wr.heap.size wr w5 := ((Below.refl wr.heap.size wr).alloc (Nat.le_refl _) _).trans (hC.below (Nat.le_refl _))
        have cy0' : w5.cell? ⟨bs, os, none⟩ = some (.int .i64 y0.at_) := (hbb.cell (p := ⟨bs, os, none⟩) hbs).trans cy0
        have cx9' : w5.cell? ⟨bi, oi + q * 4 + 1, none⟩ = some (.int .i64 x9.outer) := (hbb.cell (p := ⟨bi, oi + q * 4 + 1, none⟩) hbi).trans cx9
        have hgl := hX.lt
        have hB5 := hB.trans (hbb.mono hB.size)
        have hz5 := hbb.size
        have ex0 := hX.cell 0
        have ex1 := hX.cell 1
        replace ex0 : w5.cell? ⟨wr.heap.size, 0, none⟩ = some (.int .i64 y9.at_) := ex0
        replace ex1 : w5.cell? ⟨wr.heap.size, 1, none⟩ = some (.int .i64 y9.size) := ex1
        clear hB hbb hC cy0 cx9 hrg hP hA
        generalize wr.heap.size = gl at *
        by_cases hl0 : left ≤ 0
        · have d3 : decide (left ≤ 0) = true := decide_eq_true hl0
          have d4 : (y0.at_ == 0) = true := by
            have := hz0.out hl0
            have := hy0.out
            simp; omega
          go_wp2_with fail
          refine (known18 _).mono ?_
          rintro e w8 ⟨rfl, hb8⟩
          go_wp2_with fail
          go_ret
          exact ⟨rfl, hB5.trans (hb8.mono hB5.size)⟩
        · have d3 : decide (left ≤ 0) = false := decide_eq_false hl0
          have hl1 : 0 < left := by omega
          have hSK : ∀ Z, Below w5.heap.size w5 Z → (fun Z : World => Z.cell? ⟨bs, os, none⟩ = some (.int .i64 y0.at_) ∧ Z.cell? ⟨gl, 0, none⟩ = some (.int .i64 y9.at_) ∧ Z.cell? ⟨gl, 1, none⟩ = some (.int .i64 y9.size) ∧ Z.cell? ⟨bi, oi + q * 4 + 1, none⟩ = some (.int .i64 x9.outer)) Z := fun Z h => ⟨(h.cell (p := ⟨bs, os, none⟩) (by simp only; omega)).trans cy0', (h.cell (p := ⟨gl, 0, none⟩) hgl).trans ex0, (h.cell (p := ⟨gl, 1, none⟩) hgl).trans ex1, (h.cell (p := ⟨bi, oi + q * 4 + 1, none⟩) (by simp only; omega)).trans cx9'⟩
          have hdb : Below w5.heap.size w5 w5.drew := (Drawn.refl w5).drew.below _
          by_cases h1 : just = 1
          · have g1 := hj1.out hl1 h1
            have g2 := hend.out (by omega)
            have d4 : (y0.at_ == left) = true := by have := hy0.out; simp; omega
            have d5 : (y9.at_ + y9.size + x9.outer == R) = true := by simp; omega
            subst h1
            clear g1 g2 hj3 hend hj1 hj2 hjo hj3s hend3 hz0
            go_upto_region 24 with fail
            refine wp_region_noPanic ?_
            refine Ord.region_Q (S := fun Z : World => Z.cell? ⟨bs, os, none⟩ = some (.int .i64 y0.at_) ∧ Z.cell? ⟨gl, 0, none⟩ = some (.int .i64 y9.at_) ∧ Z.cell? ⟨gl, 1, none⟩ = some (.int .i64 y9.size) ∧ Z.cell? ⟨bi, oi + q * 4 + 1, none⟩ = some (.int .i64 x9.outer)) 999 (.one 0 true (.one 1 true (.one 2 true (.one 3 true (.one 4 true (.one 5 true (.one 6 true (.one 7 true (.one 8 true (.one 9 true (.one 10 true (.one 11 true (.one 12 true (.one 13 true (.one 14 true (.one 15 true (.one 16 true (.one 17 true (.one 18 true (.one 19 true (.one 20 true (.one 21 true (.one 22 true (.one 23 true (.one 24 false (.one 25 true (.one 26 true .nil))))))))))))))))))))))))))) (by kernel_rfl) (by kernel_rfl) (by kernel_rfl) (by decide) (fun _ _ _ _ _ h => h) (hSK _ hdb) (fun hS0 => ?_)
            simp only [Ord.layT, List.getElem?_cons_zero, List.getElem?_cons_succ]
            (refine Ord.takeQ (v := ?_) (Or.inl ⟨rfl, ?_⟩) ?_; rotate_left; (intro w hSw; (try dsimp only at hSw); go_simp; try (with_reducible rfl)); (try simp only [Act.put, List.setIfInBounds_toArray, List.set_cons_zero, List.set_cons_succ]))
            (refine Ord.takeQ (v := ?_) (Or.inl ⟨rfl, ?_⟩) ?_; rotate_left; (intro w hSw; (try dsimp only at hSw); go_simp; try (with_reducible rfl)); (try simp only [Act.put, List.setIfInBounds_toArray, List.set_cons_zero, List.set_cons_succ]))
            (refine Ord.takeQ (v := ?_) (Or.inl ⟨rfl, ?_⟩) ?_; rotate_left; (intro w hSw; (try dsimp only at hSw); go_simp; try (with_reducible rfl)); (try simp only [Act.put, List.setIfInBounds_toArray, List.set_cons_zero, List.set_cons_succ]))
            (refine Ord.takeQ (v := ?_) (Or.inl ⟨rfl, ?_⟩) ?_; rotate_left; (intro w hSw; (try dsimp only at hSw); go_simp; try (with_reducible rfl)); (try simp only [Act.put, List.setIfInBounds_toArray, List.set_cons_zero, List.set_cons_succ]))
            (refine Ord.takeQ (v := ?_) (Or.inl ⟨rfl, ?_⟩) ?_; rotate_left; (intro w hSw; (try dsimp only at hSw); go_simp; try (with_reducible rfl)); (try simp only [Act.put, List.setIfInBounds_toArray, List.set_cons_zero, List.set_cons_succ]))
            (refine Ord.takeQ (v := ?_) (Or.inl ⟨rfl, ?_⟩) ?_; rotate_left; (intro w hSw; (try dsimp only at hSw); go_simp; try (with_reducible rfl)); (try simp only [Act.put, List.setIfInBounds_toArray, List.set_cons_zero, List.set_cons_succ]))
            (refine Ord.takeQ (v := ?_) (Or.inl ⟨rfl, ?_⟩) ?_; rotate_left; (intro w hSw; (try dsimp only at hSw); go_simp; try (with_reducible rfl)); (try simp only [Act.put, List.setIfInBounds_toArray, List.set_cons_zero, List.set_cons_succ]))
            (refine Ord.takeQ (v := ?_) (Or.inl ⟨rfl, ?_⟩) ?_; rotate_left; (intro w hSw; (try dsimp only at hSw); go_simp; try (with_reducible rfl)); (try simp only [Act.put, List.setIfInBounds_toArray, List.set_cons_zero, List.set_cons_succ]))
            (refine Ord.takeQ (v := ?_) (Or.inl ⟨rfl, ?_⟩) ?_; rotate_left; (intro w hSw; (try dsimp only at hSw); go_simp; try (with_reducible rfl)); (try simp only [Act.put, List.setIfInBounds_toArray, List.set_cons_zero, List.set_cons_succ]))
            (refine Ord.takeQ (v := ?_) (Or.inl ⟨rfl, ?_⟩) ?_; rotate_left; (intro w hSw; (try dsimp only at hSw); go_simp; try (with_reducible rfl)); (try simp only [Act.put, List.setIfInBounds_toArray, List.set_cons_zero, List.set_cons_succ]))
            (refine Ord.takeQ (v := ?_) (Or.inl ⟨rfl, ?_⟩) ?_; rotate_left; (intro w hSw; (try dsimp only at hSw); go_simp; try (with_reducible rfl)); (try simp only [Act.put, List.setIfInBounds_toArray, List.set_cons_zero, List.set_cons_succ]))
            (refine Ord.takeQ (v := ?_) (Or.inl ⟨rfl, ?_⟩) ?_; rotate_left; (intro w hSw; (try dsimp only at hSw); go_simp; try (with_reducible rfl)); (try simp only [Act.put, List.setIfInBounds_toArray, List.set_cons_zero, List.set_cons_succ]))
            (refine Ord.takeQ (v := ?_) (Or.inl ⟨rfl, ?_⟩) ?_; rotate_left; (intro w hSw; (try dsimp only at hSw); go_simp; try (with_reducible rfl)); (try simp only [Act.put, List.setIfInBounds_toArray, List.set_cons_zero, List.set_cons_succ]))
            (refine Ord.takeQ (v := ?_) (Or.inl ⟨rfl, ?_⟩) ?_; rotate_left; (intro w hSw; (try dsimp only at hSw); go_simp; try (with_reducible rfl)); (try simp only [Act.put, List.setIfInBounds_toArray, List.set_cons_zero, List.set_cons_succ]))
            (refine Ord.takeQ (v := ?_) (Or.inl ⟨rfl, ?_⟩) ?_; rotate_left; (intro w hSw; (try dsimp only at hSw); go_simp; try (with_reducible rfl)); (try simp only [Act.put, List.setIfInBounds_toArray, List.set_cons_zero, List.set_cons_succ]))
            (refine Ord.takeQ (v := ?_) (Or.inl ⟨rfl, ?_⟩) ?_; rotate_left; (intro w hSw; (try dsimp only at hSw); go_simp; try (with_reducible rfl)); (try simp only [Act.put, List.setIfInBounds_toArray, List.set_cons_zero, List.set_cons_succ]))
            (refine Ord.takeQ (v := ?_) (Or.inl ⟨rfl, ?_⟩) ?_; rotate_left; (intro w hSw; (try dsimp only at hSw); go_simp; try (with_reducible rfl)); (try simp only [Act.put, List.setIfInBounds_toArray, List.set_cons_zero, List.set_cons_succ]))
            (refine Ord.takeQ (v := ?_) (Or.inl ⟨rfl, ?_⟩) ?_; rotate_left; (intro w hSw; (try dsimp only at hSw); go_simp; try (with_reducible rfl)); (try simp only [Act.put, List.setIfInBounds_toArray, List.set_cons_zero, List.set_cons_succ]))
            (refine Ord.takeQ (v := ?_) (Or.inl ⟨rfl, ?_⟩) ?_; rotate_left; (intro w hSw; (try dsimp only at hSw); go_simp; try (with_reducible rfl)); (try simp only [Act.put, List.setIfInBounds_toArray, List.set_cons_zero, List.set_cons_succ]))
            (refine Ord.takeQ (v := ?_) (Or.inl ⟨rfl, ?_⟩) ?_; rotate_left; (intro w hSw; (try dsimp only at hSw); go_simp; try (with_reducible rfl)); (try simp only [Act.put, List.setIfInBounds_toArray, List.set_cons_zero, List.set_cons_succ]))
            (refine Ord.takeQ (v := ?_) (Or.inl ⟨rfl, ?_⟩) ?_; rotate_left; (intro w hSw; (try dsimp only at hSw); go_simp; try (with_reducible rfl)); (try simp only [Act.put, List.setIfInBounds_toArray, List.set_cons_zero, List.set_cons_succ]))
            (refine Ord.takeQ (v := ?_) (Or.inl ⟨rfl, ?_⟩) ?_; rotate_left; (intro w hSw; (try dsimp only at hSw); go_simp; try (with_reducible rfl)); (try simp only [Act.put, List.setIfInBounds_toArray, List.set_cons_zero, List.set_cons_succ]))
            (refine Ord.takeQ (v := ?_) (Or.inl ⟨rfl, ?_⟩) ?_; rotate_left; (intro w hSw; (try dsimp only at hSw); go_simp; try (with_reducible rfl)); (try simp only [Act.put, List.setIfInBounds_toArray, List.set_cons_zero, List.set_cons_succ]))
            (refine Ord.takeQ (v := ?_) (Or.inl ⟨rfl, ?_⟩) ?_; rotate_left; (intro w hSw; (try dsimp only at hSw); go_simp; try (with_reducible rfl)); (try simp only [Act.put, List.setIfInBounds_toArray, List.set_cons_zero, List.set_cons_succ]))
            refine Ord.aloneQ rfl rfl (fun K hK => ?_)
            go_simp
            refine (known18 _).mono ?_
            rintro e w8 ⟨rfl, hb8⟩
            replace hb8 := hdb.trans (hb8.mono (by simp))
            go_wp2_with fail
            (try simp only [Act.put, List.setIfInBounds_toArray, List.set_cons_zero, List.set_cons_succ])
            refine hK.out _ _ (hSK _ hb8) (fun _ => ?_)
            clear hK K
            (refine Ord.takeQ (v := ?_) (Or.inl ⟨rfl, ?_⟩) ?_; rotate_left; (intro w hSw; (try dsimp only at hSw); go_simp; try (with_reducible rfl)); (try simp only [Act.put, List.setIfInBounds_toArray, List.set_cons_zero, List.set_cons_succ]))
            (refine Ord.takeQ (v := ?_) (Or.inl ⟨rfl, ?_⟩) ?_; rotate_left; (intro w hSw; (try dsimp only at hSw); go_simp; try (with_reducible rfl)); (try simp only [Act.put, List.setIfInBounds_toArray, List.set_cons_zero, List.set_cons_succ]))
            refine Ord.doneQ (NoPanic.normal ?_)
            have hb9 := hB5.trans (hb8.mono hB5.size)
            clear hSK
            go_wp2_with fail
            go_ret
            exact ⟨rfl, hb9⟩
          · have g1 : (just == 1) = false := by simpa using h1
            by_cases h2 : just = 2
            · have g2 := hj2.out hl1 h2
              have d4 : (y0.at_ == left / 2) = true := by have := hy0.out; simp; omega
              subst h2
              clear g2 hj3 hend hj1 hj2 hjo hj3s hend3 hz0 h1
              go_wp2_with fail
              refine (known18 _).mono ?_
              rintro e w8 ⟨rfl, hb8⟩
              go_wp2_with fail
              go_ret
              exact ⟨rfl, hB5.trans (hb8.mono hB5.size)⟩
            · have g2 : (just == 2) = false := by simpa using h2
              have d4 : (y0.at_ == 0) = true := by
                have := hjo.out h1 h2
                have := hy0.out
                simp; omega
              by_cases h3 : just = 3
              · by_cases hn : l.length = 1
                · have d5 : ((l.length : Int) == 1) = true := by simp; omega
                  have d6 : (l.length == 1) = true := by simpa using hn
                  subst h3
                  clear hj3 hend hj1 hj2 hjo hj3s hend3 hz0 h1 h2
                  replace hn := hid hn
                  go_upto_region 28 with fail
                  refine wp_region_noPanic ?_
                  refine Ord.region_Q (S := fun Z : World => Z.cell? ⟨bs, os, none⟩ = some (.int .i64 y0.at_) ∧ Z.cell? ⟨gl, 0, none⟩ = some (.int .i64 y9.at_) ∧ Z.cell? ⟨gl, 1, none⟩ = some (.int .i64 y9.size) ∧ Z.cell? ⟨bi, oi + q * 4 + 1, none⟩ = some (.int .i64 x9.outer)) 999 (.one 0 true (.one 1 true (.one 2 true (.one 3 true (.one 4 true (.one 5 true (.one 6 true (.one 7 true (.one 8 true (.one 9 true (.one 10 true (.one 11 true (.one 12 true (.one 13 true (.one 14 true (.one 15 true (.one 16 true (.one 17 true (.one 18 true (.one 19 true (.one 20 true (.one 21 true (.one 22 true (.one 23 true (.one 24 true (.one 25 true (.one 26 true (.one 27 true (.one 28 false (.one 29 true (.one 30 true .nil))))))))))))))))))))))))))))))) (by kernel_rfl) (by kernel_rfl) (by kernel_rfl) (by decide) (fun _ _ _ _ _ h => h) (hSK _ hdb) (fun hS0 => ?_)
                  simp only [Ord.layT, List.getElem?_cons_zero, List.getElem?_cons_succ]
                  (refine Ord.takeQ (v := ?_) (Or.inl ⟨rfl, ?_⟩) ?_; rotate_left; (intro w hSw; (try dsimp only at hSw); go_simp; try (with_reducible rfl)); (try simp only [Act.put, List.setIfInBounds_toArray, List.set_cons_zero, List.set_cons_succ]))
                  (refine Ord.takeQ (v := ?_) (Or.inl ⟨rfl, ?_⟩) ?_; rotate_left; (intro w hSw; (try dsimp only at hSw); go_simp; try (with_reducible rfl)); (try simp only [Act.put, List.setIfInBounds_toArray, List.set_cons_zero, List.set_cons_succ]))
                  (refine Ord.takeQ (v := ?_) (Or.inl ⟨rfl, ?_⟩) ?_; rotate_left; (intro w hSw; (try dsimp only at hSw); go_simp; try (with_reducible rfl)); (try simp only [Act.put, List.setIfInBounds_toArray, List.set_cons_zero, List.set_cons_succ]))
                  (refine Ord.takeQ (v := ?_) (Or.inl ⟨rfl, ?_⟩) ?_; rotate_left; (intro w hSw; (try dsimp only at hSw); go_simp; try (with_reducible rfl)); (try simp only [Act.put, List.setIfInBounds_toArray, List.set_cons_zero, List.set_cons_succ]))
                  (refine Ord.takeQ (v := ?_) (Or.inl ⟨rfl, ?_⟩) ?_; rotate_left; (intro w hSw; (try dsimp only at hSw); go_simp; try (with_reducible rfl)); (try simp only [Act.put, List.setIfInBounds_toArray, List.set_cons_zero, List.set_cons_succ]))
                  (refine Ord.takeQ (v := ?_) (Or.inl ⟨rfl, ?_⟩) ?_; rotate_left; (intro w hSw; (try dsimp only at hSw); go_simp; try (with_reducible rfl)); (try simp only [Act.put, List.setIfInBounds_toArray, List.set_cons_zero, List.set_cons_succ]))
                  (refine Ord.takeQ (v := ?_) (Or.inl ⟨rfl, ?_⟩) ?_; rotate_left; (intro w hSw; (try dsimp only at hSw); go_simp; try (with_reducible rfl)); (try simp only [Act.put, List.setIfInBounds_toArray, List.set_cons_zero, List.set_cons_succ]))
                  (refine Ord.takeQ (v := ?_) (Or.inl ⟨rfl, ?_⟩) ?_; rotate_left; (intro w hSw; (try dsimp only at hSw); go_simp; try (with_reducible rfl)); (try simp only [Act.put, List.setIfInBounds_toArray, List.set_cons_zero, List.set_cons_succ]))
                  (refine Ord.takeQ (v := ?_) (Or.inl ⟨rfl, ?_⟩) ?_; rotate_left; (intro w hSw; (try dsimp only at hSw); go_simp; try (with_reducible rfl)); (try simp only [Act.put, List.setIfInBounds_toArray, List.set_cons_zero, List.set_cons_succ]))
                  (refine Ord.takeQ (v := ?_) (Or.inl ⟨rfl, ?_⟩) ?_; rotate_left; (intro w hSw; (try dsimp only at hSw); go_simp; try (with_reducible rfl)); (try simp only [Act.put, List.setIfInBounds_toArray, List.set_cons_zero, List.set_cons_succ]))
                  (refine Ord.takeQ (Or.inr ⟨rfl, rfl⟩) ?_; (try simp only [Act.put, List.setIfInBounds_toArray, List.set_cons_zero, List.set_cons_succ]))
                  (refine Ord.takeQ (Or.inr ⟨rfl, rfl⟩) ?_; (try simp only [Act.put, List.setIfInBounds_toArray, List.set_cons_zero, List.set_cons_succ]))
                  (refine Ord.takeQ (Or.inr ⟨rfl, rfl⟩) ?_; (try simp only [Act.put, List.setIfInBounds_toArray, List.set_cons_zero, List.set_cons_succ]))
                  (refine Ord.takeQ (Or.inr ⟨rfl, rfl⟩) ?_; (try simp only [Act.put, List.setIfInBounds_toArray, List.set_cons_zero, List.set_cons_succ]))
                  (refine Ord.takeQ (Or.inr ⟨rfl, rfl⟩) ?_; (try simp only [Act.put, List.setIfInBounds_toArray, List.set_cons_zero, List.set_cons_succ]))
                  (refine Ord.takeQ (Or.inr ⟨rfl, rfl⟩) ?_; (try simp only [Act.put, List.setIfInBounds_toArray, List.set_cons_zero, List.set_cons_succ]))
                  (refine Ord.takeQ (Or.inr ⟨rfl, rfl⟩) ?_; (try simp only [Act.put, List.setIfInBounds_toArray, List.set_cons_zero, List.set_cons_succ]))
                  (refine Ord.takeQ (Or.inr ⟨rfl, rfl⟩) ?_; (try simp only [Act.put, List.setIfInBounds_toArray, List.set_cons_zero, List.set_cons_succ]))
                  (refine Ord.takeQ (Or.inr ⟨rfl, rfl⟩) ?_; (try simp only [Act.put, List.setIfInBounds_toArray, List.set_cons_zero, List.set_cons_succ]))
                  (refine Ord.takeQ (Or.inr ⟨rfl, rfl⟩) ?_; (try simp only [Act.put, List.setIfInBounds_toArray, List.set_cons_zero, List.set_cons_succ]))
                  (refine Ord.takeQ (Or.inr ⟨rfl, rfl⟩) ?_; (try simp only [Act.put, List.setIfInBounds_toArray, List.set_cons_zero, List.set_cons_succ]))
                  (refine Ord.takeQ (Or.inr ⟨rfl, rfl⟩) ?_; (try simp only [Act.put, List.setIfInBounds_toArray, List.set_cons_zero, List.set_cons_succ]))
                  (refine Ord.takeQ (Or.inr ⟨rfl, rfl⟩) ?_; (try simp only [Act.put, List.setIfInBounds_toArray, List.set_cons_zero, List.set_cons_succ]))
                  (refine Ord.takeQ (Or.inr ⟨rfl, rfl⟩) ?_; (try simp only [Act.put, List.setIfInBounds_toArray, List.set_cons_zero, List.set_cons_succ]))
                  (refine Ord.takeQ (Or.inr ⟨rfl, rfl⟩) ?_; (try simp only [Act.put, List.setIfInBounds_toArray, List.set_cons_zero, List.set_cons_succ]))
                  (refine Ord.takeQ (v := ?_) (Or.inl ⟨rfl, ?_⟩) ?_; rotate_left; (intro w hSw; (try dsimp only at hSw); go_simp; try (with_reducible rfl)); (try simp only [Act.put, List.setIfInBounds_toArray, List.set_cons_zero, List.set_cons_succ]))
                  (refine Ord.takeQ (v := ?_) (Or.inl ⟨rfl, ?_⟩) ?_; rotate_left; (intro w hSw; (try dsimp only at hSw); go_simp; try (with_reducible rfl)); (try simp only [Act.put, List.setIfInBounds_toArray, List.set_cons_zero, List.set_cons_succ]))
                  (refine Ord.takeQ (v := ?_) (Or.inl ⟨rfl, ?_⟩) ?_; rotate_left; (intro w hSw; (try dsimp only at hSw); go_simp; try (with_reducible rfl)); (try simp only [Act.put, List.setIfInBounds_toArray, List.set_cons_zero, List.set_cons_succ]))
                  refine Ord.aloneQ rfl rfl (fun K hK => ?_)
                  go_simp
                  refine (known18 _).mono ?_
                  rintro e w8 ⟨rfl, hb8⟩
                  replace hb8 := hdb.trans (hb8.mono (by simp))
                  go_wp2_with fail
                  (try simp only [Act.put, List.setIfInBounds_toArray, List.set_cons_zero, List.set_cons_succ])
                  refine hK.out _ _ (hSK _ hb8) (fun _ => ?_)
                  clear hK K
                  (refine Ord.takeQ (v := ?_) (Or.inl ⟨rfl, ?_⟩) ?_; rotate_left; (intro w hSw; (try dsimp only at hSw); go_simp; try (with_reducible rfl)); (try simp only [Act.put, List.setIfInBounds_toArray, List.set_cons_zero, List.set_cons_succ]))
                  (refine Ord.takeQ (v := ?_) (Or.inl ⟨rfl, ?_⟩) ?_; rotate_left; (intro w hSw; (try dsimp only at hSw); go_simp; try (with_reducible rfl)); (try simp only [Act.put, List.setIfInBounds_toArray, List.set_cons_zero, List.set_cons_succ]))
                  refine Ord.doneQ (NoPanic.normal ?_)
                  have hb9 := hB5.trans (hb8.mono hB5.size)
                  clear hSK
                  go_wp2_with fail
                  go_ret
                  exact ⟨rfl, hb9⟩
                · have d5 : ((l.length : Int) == 1) = false := beq_eq_false_iff_ne.2 (by omega)
                  have d6 : (l.length == 1) = false := by simpa using hn
                  have d7 : (y9.at_ + y9.size + x9.outer == R) = true := by
                    have := hend3.out h3 (by omega) hl1
                    simpa using this
                  subst h3
                  clear hj3 hend hj1 hj2 hjo hj3s hend3 hz0 h1 h2
                  go_upto_region 28 with fail
                  refine wp_region_noPanic ?_
                  refine Ord.region_Q (S := fun Z : World => Z.cell? ⟨bs, os, none⟩ = some (.int .i64 y0.at_) ∧ Z.cell? ⟨gl, 0, none⟩ = some (.int .i64 y9.at_) ∧ Z.cell? ⟨gl, 1, none⟩ = some (.int .i64 y9.size) ∧ Z.cell? ⟨bi, oi + q * 4 + 1, none⟩ = some (.int .i64 x9.outer)) 999 (.one 0 true (.one 1 true (.one 2 true (.one 3 true (.one 4 true (.one 5 true (.one 6 true (.one 7 true (.one 8 true (.one 9 true (.one 10 true (.one 11 true (.one 12 true (.one 13 true (.one 14 true (.one 15 true (.one 16 true (.one 17 true (.one 18 true (.one 19 true (.one 20 true (.one 21 true (.one 22 true (.one 23 true (.one 24 true (.one 25 true (.one 26 true (.one 27 true (.one 28 false (.one 29 true (.one 30 true .nil))))))))))))))))))))))))))))))) (by kernel_rfl) (by kernel_rfl) (by kernel_rfl) (by decide) (fun _ _ _ _ _ h => h) (hSK _ hdb) (fun hS0 => ?_)
                  simp only [Ord.layT, List.getElem?_cons_zero, List.getElem?_cons_succ]
                  (refine Ord.takeQ (v := ?_) (Or.inl ⟨rfl, ?_⟩) ?_; rotate_left; (intro w hSw; (try dsimp only at hSw); go_simp; try (with_reducible rfl)); (try simp only [Act.put, List.setIfInBounds_toArray, List.set_cons_zero, List.set_cons_succ]))
                  (refine Ord.takeQ (v := ?_) (Or.inl ⟨rfl, ?_⟩) ?_; rotate_left; (intro w hSw; (try dsimp only at hSw); go_simp; try (with_reducible rfl)); (try simp only [Act.put, List.setIfInBounds_toArray, List.set_cons_zero, List.set_cons_succ]))
                  (refine Ord.takeQ (v := ?_) (Or.inl ⟨rfl, ?_⟩) ?_; rotate_left; (intro w hSw; (try dsimp only at hSw); go_simp; try (with_reducible rfl)); (try simp only [Act.put, List.setIfInBounds_toArray, List.set_cons_zero, List.set_cons_succ]))
                  (refine Ord.takeQ (v := ?_) (Or.inl ⟨rfl, ?_⟩) ?_; rotate_left; (intro w hSw; (try dsimp only at hSw); go_simp; try (with_reducible rfl)); (try simp only [Act.put, List.setIfInBounds_toArray, List.set_cons_zero, List.set_cons_succ]))
                  (refine Ord.takeQ (v := ?_) (Or.inl ⟨rfl, ?_⟩) ?_; rotate_left; (intro w hSw; (try dsimp only at hSw); go_simp; try (with_reducible rfl)); (try simp only [Act.put, List.setIfInBounds_toArray, List.set_cons_zero, List.set_cons_succ]))
                  (refine Ord.takeQ (v := ?_) (Or.inl ⟨rfl, ?_⟩) ?_; rotate_left; (intro w hSw; (try dsimp only at hSw); go_simp; try (with_reducible rfl)); (try simp only [Act.put, List.setIfInBounds_toArray, List.set_cons_zero, List.set_cons_succ]))
                  (refine Ord.takeQ (v := ?_) (Or.inl ⟨rfl, ?_⟩) ?_; rotate_left; (intro w hSw; (try dsimp only at hSw); go_simp; try (with_reducible rfl)); (try simp only [Act.put, List.setIfInBounds_toArray, List.set_cons_zero, List.set_cons_succ]))
                  (refine Ord.takeQ (v := ?_) (Or.inl ⟨rfl, ?_⟩) ?_; rotate_left; (intro w hSw; (try dsimp only at hSw); go_simp; try (with_reducible rfl)); (try simp only [Act.put, List.setIfInBounds_toArray, List.set_cons_zero, List.set_cons_succ]))
                  (refine Ord.takeQ (v := ?_) (Or.inl ⟨rfl, ?_⟩) ?_; rotate_left; (intro w hSw; (try dsimp only at hSw); go_simp; try (with_reducible rfl)); (try simp only [Act.put, List.setIfInBounds_toArray, List.set_cons_zero, List.set_cons_succ]))
                  (refine Ord.takeQ (v := ?_) (Or.inl ⟨rfl, ?_⟩) ?_; rotate_left; (intro w hSw; (try dsimp only at hSw); go_simp; try (with_reducible rfl)); (try simp only [Act.put, List.setIfInBounds_toArray, List.set_cons_zero, List.set_cons_succ]))
                  (refine Ord.takeQ (v := ?_) (Or.inl ⟨rfl, ?_⟩) ?_; rotate_left; (intro w hSw; (try dsimp only at hSw); go_simp; try (with_reducible rfl)); (try simp only [Act.put, List.setIfInBounds_toArray, List.set_cons_zero, List.set_cons_succ]))
                  (refine Ord.takeQ (v := ?_) (Or.inl ⟨rfl, ?_⟩) ?_; rotate_left; (intro w hSw; (try dsimp only at hSw); go_simp; try (with_reducible rfl)); (try simp only [Act.put, List.setIfInBounds_toArray, List.set_cons_zero, List.set_cons_succ]))
                  (refine Ord.takeQ (v := ?_) (Or.inl ⟨rfl, ?_⟩) ?_; rotate_left; (intro w hSw; (try dsimp only at hSw); go_simp; try (with_reducible rfl)); (try simp only [Act.put, List.setIfInBounds_toArray, List.set_cons_zero, List.set_cons_succ]))
                  (refine Ord.takeQ (v := ?_) (Or.inl ⟨rfl, ?_⟩) ?_; rotate_left; (intro w hSw; (try dsimp only at hSw); go_simp; try (with_reducible rfl)); (try simp only [Act.put, List.setIfInBounds_toArray, List.set_cons_zero, List.set_cons_succ]))
                  (refine Ord.takeQ (v := ?_) (Or.inl ⟨rfl, ?_⟩) ?_; rotate_left; (intro w hSw; (try dsimp only at hSw); go_simp; try (with_reducible rfl)); (try simp only [Act.put, List.setIfInBounds_toArray, List.set_cons_zero, List.set_cons_succ]))
                  (refine Ord.takeQ (v := ?_) (Or.inl ⟨rfl, ?_⟩) ?_; rotate_left; (intro w hSw; (try dsimp only at hSw); go_simp; try (with_reducible rfl)); (try simp only [Act.put, List.setIfInBounds_toArray, List.set_cons_zero, List.set_cons_succ]))
                  (refine Ord.takeQ (v := ?_) (Or.inl ⟨rfl, ?_⟩) ?_; rotate_left; (intro w hSw; (try dsimp only at hSw); go_simp; try (with_reducible rfl)); (try simp only [Act.put, List.setIfInBounds_toArray, List.set_cons_zero, List.set_cons_succ]))
                  (refine Ord.takeQ (v := ?_) (Or.inl ⟨rfl, ?_⟩) ?_; rotate_left; (intro w hSw; (try dsimp only at hSw); go_simp; try (with_reducible rfl)); (try simp only [Act.put, List.setIfInBounds_toArray, List.set_cons_zero, List.set_cons_succ]))
                  (refine Ord.takeQ (v := ?_) (Or.inl ⟨rfl, ?_⟩) ?_; rotate_left; (intro w hSw; (try dsimp only at hSw); go_simp; try (with_reducible rfl)); (try simp only [Act.put, List.setIfInBounds_toArray, List.set_cons_zero, List.set_cons_succ]))
                  (refine Ord.takeQ (v := ?_) (Or.inl ⟨rfl, ?_⟩) ?_; rotate_left; (intro w hSw; (try dsimp only at hSw); go_simp; try (with_reducible rfl)); (try simp only [Act.put, List.setIfInBounds_toArray, List.set_cons_zero, List.set_cons_succ]))
                  (refine Ord.takeQ (v := ?_) (Or.inl ⟨rfl, ?_⟩) ?_; rotate_left; (intro w hSw; (try dsimp only at hSw); go_simp; try (with_reducible rfl)); (try simp only [Act.put, List.setIfInBounds_toArray, List.set_cons_zero, List.set_cons_succ]))
                  (refine Ord.takeQ (v := ?_) (Or.inl ⟨rfl, ?_⟩) ?_; rotate_left; (intro w hSw; (try dsimp only at hSw); go_simp; try (with_reducible rfl)); (try simp only [Act.put, List.setIfInBounds_toArray, List.set_cons_zero, List.set_cons_succ]))
                  (refine Ord.takeQ (v := ?_) (Or.inl ⟨rfl, ?_⟩) ?_; rotate_left; (intro w hSw; (try dsimp only at hSw); go_simp; try (with_reducible rfl)); (try simp only [Act.put, List.setIfInBounds_toArray, List.set_cons_zero, List.set_cons_succ]))
                  (refine Ord.takeQ (v := ?_) (Or.inl ⟨rfl, ?_⟩) ?_; rotate_left; (intro w hSw; (try dsimp only at hSw); go_simp; try (with_reducible rfl)); (try simp only [Act.put, List.setIfInBounds_toArray, List.set_cons_zero, List.set_cons_succ]))
                  (refine Ord.takeQ (v := ?_) (Or.inl ⟨rfl, ?_⟩) ?_; rotate_left; (intro w hSw; (try dsimp only at hSw); go_simp; try (with_reducible rfl)); (try simp only [Act.put, List.setIfInBounds_toArray, List.set_cons_zero, List.set_cons_succ]))
                  (refine Ord.takeQ (v := ?_) (Or.inl ⟨rfl, ?_⟩) ?_; rotate_left; (intro w hSw; (try dsimp only at hSw); go_simp; try (with_reducible rfl)); (try simp only [Act.put, List.setIfInBounds_toArray, List.set_cons_zero, List.set_cons_succ]))
                  (refine Ord.takeQ (v := ?_) (Or.inl ⟨rfl, ?_⟩) ?_; rotate_left; (intro w hSw; (try dsimp only at hSw); go_simp; try (with_reducible rfl)); (try simp only [Act.put, List.setIfInBounds_toArray, List.set_cons_zero, List.set_cons_succ]))
                  (refine Ord.takeQ (v := ?_) (Or.inl ⟨rfl, ?_⟩) ?_; rotate_left; (intro w hSw; (try dsimp only at hSw); go_simp; try (with_reducible rfl)); (try simp only [Act.put, List.setIfInBounds_toArray, List.set_cons_zero, List.set_cons_succ]))
                  refine Ord.aloneQ rfl rfl (fun K hK => ?_)
                  go_simp
                  refine (known18 _).mono ?_
                  rintro e w8 ⟨rfl, hb8⟩
                  replace hb8 := hdb.trans (hb8.mono (by simp))
                  go_wp2_with fail
                  (try simp only [Act.put, List.setIfInBounds_toArray, List.set_cons_zero, List.set_cons_succ])
                  refine hK.out _ _ (hSK _ hb8) (fun _ => ?_)
                  clear hK K
                  (refine Ord.takeQ (v := ?_) (Or.inl ⟨rfl, ?_⟩) ?_; rotate_left; (intro w hSw; (try dsimp only at hSw); go_simp; try (with_reducible rfl)); (try simp only [Act.put, List.setIfInBounds_toArray, List.set_cons_zero, List.set_cons_succ]))
                  (refine Ord.takeQ (v := ?_) (Or.inl ⟨rfl, ?_⟩) ?_; rotate_left; (intro w hSw; (try dsimp only at hSw); go_simp; try (with_reducible rfl)); (try simp only [Act.put, List.setIfInBounds_toArray, List.set_cons_zero, List.set_cons_succ]))
                  refine Ord.doneQ (NoPanic.normal ?_)
                  have hb9 := hB5.trans (hb8.mono hB5.size)
                  clear hSK
                  go_wp2_with fail
                  go_ret
                  exact ⟨rfl, hb9⟩
              · have g3 : (just == 3) = false := by simpa using h3
                clear hj3 hend hj1 hj2 hjo hj3s hend3 hz0 h1 h2 h3
                go_wp2_with fail
                refine (known18 _).mono ?_
                rintro e w8 ⟨rfl, hb8⟩
                go_wp2_with fail
                go_ret
                exact ⟨rfl, hB5.trans (hb8.mono hB5.size)⟩
end Go.Proofs.Yteghacdpfhohoaa
