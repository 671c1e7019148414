/-
  The walk of FlexEven.
-/
import Derived.Test.YteghacdpfhohoaaWFlexOrder
namespace Go.Proofs.Yteghacdpfhohoaa
open Go.RowKit Num Mem Opn
set_option linter.unusedVariables false
set_option linter.unusedSimpArgs false
namespace Num
/-- the least, and the most, of the first k gaps. -/
def gmin (g : List Int) : Nat → Int
  | 0 => 1099511627776
  | k + 1 => min (gmin g k) (g.getD k 0)
def gmax (g : List Int) : Nat → Int
  | 0 => -1
  | k + 1 => max (gmax g k) (g.getD k 0)
theorem gmin_lo {g : List Int} (h : ∀ i, 0 ≤ g.getD i 0) (k : Nat) : 0 ≤ gmin g k ∧ gmin g k ≤ 1099511627776 := by
  induction k with
  | zero => simp [gmin]
  | succ k ih => have := h k; simp only [gmin]; omega
theorem gmax_hi {g : List Int} (h : ∀ i, 0 ≤ g.getD i 0 ∧ g.getD i 0 ≤ 4294967296) (k : Nat) : -1 ≤ gmax g k ∧ gmax g k ≤ 4294967296 := by
  induction k with
  | zero => simp [gmax]
  | succ k ih => have := h k; simp only [gmax]; omega
theorem g_even {g : List Int} {n : Nat} (h : ∀ i, 0 ≤ g.getD i 0 ∧ g.getD i 0 ≤ 4294967296) (he : ∀ i j, i < n → j < n → g.getD i 0 ≤ g.getD j 0 + 1) : ∀ k, 0 < k → k ≤ n → gmax g k - gmin g k ≤ 1 := by
  intro k hk hn
  have key : ∀ m, m ≤ n → ∀ j, j < n → 0 < m → gmax g m ≤ g.getD j 0 + 1 ∧ g.getD j 0 ≤ gmin g m + 1 := by
    intro m
    induction m with
    | zero => intro _ _ _ h; omega
    | succ m ih =>
      intro hm j hj _
      have a1 := he m j (by omega) hj
      have a2 := he j m hj (by omega)
      have a3 := h j
      simp only [gmax, gmin]
      rcases Nat.eq_zero_or_pos m with h0 | h0
      · subst h0; simp only [gmax, gmin]; omega
      · have := ih (by omega) j hj h0
        omega
  have key2 : ∀ m, m ≤ n → 0 < m → ∃ j, j < m ∧ gmin g m = g.getD j 0 := by
    intro m
    induction m with
    | zero => intro _ h; omega
    | succ m ih =>
      intro hm _
      rcases Nat.eq_zero_or_pos m with h0 | h0
      · subst h0
        refine ⟨0, by omega, ?_⟩
        simp only [gmin]
        have := h 0
        omega
      · obtain ⟨j, hj, e⟩ := ih (by omega) h0
        simp only [gmin]
        rcases Int.le_total (gmin g m) (g.getD m 0) with h1 | h1
        · exact ⟨j, by omega, by rw [Int.min_eq_left h1]; exact e⟩
        · exact ⟨m, by omega, by rw [Int.min_eq_right h1]⟩
  obtain ⟨j, hj, e⟩ := key2 k hn hk
  have := (key k hn j (by omega) hk).1
  omega
end Num
set_option maxRecDepth 100000 in
set_option maxHeartbeats 16000000 in
theorem walk_FlexEven (room : Int) (A0 : Option Addr) (l0 : List It) (c0 : Nat) (size outer : Int) (w : World) (ir : I64 room) (hr : RowI w A0 l0 c0) (is : I64 size) (io : I64 outer) :
    Calls Try.prog 13 #[.int .i64 room, .slice A0 l0.length c0, .int .i64 size, .int .i64 outer] w fun e w' => e = .returned (.bool true) ∧ Below w.heap.size w w' := by
  obtain ⟨hA0, hlc, hcp, hx⟩ := hr
  have hr1 := few_lo room
  have hr2 := few_hi room
  have hsm := small_it l0
  have hl40 : ((l0.take 40).map it).length ≤ 40 := by simp; omega
  go_enter Try.func13, Try.ntmps13
  go_wp2_with fail
  refine (some_items l0 A0 c0 _ (by omega) hA0 (fun x h => ⟨(hx x h).1, (hx x h).2.1⟩)).mono ?_
  rintro e w1 ⟨v, v', rfl, hb1, ho⟩
  generalize (l0.take 40).map it = l at *
  obtain ⟨A, c, rfl, hc⟩ := own_some ho
  have hA : Recs w1 w1.heap.size A 4 It.cells l := Recs.of_own it_length (by decide) ho
  clear hA0 hlc hcp hx ho
  go_wp2_with fail
  refine (small_any _ _ ir).mono ?_
  rintro e w' ⟨rfl, rfl⟩
  generalize few room = R at *
  go_wp2_with fail
  refine (flex_Places R l A c 3 _ (by omega) ⟨by omega, by omega⟩ hA).mono ?_
  rintro e w2 ⟨v2, rfl, hb2, hO⟩
  have HF := places_laid (just := 3) hsm hr1 hr2 hl40
  replace hA := (hA.below hb2).more hb2.size
  have hB := hb1.trans (hb2.mono hb1.size)
  clear hb1 hb2
  generalize places R l 3 = P at *
  obtain ⟨AP, cP, rfl, hcP⟩ := own_some hO
  have hP : Recs w2 w2.heap.size AP 2 Sp.cells P := Recs.of_own sp_length (by decide) hO
  clear hO
  obtain ⟨hPL, a, left, s, g, hs, hg, hleft, ha1, ha2, hPk, hj3, hev, hz0, hj1, hj2, hjo, hj3s⟩ := HF
  clear hj3 hz0 hj1 hj2 hjo hj3s hleft
  replace hPL := hid hPL
  replace hPk := hid hPk
  replace hev := hid hev
  replace hsm := hid hsm
  replace hs := hid hs
  replace hg := hid hg
  go_wp2_with fail
  go_loopw [12, 13, 14] (fun s12 s13 s14 wr => ∃ p : Nat, (p < l.length ∨ p = 0) ∧ s14 = .int .i64 (p + 1 : Nat) ∧ s12 = .int .i64 (gmin g p) ∧ s13 = .int .i64 (gmax g p) ∧ Drawn w2 wr) (fun _ _ i _ => l.length + 1 - (intOf i).toNat)
  case atStart => exact ⟨0, .inr rfl, rfl, rfl, rfl, .refl _⟩
  case round =>
    obtain ⟨p, hp, rfl, rfl, rfl, hd⟩ := hrel
    obtain ⟨k, hkp⟩ : ∃ k : Nat, p + 1 = k := ⟨_, rfl⟩
    have hm1 := gmin_lo (fun i => (hg.out i).1) p
    have hm2 := gmax_hi hg.out p
    by_cases hlt : k < l.length
    · obtain ⟨bs, os, y1, rfl, hbs, HY1, cy0, cy1⟩ := span_at (hP.drawn hd) (k := k) (by rw [hPL.out]; exact hlt)
      obtain ⟨y0, HY0, cz0, cz1, -⟩ := span_more (hP.drawn hd) (k := p) (by rw [hPL.out]; omega)
      obtain ⟨bi, oi, x0, rfl, hbi, HX0, -, -, cu1, -, -⟩ := item_at (hA.drawn hd) (k := p) (by omega)
      have HK := hPk.out k hlt
      have HK0 := hPk.out p (by omega)
      rw [HY1.out] at HK
      rw [HY0.out] at HK0
      have e2 := congrArg Sp.at_ HK
      have f1 := congrArg Sp.size HK0
      have f2 := congrArg Sp.at_ HK0
      simp only at e2 f1 f2
      have q1 := hs.out p
      have q2 := hsm.out p
      have q3 := hg.out p
      have q4 := psum_at hg.out p
      have q5 := psum_at hs.out p
      have q6 := osum_bd hsm.out (k := p)
      rw [← f1] at q1
      rw [HX0.out] at q2
      have hE : y1.at_ = y0.at_ + y0.size + x0.outer + g.getD p 0 := by
        rw [← hkp] at e2
        simp only [psum, osum] at e2
        rw [HX0.out, ← f1] at e2
        omega
      have w1' : IntKind.i64.wrap (y1.at_ - y0.at_) = y1.at_ - y0.at_ := IntWalk.i64_in _ (by omega)
      have w2' : IntKind.i64.wrap (y1.at_ - y0.at_ - y0.size) = y1.at_ - y0.at_ - y0.size := IntWalk.i64_in _ (by omega)
      have w3' : IntKind.i64.wrap (y1.at_ - y0.at_ - y0.size - x0.outer) = g.getD p 0 := by rw [IntWalk.i64_in _ (by omega)]; omega
      have H1 : Hid (gmin g (p + 1) = min (gmin g p) (g.getD p 0)) := hid rfl
      have H2 : Hid (gmax g (p + 1) = max (gmax g p) (g.getD p 0)) := hid rfl
      rw [hkp]
      have i0 : (k : Int) - 1 = (p : Int) := by omega
      have i1 : IntKind.i64.wrap ((k : Int) - 1) = (p : Int) := by rw [i0]; exact IntWalk.i64_in _ (by omega)
      have i2 : IntKind.i64.wrap (p : Int) = (p : Int) := IntWalk.i64_in _ (by omega)
      have i3 : p < l.length := by omega
      have i4 : ¬ ((p : Int) < 0) := by omega
      have i5 : (p : Int).toNat = p := by omega
      have hSA : (fun Z : World => Z.cell? ⟨bs, os + k * 2, none⟩ = some (.int .i64 y1.at_) ∧ Z.cell? ⟨bs, os + p * 2, none⟩ = some (.int .i64 y0.at_) ∧ Z.cell? ⟨bs, os + p * 2 + 1, none⟩ = some (.int .i64 y0.size) ∧ Z.cell? ⟨bi, oi + p * 4 + 1, none⟩ = some (.int .i64 x0.outer)) wr.drew := ⟨cy0, cz0, cz1, cu1⟩
      clear e2 f1 f2 HK HK0 hE q1 q2 q4 q5 q6 cy0 cy1 cz0 cz1 cu1
      replace hkp := hid hkp
      generalize g.getD p 0 = gp at *
      generalize gmin g p = mn at *
      generalize gmax g p = mx at *
      go_upto_region 11 with fail
      refine wp_region_noPanic ?_
      refine Ord.region_Q (S := fun Z : World => Z.cell? ⟨bs, os + k * 2, none⟩ = some (.int .i64 y1.at_) ∧ Z.cell? ⟨bs, os + p * 2, none⟩ = some (.int .i64 y0.at_) ∧ Z.cell? ⟨bs, os + p * 2 + 1, none⟩ = some (.int .i64 y0.size) ∧ Z.cell? ⟨bi, oi + p * 4 + 1, none⟩ = some (.int .i64 x0.outer)) 999 (.one 0 true (.one 1 true (.one 2 true (.one 3 true (.one 4 true (.one 5 true (.one 6 true (.one 7 true (.one 8 true (.one 9 true (.one 10 true (.one 11 true (.one 12 true (.one 13 true (.one 14 true (.one 15 true (.one 16 true (.one 17 true (.one 18 true (.one 19 true (.one 20 true (.one 21 true (.one 22 true (.one 23 true (.one 24 true (.one 25 true (.one 26 true .nil))))))))))))))))))))))))))) (by kernel_rfl) (by kernel_rfl) (by kernel_rfl) (by decide) (fun _ _ _ _ _ h => h) (hSA) (fun hS0 => ?_)
      simp only [Ord.layT, List.getElem?_cons_zero, List.getElem?_cons_succ]
      (refine Ord.takeQ (v := ?_) (Or.inl ⟨rfl, ?_⟩) ?_; rotate_left; (intro w hSw; (try dsimp only at hSw); go_simp; try (with_reducible rfl)); (try simp only [Act.put, List.setIfInBounds_toArray, List.set_cons_zero, List.set_cons_succ]))
      (refine Ord.takeQ (v := ?_) (Or.inl ⟨rfl, ?_⟩) ?_; rotate_left; (intro w hSw; (try dsimp only at hSw); go_simp; try (with_reducible rfl)); (try simp only [Act.put, List.setIfInBounds_toArray, List.set_cons_zero, List.set_cons_succ]))
      (refine Ord.takeQ (v := ?_) (Or.inl ⟨rfl, ?_⟩) ?_; rotate_left; (intro w hSw; (try dsimp only at hSw); go_simp; try (with_reducible rfl)); (try simp only [Act.put, List.setIfInBounds_toArray, List.set_cons_zero, List.set_cons_succ]))
      (refine Ord.takeQ (v := ?_) (Or.inl ⟨rfl, ?_⟩) ?_; rotate_left; (intro w hSw; (try dsimp only at hSw); go_simp; try (with_reducible rfl)); (try simp only [Act.put, List.setIfInBounds_toArray, List.set_cons_zero, List.set_cons_succ]))
      (refine Ord.takeQ (v := ?_) (Or.inl ⟨rfl, ?_⟩) ?_; rotate_left; (intro w hSw; (try dsimp only at hSw); go_simp; try (with_reducible rfl)); (try simp only [Act.put, List.setIfInBounds_toArray, List.set_cons_zero, List.set_cons_succ]))
      (refine Ord.takeQ (v := ?_) (Or.inl ⟨rfl, ?_⟩) ?_; rotate_left; (intro w hSw; (try dsimp only at hSw); go_simp; try (with_reducible rfl)); (try simp only [Act.put, List.setIfInBounds_toArray, List.set_cons_zero, List.set_cons_succ]))
      (refine Ord.takeQ (v := ?_) (Or.inl ⟨rfl, ?_⟩) ?_; rotate_left; (intro w hSw; (try dsimp only at hSw); go_simp; try (with_reducible rfl)); (try simp only [Act.put, List.setIfInBounds_toArray, List.set_cons_zero, List.set_cons_succ]))
      (refine Ord.takeQ (v := ?_) (Or.inl ⟨rfl, ?_⟩) ?_; rotate_left; (intro w hSw; (try dsimp only at hSw); go_simp; try (with_reducible rfl)); (try simp only [Act.put, List.setIfInBounds_toArray, List.set_cons_zero, List.set_cons_succ]))
      (refine Ord.takeQ (v := ?_) (Or.inl ⟨rfl, ?_⟩) ?_; rotate_left; (intro w hSw; (try dsimp only at hSw); go_simp; try (with_reducible rfl)); (try simp only [Act.put, List.setIfInBounds_toArray, List.set_cons_zero, List.set_cons_succ]))
      (refine Ord.takeQ (v := ?_) (Or.inl ⟨rfl, ?_⟩) ?_; rotate_left; (intro w hSw; (try dsimp only at hSw); go_simp; try (with_reducible rfl)); (try simp only [Act.put, List.setIfInBounds_toArray, List.set_cons_zero, List.set_cons_succ]))
      (refine Ord.takeQ (v := ?_) (Or.inl ⟨rfl, ?_⟩) ?_; rotate_left; (intro w hSw; (try dsimp only at hSw); go_simp; try (with_reducible rfl)); (try simp only [Act.put, List.setIfInBounds_toArray, List.set_cons_zero, List.set_cons_succ]))
      (refine Ord.takeQ (v := ?_) (Or.inl ⟨rfl, ?_⟩) ?_; rotate_left; (intro w hSw; (try dsimp only at hSw); go_simp; try (with_reducible rfl)); (try simp only [Act.put, List.setIfInBounds_toArray, List.set_cons_zero, List.set_cons_succ]))
      (refine Ord.takeQ (v := ?_) (Or.inl ⟨rfl, ?_⟩) ?_; rotate_left; (intro w hSw; (try dsimp only at hSw); go_simp; try (with_reducible rfl)); (try simp only [Act.put, List.setIfInBounds_toArray, List.set_cons_zero, List.set_cons_succ]))
      (refine Ord.takeQ (v := ?_) (Or.inl ⟨rfl, ?_⟩) ?_; rotate_left; (intro w hSw; (try dsimp only at hSw); go_simp; try (with_reducible rfl)); (try simp only [Act.put, List.setIfInBounds_toArray, List.set_cons_zero, List.set_cons_succ]))
      (refine Ord.takeQ (v := ?_) (Or.inl ⟨rfl, ?_⟩) ?_; rotate_left; (intro w hSw; (try dsimp only at hSw); go_simp; try (with_reducible rfl)); (try simp only [Act.put, List.setIfInBounds_toArray, List.set_cons_zero, List.set_cons_succ]))
      (refine Ord.takeQ (v := ?_) (Or.inl ⟨rfl, ?_⟩) ?_; rotate_left; (intro w hSw; (try dsimp only at hSw); go_simp; try (with_reducible rfl)); (try simp only [Act.put, List.setIfInBounds_toArray, List.set_cons_zero, List.set_cons_succ]))
      (refine Ord.takeQ (v := ?_) (Or.inl ⟨rfl, ?_⟩) ?_; rotate_left; (intro w hSw; (try dsimp only at hSw); go_simp; try (with_reducible rfl)); (try simp only [Act.put, List.setIfInBounds_toArray, List.set_cons_zero, List.set_cons_succ]))
      (refine Ord.takeQ (v := ?_) (Or.inl ⟨rfl, ?_⟩) ?_; rotate_left; (intro w hSw; (try dsimp only at hSw); go_simp; try (with_reducible rfl)); (try simp only [Act.put, List.setIfInBounds_toArray, List.set_cons_zero, List.set_cons_succ]))
      (refine Ord.takeQ (v := ?_) (Or.inl ⟨rfl, ?_⟩) ?_; rotate_left; (intro w hSw; (try dsimp only at hSw); go_simp; try (with_reducible rfl)); (try simp only [Act.put, List.setIfInBounds_toArray, List.set_cons_zero, List.set_cons_succ]))
      (refine Ord.takeQ (v := ?_) (Or.inl ⟨rfl, ?_⟩) ?_; rotate_left; (intro w hSw; (try dsimp only at hSw); go_simp; try (with_reducible rfl)); (try simp only [Act.put, List.setIfInBounds_toArray, List.set_cons_zero, List.set_cons_succ]))
      (refine Ord.takeQ (v := ?_) (Or.inl ⟨rfl, ?_⟩) ?_; rotate_left; (intro w hSw; (try dsimp only at hSw); go_simp; try (with_reducible rfl)); (try simp only [Act.put, List.setIfInBounds_toArray, List.set_cons_zero, List.set_cons_succ]))
      (refine Ord.takeQ (v := ?_) (Or.inl ⟨rfl, ?_⟩) ?_; rotate_left; (intro w hSw; (try dsimp only at hSw); go_simp; try (with_reducible rfl)); (try simp only [Act.put, List.setIfInBounds_toArray, List.set_cons_zero, List.set_cons_succ]))
      (refine Ord.takeQ (v := ?_) (Or.inl ⟨rfl, ?_⟩) ?_; rotate_left; (intro w hSw; (try dsimp only at hSw); go_simp; try (with_reducible rfl)); (try simp only [Act.put, List.setIfInBounds_toArray, List.set_cons_zero, List.set_cons_succ]))
      (refine Ord.takeQ (v := ?_) (Or.inl ⟨rfl, ?_⟩) ?_; rotate_left; (intro w hSw; (try dsimp only at hSw); go_simp; try (with_reducible rfl)); (try simp only [Act.put, List.setIfInBounds_toArray, List.set_cons_zero, List.set_cons_succ]))
      (refine Ord.takeQ (v := ?_) (Or.inl ⟨rfl, ?_⟩) ?_; rotate_left; (intro w hSw; (try dsimp only at hSw); go_simp; try (with_reducible rfl)); (try simp only [Act.put, List.setIfInBounds_toArray, List.set_cons_zero, List.set_cons_succ]))
      (refine Ord.takeQ (v := ?_) (Or.inl ⟨rfl, ?_⟩) ?_; rotate_left; (intro w hSw; (try dsimp only at hSw); go_simp; try (with_reducible rfl)); (try simp only [Act.put, List.setIfInBounds_toArray, List.set_cons_zero, List.set_cons_succ]))
      (refine Ord.takeQ (v := ?_) (Or.inl ⟨rfl, ?_⟩) ?_; rotate_left; (intro w hSw; (try dsimp only at hSw); go_simp; try (with_reducible rfl)); (try simp only [Act.put, List.setIfInBounds_toArray, List.set_cons_zero, List.set_cons_succ]))
      refine Ord.doneQ (NoPanic.normal ?_)
      clear hSA w1' w2' w3' i0 i1 i2 i4 i5
      by_cases c1 : gp < mn
      · have d1 : decide (gp < mn) = true := decide_eq_true c1
        have Z1 : Hid (min mn gp = gp) := hid (by omega)
        by_cases c2 : mx < gp
        · have d2 : decide (mx < gp) = true := decide_eq_true c2
          have Z2 : Hid (max mx gp = gp) := hid (by omega)
          go_wp2_with fail
          go_roundw
          case rel => exact ⟨p + 1, by have := hkp.out; omega, by rw [hkp.out]; go_num, by rw [H1.out, Z1.out], by rw [H2.out, Z2.out], hd.drew⟩
          case measure => simp [intOf]; omega
        · have d2 : decide (mx < gp) = false := decide_eq_false c2
          have Z2 : Hid (max mx gp = mx) := hid (by omega)
          go_wp2_with fail
          go_roundw
          case rel => exact ⟨p + 1, by have := hkp.out; omega, by rw [hkp.out]; go_num, by rw [H1.out, Z1.out], by rw [H2.out, Z2.out], hd.drew⟩
          case measure => simp [intOf]; omega
      · have d1 : decide (gp < mn) = false := decide_eq_false c1
        have Z1 : Hid (min mn gp = mn) := hid (by omega)
        by_cases c2 : mx < gp
        · have d2 : decide (mx < gp) = true := decide_eq_true c2
          have Z2 : Hid (max mx gp = gp) := hid (by omega)
          go_wp2_with fail
          go_roundw
          case rel => exact ⟨p + 1, by have := hkp.out; omega, by rw [hkp.out]; go_num, by rw [H1.out, Z1.out], by rw [H2.out, Z2.out], hd.drew⟩
          case measure => simp [intOf]; omega
        · have d2 : decide (mx < gp) = false := decide_eq_false c2
          have Z2 : Hid (max mx gp = mx) := hid (by omega)
          go_wp2_with fail
          go_roundw
          case rel => exact ⟨p + 1, by have := hkp.out; omega, by rw [hkp.out]; go_num, by rw [H1.out, Z1.out], by rw [H2.out, Z2.out], hd.drew⟩
          case measure => simp [intOf]; omega
    · replace hB := hB.trans (hd.below _)
      have hz := hB.size
      have HEV : Hid (1 < l.length → gmax g p - gmin g p ≤ 1) := hid (fun h => g_even (n := l.length - 1) hg.out (fun i j hi hj => hev.out i j (by omega) (by omega)) p (by omega) (by omega))
      rw [hkp]
      have dk : decide (k < l.length) = false := decide_eq_false hlt
      clear hP hA
      obtain ⟨q, hq⟩ : ∃ q, l.length = q := ⟨_, rfl⟩
      have s1 := few_lo size
      have s2 := few_hi size
      have s3 := few_lo outer
      have s4 := few_hi outer
      have HAC := hid (across_end (st := true) hr1 hr2 s3 s4 s1 s2)
      go_upto_region 16 with fail
      go_cut [84] (fun s84 wx => s84 = .bool false ∧ wr = wx)
      case first =>
        by_cases h1 : 1 < l.length
        · have h2 := HEV.out h1
          have d1 : decide (1 < l.length) = true := decide_eq_true h1
          have d2 : decide (1 < gmax g p - gmin g p) = false := decide_eq_false (by omega)
          have d3 : decide (gmin g p < 0) = false := decide_eq_false (by omega)
          have d4 : IntKind.i64.wrap (gmax g p - gmin g p) = gmax g p - gmin g p := IntWalk.i64_in _ (by omega)
          clear hq
          go_wp2_with fail
          go_meet
          exact ⟨rfl, rfl⟩
        · have d1 : decide (1 < l.length) = false := decide_eq_false h1
          have d0 : l.length ≤ 1 := by omega
          have d2 : decide ((1 : Int) < (l.length : Int)) = false := decide_eq_false (by omega)
          clear hq
          go_wp2_with fail
          go_meet
          exact ⟨rfl, rfl⟩
      case rest =>
      obtain ⟨rfl, rfl⟩ := hcut
      clear hq HEV hm1 hm2 hkp dk
      go_wp2_with fail
      refine (small_any _ _ io).mono ?_
      rintro e w' ⟨rfl, rfl⟩
      go_wp2_with fail
      refine (small_any _ _ is).mono ?_
      rintro e w' ⟨rfl, rfl⟩
      have HFS : Hid (few size = few size) := hid rfl
      obtain ⟨sz, hsz⟩ : ∃ sz, few size = sz := ⟨_, rfl⟩
      obtain ⟨ou, hou⟩ : ∃ ou, few outer = ou := ⟨_, rfl⟩
      have hsmS : ∀ w, Calls Try.prog 15 #[.int .i64 size] w fun e w' => e = .returned (.int .i64 sz) ∧ w = w' := fun w => by rw [← hsz]; exact small_any _ _ is
      have hsmO : ∀ w, Calls Try.prog 15 #[.int .i64 outer] w fun e w' => e = .returned (.int .i64 ou) ∧ w = w' := fun w => by rw [← hou]; exact small_any _ _ io
      rw [hsz, hou] at HAC ⊢
      rw [hsz] at s1 s2
      rw [hou] at s3 s4
      clear hsz hou HFS
      go_wp2_with fail
      have hac := flex_Across R ou sz 1 true wr
      rw [HAC.out] at hac
      refine hac.mono ?_
      clear hac
      rintro e w3 ⟨rfl, hb3⟩
      simp only
      replace hB := hB.trans (hb3.mono hz)
      clear hb3 hd
      go_wp2_with (first | refine stop_load 76 _ rfl rfl ?_ | refine stop_store 76 _ _ rfl rfl ?_)
      refine ⟨?_⟩
      refine wl_store rfl 76 _ _ rfl w3.heap.size (sp2 (R - ou - sz) sz) rfl rfl 76 _ (Blk.new _ _ _) rfl (info_sp2 _ _) (sp_one _ _) ?_
      intro w5 hX hC
      (try simp only [Act.put, List.setIfInBounds_toArray, List.set_cons_zero, List.set_cons_succ])
      have hB5 := (hB.alloc (by have := hB.size; omega) (.cells (sp2 0 0) 76)).trans (hC.below (by have := hB.size; omega))
      clear hB hC
      have hgl := hX.lt
      generalize w3.heap.size = gl at *
      have d4 : (R - ou - sz + sz + ou == R) = true := beq_iff_eq.2 (by omega)
      have d5 : (sz == sz) = true := by simp
      have v1 : IntKind.i64.wrap (R - ou - sz + sz) = R - ou - sz + sz := IntWalk.i64_in _ (by omega)
      have v2 : IntKind.i64.wrap (R - ou - sz + sz + ou) = R - ou - sz + sz + ou := IntWalk.i64_in _ (by omega)
      obtain ⟨X1, hX1⟩ : ∃ X1, R - ou - sz = X1 := ⟨_, rfl⟩
      rw [hX1] at d4 v1 v2 hX
      simp only [hX1]
      clear hX1
      have hSK : ∀ Z, Below w5.heap.size w5 Z → (fun Z : World => Z.cell? ⟨gl, 0, none⟩ = some (.int .i64 X1) ∧ Z.cell? ⟨gl, 1, none⟩ = some (.int .i64 sz)) Z := fun Z h => ⟨(h.cell (p := ⟨gl, 0, none⟩) hgl).trans (hX.cell 0), (h.cell (p := ⟨gl, 1, none⟩) hgl).trans (hX.cell 1)⟩
      have hdb : Below w5.heap.size w5 w5.drew := (Drawn.refl w5).drew.below _
      go_upto_region 19 with fail
      refine wp_region_noPanic ?_
      refine Ord.region_Q (S := fun Z : World => Z.cell? ⟨gl, 0, none⟩ = some (.int .i64 X1) ∧ Z.cell? ⟨gl, 1, none⟩ = some (.int .i64 sz)) 999 (.one 0 true (.one 1 true (.one 2 true (.one 3 true (.one 4 true (.one 5 true (.one 6 true (.one 7 true (.one 8 true (.one 9 true (.one 10 true (.one 11 true (.one 12 true (.one 13 true (.one 14 true (.one 15 true (.one 16 true (.one 17 true (.one 18 false (.one 19 true (.one 20 true .nil))))))))))))))))))))) (by kernel_rfl) (by kernel_rfl) (by kernel_rfl) (by decide) (fun _ _ _ _ _ h => h) (hSK _ hdb) (fun hS0 => ?_)
      simp only [Ord.layT, List.getElem?_cons_zero, List.getElem?_cons_succ]
      (refine Ord.takeQ (v := ?_) (Or.inl ⟨rfl, ?_⟩) ?_; rotate_left; (intro w hSw; (try dsimp only at hSw); go_simp; try (with_reducible rfl)); (try simp only [Act.put, List.setIfInBounds_toArray, List.set_cons_zero, List.set_cons_succ]))
      (refine Ord.takeQ (v := ?_) (Or.inl ⟨rfl, ?_⟩) ?_; rotate_left; (intro w hSw; (try dsimp only at hSw); go_simp; try (with_reducible rfl)); (try simp only [Act.put, List.setIfInBounds_toArray, List.set_cons_zero, List.set_cons_succ]))
      (refine Ord.takeQ (v := ?_) (Or.inl ⟨rfl, ?_⟩) ?_; rotate_left; (intro w hSw; (try dsimp only at hSw); go_simp; try (with_reducible rfl)); (try simp only [Act.put, List.setIfInBounds_toArray, List.set_cons_zero, List.set_cons_succ]))
      (refine Ord.takeQ (v := ?_) (Or.inl ⟨rfl, ?_⟩) ?_; rotate_left; (intro w hSw; (try dsimp only at hSw); go_simp; try (with_reducible rfl)); (try simp only [Act.put, List.setIfInBounds_toArray, List.set_cons_zero, List.set_cons_succ]))
      (refine Ord.takeQ (v := ?_) (Or.inl ⟨rfl, ?_⟩) ?_; rotate_left; (intro w hSw; (try dsimp only at hSw); go_simp; try (with_reducible rfl)); (try simp only [Act.put, List.setIfInBounds_toArray, List.set_cons_zero, List.set_cons_succ]))
      (refine Ord.takeQ (v := ?_) (Or.inl ⟨rfl, ?_⟩) ?_; rotate_left; (intro w hSw; (try dsimp only at hSw); go_simp; try (with_reducible rfl)); (try simp only [Act.put, List.setIfInBounds_toArray, List.set_cons_zero, List.set_cons_succ]))
      (refine Ord.takeC 15 #[.int .i64 outer] rfl (fun _ _ => by kernel_rfl) (fun w hSw => hsmO _) ?_; (try simp only [Act.put, List.setIfInBounds_toArray, List.set_cons_zero, List.set_cons_succ]))
      (refine Ord.takeQ (v := ?_) (Or.inl ⟨rfl, ?_⟩) ?_; rotate_left; (intro w hSw; (try dsimp only at hSw); go_simp; try (with_reducible rfl)); (try simp only [Act.put, List.setIfInBounds_toArray, List.set_cons_zero, List.set_cons_succ]))
      (refine Ord.takeQ (v := ?_) (Or.inl ⟨rfl, ?_⟩) ?_; rotate_left; (intro w hSw; (try dsimp only at hSw); go_simp; try (with_reducible rfl)); (try simp only [Act.put, List.setIfInBounds_toArray, List.set_cons_zero, List.set_cons_succ]))
      (refine Ord.takeQ (v := ?_) (Or.inl ⟨rfl, ?_⟩) ?_; rotate_left; (intro w hSw; (try dsimp only at hSw); go_simp; try (with_reducible rfl)); (try simp only [Act.put, List.setIfInBounds_toArray, List.set_cons_zero, List.set_cons_succ]))
      (refine Ord.takeQ (v := ?_) (Or.inl ⟨rfl, ?_⟩) ?_; rotate_left; (intro w hSw; (try dsimp only at hSw); go_simp; try (with_reducible rfl)); (try simp only [Act.put, List.setIfInBounds_toArray, List.set_cons_zero, List.set_cons_succ]))
      (refine Ord.takeQ (v := ?_) (Or.inl ⟨rfl, ?_⟩) ?_; rotate_left; (intro w hSw; (try dsimp only at hSw); go_simp; try (with_reducible rfl)); (try simp only [Act.put, List.setIfInBounds_toArray, List.set_cons_zero, List.set_cons_succ]))
      (refine Ord.takeQ (v := ?_) (Or.inl ⟨rfl, ?_⟩) ?_; rotate_left; (intro w hSw; (try dsimp only at hSw); go_simp; try (with_reducible rfl)); (try simp only [Act.put, List.setIfInBounds_toArray, List.set_cons_zero, List.set_cons_succ]))
      (refine Ord.takeQ (v := ?_) (Or.inl ⟨rfl, ?_⟩) ?_; rotate_left; (intro w hSw; (try dsimp only at hSw); go_simp; try (with_reducible rfl)); (try simp only [Act.put, List.setIfInBounds_toArray, List.set_cons_zero, List.set_cons_succ]))
      (refine Ord.takeC 15 #[.int .i64 size] rfl (fun _ _ => by kernel_rfl) (fun w hSw => hsmS _) ?_; (try simp only [Act.put, List.setIfInBounds_toArray, List.set_cons_zero, List.set_cons_succ]))
      (refine Ord.takeQ (v := ?_) (Or.inl ⟨rfl, ?_⟩) ?_; rotate_left; (intro w hSw; (try dsimp only at hSw); go_simp; try (with_reducible rfl)); (try simp only [Act.put, List.setIfInBounds_toArray, List.set_cons_zero, List.set_cons_succ]))
      (refine Ord.takeQ (v := ?_) (Or.inl ⟨rfl, ?_⟩) ?_; rotate_left; (intro w hSw; (try dsimp only at hSw); go_simp; try (with_reducible rfl)); (try simp only [Act.put, List.setIfInBounds_toArray, List.set_cons_zero, List.set_cons_succ]))
      (refine Ord.takeQ (v := ?_) (Or.inl ⟨rfl, ?_⟩) ?_; rotate_left; (intro w hSw; (try dsimp only at hSw); go_simp; try (with_reducible rfl)); (try simp only [Act.put, List.setIfInBounds_toArray, List.set_cons_zero, List.set_cons_succ]))
      refine Ord.aloneQ rfl rfl (fun K hK => ?_)
      go_simp
      refine (known18 _).mono ?_
      rintro e w8 ⟨rfl, hb8⟩
      replace hb8 := hdb.trans (hb8.mono (by simp))
      go_wp2_with fail
      (try simp only [Act.put, List.setIfInBounds_toArray, List.set_cons_zero, List.set_cons_succ])
      refine hK.out _ _ (hSK _ hb8) (fun _ => ?_)
      clear hK K
      (refine Ord.takeQ (v := ?_) (Or.inl ⟨rfl, ?_⟩) ?_; rotate_left; (intro w hSw; (try dsimp only at hSw); go_simp; try (with_reducible rfl)); (try simp only [Act.put, List.setIfInBounds_toArray, List.set_cons_zero, List.set_cons_succ]))
      (refine Ord.takeQ (v := ?_) (Or.inl ⟨rfl, ?_⟩) ?_; rotate_left; (intro w hSw; (try dsimp only at hSw); go_simp; try (with_reducible rfl)); (try simp only [Act.put, List.setIfInBounds_toArray, List.set_cons_zero, List.set_cons_succ]))
      refine Ord.doneQ (NoPanic.normal ?_)
      have hb9 := hB5.trans (hb8.mono hB5.size)
      clear hSK
      go_wp2_with fail
      go_ret
      exact ⟨rfl, hb9⟩
end Go.Proofs.Yteghacdpfhohoaa
