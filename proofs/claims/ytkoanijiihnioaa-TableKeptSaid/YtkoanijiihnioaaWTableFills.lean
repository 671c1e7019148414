/-
  The walk of TableFills.
-/
import Derived.Test.YtkoanijiihnioaaTabD
import Derived.Test.YtkoanijiihnioaaOpenNeeds
namespace Go.Proofs.Ytkoanijiihnioaa
open Go.RowKit Num Mem Opn
set_option linter.unusedVariables false
set_option linter.unusedSimpArgs false
theorem needs_len (ls : List (List Nd)) : ∀ r ∈ needs ls, r.length ≤ 12 := by
  intro r hr
  obtain ⟨q, _, rfl⟩ := List.mem_map.1 hr
  simp
  omega
theorem needs_most (ls : List (List Nd)) : ∀ r ∈ needs ls, Most 16777216 r := by
  intro r hr x hx
  obtain ⟨q, _, rfl⟩ := List.mem_map.1 hr
  obtain ⟨y, _, rfl⟩ := List.mem_map.1 hx
  have h1 := fw_hi y.least
  have h2 := fw_hi y.most
  simp only [nd, sat]
  omega
theorem bet_more {m m' : Int} {l : List Nd} (h : Bet m l) (hm : m ≤ m') : Bet m' l := fun i => by have := h i; omega
/-- a column of a row of needs. -/
theorem col_at {w : World} {B : Nat} {A : Option Addr} {P : List Nd} (h : Recs w B A 2 Nd.cells P) {k : Nat} (hk : k < P.length) :
    ∃ b off y, A = some ⟨b, off, none⟩ ∧ b < B ∧ Hid (P.getD k nd0 = y) ∧ w.cell? ⟨b, off + k * 2, none⟩ = some (.int .i64 y.least) ∧ w.cell? ⟨b, off + k * 2 + 1, none⟩ = some (.int .i64 y.most) := by
  obtain ⟨b, off, e, hb, hc⟩ := h (by rintro rfl; simp at hk)
  have hx : P[k]? = some P[k] := List.getElem?_eq_getElem hk
  exact ⟨b, off, P[k], e, hb, hid (by simp [List.getD_eq_getElem?_getD, hk]), hc k _ hx 0 _ rfl, hc k _ hx 1 _ rfl⟩
set_option maxRecDepth 100000 in
set_option maxHeartbeats 8000000 in
theorem walk_TableFills (A0 : Option Addr) (ls : List (List Nd)) (c0 : Nat) (room : Int) (sure : Bool) (w : World) (hr : RowsN w A0 ls c0) (ir : I64 room) :
    Calls Try.prog 6 #[.slice A0 ls.length c0, .int .i64 room, .bool sure] w fun e w' => e = .returned (.bool true) ∧ Below w.heap.size w w' := by
  obtain ⟨⟨vs, hA0⟩, hcap, hfew, hok⟩ := hr
  have hr1 := fw_lo room
  have hr2 := fw_hi room
  have hnl := needs_len ls
  have hnm := needs_most ls
  go_enter Try.func6, Try.ntmps6
  go_wp2_with fail
  refine (some19 ls vs A0 c0 _ (by omega) hA0 hok).mono ?_
  rintro e w1 ⟨A1, c1, A2, c2, vs1, vs2, rfl, hc1, -, hb1, hR1, -⟩
  have hNL : (needs ls).length ≤ 12 := by simp [needs]; omega
  generalize needs ls = N at *
  clear hA0 hok hcap hfew
  go_wp2_with fail
  refine (small19 _ _ ir).mono ?_
  rintro e w' ⟨rfl, rfl⟩
  generalize fw room = R at *
  go_wp2_with fail
  refine (table_Columns N vs1 A1 c1 _ (by omega) hR1 (fun r h => by have := hnl r h; omega)).mono ?_
  rintro e w2 ⟨v2, rfl, hb2, ho⟩
  have hbet := cols_bet (by decide) hnm
  have hle := cols_le N
  have hcl := cols_length (m := 12) hnl
  generalize cols N = X at *
  obtain ⟨A, c, rfl, hc⟩ := own_some ho
  have hA : Recs w2 w2.heap.size A 2 Nd.cells X := Recs.of_own nd_length (by decide) ho
  have hB := hb1.trans (hb2.mono hb1.size)
  clear hb1 hb2 ho hnl hnm hR1
  go_wp2_with fail
  refine (table_Widths R X A c sure _ (by omega) (bet_more hbet (by decide)) hle ⟨by omega, by omega⟩ hA).mono ?_
  rintro e w3 ⟨g, hg, rfl, hb3, hW⟩
  have HF := hid (widths_filled (sure := sure) hbet hle (by omega) (by omega : -16777216 ≤ R) (by omega))
  replace hA := hA.below hb3
  replace hB := hB.trans (hb3.mono hB.size)
  generalize widths R X sure = V at *
  replace hbet := hid hbet
  replace hle := hid hle
  clear hb3
  go_wp2_with fail
  go_loopw [11, 12, 13, 14] (fun s11 s12 s13 s14 wr => ∃ k : Nat, k ≤ X.length ∧ s14 = .int .i64 k ∧ s11 = .int .i64 (psum V k) ∧ s12 = .int .i64 (psum (leasts X) k) ∧ s13 = .int .i64 (psum (mosts X) k) ∧ Drawn w3 wr) (fun _ _ _ i _ => X.length - (intOf i).toNat)
  case atStart => exact ⟨0, Nat.zero_le _, rfl, rfl, rfl, rfl, .refl _⟩
  case round =>
    obtain ⟨k, hk, rfl, rfl, rfl, rfl, hd⟩ := hrel
    have p1 : 0 ≤ psum V k ∧ psum V k ≤ 8589934592 * (k : Int) := by
      have : ∀ j, j ≤ X.length → 0 ≤ psum V j ∧ psum V j ≤ 8589934592 * (j : Int) := by
        intro j
        induction j with
        | zero => simp [psum]
        | succ j ih =>
          intro hj
          have a1 := ih (by omega)
          have a2 := HF.out.bnd j (by omega)
          have a3 := hbet.out j
          simp only [psum]
          omega
      exact this k hk
    have p2 : 0 ≤ psum (leasts X) k ∧ psum (leasts X) k ≤ 16777216 * (k : Int) := by
      have := sums_psum (x := leasts X) (m := 16777216) (fun i => by rw [leasts_get]; have := hbet.out i; omega) (k := k) (by omega)
      have h0 := psum_lo (x := leasts X) (fun i => by rw [leasts_get]; have := hbet.out i; omega) k
      omega
    have p3 : 0 ≤ psum (mosts X) k ∧ psum (mosts X) k ≤ 16777216 * (k : Int) := by
      have := sums_psum (x := mosts X) (m := 16777216) (fun i => by rw [mosts_get]; have := hbet.out i; omega) (k := k) (by omega)
      have h0 := psum_lo (x := mosts X) (fun i => by rw [mosts_get]; have := hbet.out i; omega) k
      omega
    by_cases hlt : k < X.length
    · obtain ⟨b, off, y, rfl, hb, HY, cy0, cy1⟩ := col_at (hA.drawn hd) hlt
      obtain ⟨z, hz, HZ⟩ := (hW.drawn hd).intAt (i := k) (by rw [HF.out.len]; exact hlt)
      have b1 := hbet.out k
      have b2 := hle.out k
      have b3 := HF.out.bnd k hlt
      rw [HY.out] at b1 b2 b3
      rw [HZ.out] at b3
      have d1 : decide (y.least < 0) = false := decide_eq_false (by omega)
      have d2 : decide (y.most < y.least) = false := decide_eq_false (by omega)
      have d3 : decide (z < y.least) = false := decide_eq_false (by omega)
      have H1 : Hid (psum V (k + 1) = psum V k + z) := hid (by show psum V k + _ = _; rw [HZ.out])
      have H2 : Hid (psum (leasts X) (k + 1) = psum (leasts X) k + y.least) := hid (by show psum _ k + _ = _; rw [leasts_get, HY.out])
      have H3 : Hid (psum (mosts X) (k + 1) = psum (mosts X) k + y.most) := hid (by show psum _ k + _ = _; rw [mosts_get, HY.out])
      have hSQ : (fun Z : World => Z.cell? ⟨b, off + k * 2, none⟩ = some (.int .i64 y.least) ∧ Z.cell? ⟨b, off + k * 2 + 1, none⟩ = some (.int .i64 y.most) ∧ Z.cell? ⟨g, k, none⟩ = some (.int .i64 z)) wr.drew := ⟨cy0, cy1, hz⟩
      generalize psum V k = S1 at *
      generalize psum (leasts X) k = S2 at *
      generalize psum (mosts X) k = S3 at *
      go_upto_region 13 with fail
      refine wp_region_noPanic ?_
      refine Ord.region_Q (S := fun Z : World => Z.cell? ⟨b, off + k * 2, none⟩ = some (.int .i64 y.least) ∧ Z.cell? ⟨b, off + k * 2 + 1, none⟩ = some (.int .i64 y.most) ∧ Z.cell? ⟨g, k, none⟩ = some (.int .i64 z)) 999 (.one 0 true (.one 1 true (.one 2 true (.one 3 true (.one 4 true (.one 5 true (.one 6 true (.one 7 true (.one 8 true (.one 9 true (.one 10 true (.one 11 true (.one 12 true (.one 13 true (.one 14 true (.one 15 true (.one 16 true (.one 17 true (.one 18 true (.one 19 true (.one 20 true (.one 21 true (.one 22 true (.one 23 true (.one 24 true (.one 25 true (.one 26 true (.one 27 true (.one 28 true (.one 29 true (.one 30 true .nil))))))))))))))))))))))))))))))) (by kernel_rfl) (by kernel_rfl) (by kernel_rfl) (by decide) (fun _ _ _ _ _ h => h) (hSQ) (fun hS0 => ?_)
      simp only [Ord.layT, List.getElem?_cons_zero, List.getElem?_cons_succ]
      (refine Ord.takeQ (v := ?_) (Or.inl ⟨rfl, ?_⟩) ?_; rotate_left; (intro w hSw; (try dsimp only at hSw); go_simp; try (with_reducible rfl)); (try simp only [Act.put, List.setIfInBounds_toArray, List.set_cons_zero, List.set_cons_succ]))
      (refine Ord.takeQ (v := ?_) (Or.inl ⟨rfl, ?_⟩) ?_; rotate_left; (intro w hSw; (try dsimp only at hSw); go_simp; try (with_reducible rfl)); (try simp only [Act.put, List.setIfInBounds_toArray, List.set_cons_zero, List.set_cons_succ]))
      (refine Ord.takeQ (v := ?_) (Or.inl ⟨rfl, ?_⟩) ?_; rotate_left; (intro w hSw; (try dsimp only at hSw); go_simp; try (with_reducible rfl)); (try simp only [Act.put, List.setIfInBounds_toArray, List.set_cons_zero, List.set_cons_succ]))
      (refine Ord.takeQ (v := ?_) (Or.inl ⟨rfl, ?_⟩) ?_; rotate_left; (intro w hSw; (try dsimp only at hSw); go_simp; try (with_reducible rfl)); (try simp only [Act.put, List.setIfInBounds_toArray, List.set_cons_zero, List.set_cons_succ]))
      (refine Ord.takeQ (v := ?_) (Or.inl ⟨rfl, ?_⟩) ?_; rotate_left; (intro w hSw; (try dsimp only at hSw); go_simp; try (with_reducible rfl)); (try simp only [Act.put, List.setIfInBounds_toArray, List.set_cons_zero, List.set_cons_succ]))
      (refine Ord.takeQ (v := ?_) (Or.inl ⟨rfl, ?_⟩) ?_; rotate_left; (intro w hSw; (try dsimp only at hSw); go_simp; try (with_reducible rfl)); (try simp only [Act.put, List.setIfInBounds_toArray, List.set_cons_zero, List.set_cons_succ]))
      (refine Ord.takeQ (v := ?_) (Or.inl ⟨rfl, ?_⟩) ?_; rotate_left; (intro w hSw; (try dsimp only at hSw); go_simp; try (with_reducible rfl)); (try simp only [Act.put, List.setIfInBounds_toArray, List.set_cons_zero, List.set_cons_succ]))
      (refine Ord.takeQ (v := ?_) (Or.inl ⟨rfl, ?_⟩) ?_; rotate_left; (intro w hSw; (try dsimp only at hSw); go_simp; try (with_reducible rfl)); (try simp only [Act.put, List.setIfInBounds_toArray, List.set_cons_zero, List.set_cons_succ]))
      (refine Ord.takeQ (v := ?_) (Or.inl ⟨rfl, ?_⟩) ?_; rotate_left; (intro w hSw; (try dsimp only at hSw); go_simp; try (with_reducible rfl)); (try simp only [Act.put, List.setIfInBounds_toArray, List.set_cons_zero, List.set_cons_succ]))
      (refine Ord.takeQ (v := ?_) (Or.inl ⟨rfl, ?_⟩) ?_; rotate_left; (intro w hSw; (try dsimp only at hSw); go_simp; try (with_reducible rfl)); (try simp only [Act.put, List.setIfInBounds_toArray, List.set_cons_zero, List.set_cons_succ]))
      (refine Ord.takeQ (v := ?_) (Or.inl ⟨rfl, ?_⟩) ?_; rotate_left; (intro w hSw; (try dsimp only at hSw); go_simp; try (with_reducible rfl)); (try simp only [Act.put, List.setIfInBounds_toArray, List.set_cons_zero, List.set_cons_succ]))
      (refine Ord.takeQ (v := ?_) (Or.inl ⟨rfl, ?_⟩) ?_; rotate_left; (intro w hSw; (try dsimp only at hSw); go_simp; try (with_reducible rfl)); (try simp only [Act.put, List.setIfInBounds_toArray, List.set_cons_zero, List.set_cons_succ]))
      (refine Ord.takeQ (v := ?_) (Or.inl ⟨rfl, ?_⟩) ?_; rotate_left; (intro w hSw; (try dsimp only at hSw); go_simp; try (with_reducible rfl)); (try simp only [Act.put, List.setIfInBounds_toArray, List.set_cons_zero, List.set_cons_succ]))
      (refine Ord.takeQ (v := ?_) (Or.inl ⟨rfl, ?_⟩) ?_; rotate_left; (intro w hSw; (try dsimp only at hSw); go_simp; try (with_reducible rfl)); (try simp only [Act.put, List.setIfInBounds_toArray, List.set_cons_zero, List.set_cons_succ]))
      (refine Ord.takeQ (v := ?_) (Or.inl ⟨rfl, ?_⟩) ?_; rotate_left; (intro w hSw; (try dsimp only at hSw); go_simp; try (with_reducible rfl)); (try simp only [Act.put, List.setIfInBounds_toArray, List.set_cons_zero, List.set_cons_succ]))
      (refine Ord.takeQ (v := ?_) (Or.inl ⟨rfl, ?_⟩) ?_; rotate_left; (intro w hSw; (try dsimp only at hSw); go_simp; try (with_reducible rfl)); (try simp only [Act.put, List.setIfInBounds_toArray, List.set_cons_zero, List.set_cons_succ]))
      (refine Ord.takeQ (v := ?_) (Or.inl ⟨rfl, ?_⟩) ?_; rotate_left; (intro w hSw; (try dsimp only at hSw); go_simp; try (with_reducible rfl)); (try simp only [Act.put, List.setIfInBounds_toArray, List.set_cons_zero, List.set_cons_succ]))
      (refine Ord.takeQ (v := ?_) (Or.inl ⟨rfl, ?_⟩) ?_; rotate_left; (intro w hSw; (try dsimp only at hSw); go_simp; try (with_reducible rfl)); (try simp only [Act.put, List.setIfInBounds_toArray, List.set_cons_zero, List.set_cons_succ]))
      (refine Ord.takeQ (v := ?_) (Or.inl ⟨rfl, ?_⟩) ?_; rotate_left; (intro w hSw; (try dsimp only at hSw); go_simp; try (with_reducible rfl)); (try simp only [Act.put, List.setIfInBounds_toArray, List.set_cons_zero, List.set_cons_succ]))
      (refine Ord.takeQ (v := ?_) (Or.inl ⟨rfl, ?_⟩) ?_; rotate_left; (intro w hSw; (try dsimp only at hSw); go_simp; try (with_reducible rfl)); (try simp only [Act.put, List.setIfInBounds_toArray, List.set_cons_zero, List.set_cons_succ]))
      (refine Ord.takeQ (v := ?_) (Or.inl ⟨rfl, ?_⟩) ?_; rotate_left; (intro w hSw; (try dsimp only at hSw); go_simp; try (with_reducible rfl)); (try simp only [Act.put, List.setIfInBounds_toArray, List.set_cons_zero, List.set_cons_succ]))
      (refine Ord.takeQ (v := ?_) (Or.inl ⟨rfl, ?_⟩) ?_; rotate_left; (intro w hSw; (try dsimp only at hSw); go_simp; try (with_reducible rfl)); (try simp only [Act.put, List.setIfInBounds_toArray, List.set_cons_zero, List.set_cons_succ]))
      (refine Ord.takeQ (v := ?_) (Or.inl ⟨rfl, ?_⟩) ?_; rotate_left; (intro w hSw; (try dsimp only at hSw); go_simp; try (with_reducible rfl)); (try simp only [Act.put, List.setIfInBounds_toArray, List.set_cons_zero, List.set_cons_succ]))
      (refine Ord.takeQ (v := ?_) (Or.inl ⟨rfl, ?_⟩) ?_; rotate_left; (intro w hSw; (try dsimp only at hSw); go_simp; try (with_reducible rfl)); (try simp only [Act.put, List.setIfInBounds_toArray, List.set_cons_zero, List.set_cons_succ]))
      (refine Ord.takeQ (v := ?_) (Or.inl ⟨rfl, ?_⟩) ?_; rotate_left; (intro w hSw; (try dsimp only at hSw); go_simp; try (with_reducible rfl)); (try simp only [Act.put, List.setIfInBounds_toArray, List.set_cons_zero, List.set_cons_succ]))
      (refine Ord.takeQ (v := ?_) (Or.inl ⟨rfl, ?_⟩) ?_; rotate_left; (intro w hSw; (try dsimp only at hSw); go_simp; try (with_reducible rfl)); (try simp only [Act.put, List.setIfInBounds_toArray, List.set_cons_zero, List.set_cons_succ]))
      (refine Ord.takeQ (v := ?_) (Or.inl ⟨rfl, ?_⟩) ?_; rotate_left; (intro w hSw; (try dsimp only at hSw); go_simp; try (with_reducible rfl)); (try simp only [Act.put, List.setIfInBounds_toArray, List.set_cons_zero, List.set_cons_succ]))
      (refine Ord.takeQ (v := ?_) (Or.inl ⟨rfl, ?_⟩) ?_; rotate_left; (intro w hSw; (try dsimp only at hSw); go_simp; try (with_reducible rfl)); (try simp only [Act.put, List.setIfInBounds_toArray, List.set_cons_zero, List.set_cons_succ]))
      (refine Ord.takeQ (v := ?_) (Or.inl ⟨rfl, ?_⟩) ?_; rotate_left; (intro w hSw; (try dsimp only at hSw); go_simp; try (with_reducible rfl)); (try simp only [Act.put, List.setIfInBounds_toArray, List.set_cons_zero, List.set_cons_succ]))
      (refine Ord.takeQ (v := ?_) (Or.inl ⟨rfl, ?_⟩) ?_; rotate_left; (intro w hSw; (try dsimp only at hSw); go_simp; try (with_reducible rfl)); (try simp only [Act.put, List.setIfInBounds_toArray, List.set_cons_zero, List.set_cons_succ]))
      (refine Ord.takeQ (v := ?_) (Or.inl ⟨rfl, ?_⟩) ?_; rotate_left; (intro w hSw; (try dsimp only at hSw); go_simp; try (with_reducible rfl)); (try simp only [Act.put, List.setIfInBounds_toArray, List.set_cons_zero, List.set_cons_succ]))
      refine Ord.doneQ (NoPanic.normal ?_)
      clear hSQ
      have cy0' : wr.drew.cell? ⟨b, off + k * 2, none⟩ = some (.int .i64 y.least) := cy0
      have cy1' : wr.drew.cell? ⟨b, off + k * 2 + 1, none⟩ = some (.int .i64 y.most) := cy1
      have hz' : wr.drew.cell? ⟨g, k, none⟩ = some (.int .i64 z) := hz
      clear cy0 cy1 hz
      go_wp2_with fail
      go_roundw
      case rel => exact ⟨k + 1, by omega, by go_num, by rw [H1.out], by rw [H2.out], by rw [H3.out], hd.drew⟩
      case measure => simp [intOf]; omega
    · obtain rfl : k = X.length := by omega
      have hsum := HF.out.sum
      replace hB := hB.trans (hd.below _)
      have hP0 : X.length = 0 → psum V X.length = 0 := fun h => by rw [h]; rfl
      clear HF hA hW hd
      generalize psum V X.length = S1 at *
      generalize psum (leasts X) X.length = S2 at *
      generalize psum (mosts X) X.length = S3 at *
      rcases Nat.eq_zero_or_pos X.length with h0 | h0
      · have e0 := hP0 h0
        have d1 : ((X.length : Int) == 0) = true := beq_iff_eq.2 (by omega)
        have d2 : (X.length == 0) = true := beq_iff_eq.2 h0
        have d3 : (S1 == 0) = true := beq_iff_eq.2 e0
        clear hsum hP0 e0
        replace h0 := hid h0
        go_wp2_with fail
        refine (known19 _).mono ?_
        rintro e w8 ⟨rfl, hb8⟩
        go_wp2_with fail
        go_ret
        exact ⟨rfl, hB.trans (hb8.mono hB.size)⟩
      · have d1 : ((X.length : Int) == 0) = false := beq_eq_false_iff_ne.2 (by omega)
        have d2 : (X.length == 0) = false := beq_eq_false_iff_ne.2 (by omega)
        by_cases c1 : R ≤ S2
        · have d3 : decide (R ≤ S2) = true := decide_eq_true c1
          rw [if_pos c1] at hsum
          have d4 : (S1 == S2) = true := beq_iff_eq.2 hsum
          clear hsum hP0
          go_wp2_with fail
          refine (known19 _).mono ?_
          rintro e w8 ⟨rfl, hb8⟩
          go_wp2_with fail
          go_ret
          exact ⟨rfl, hB.trans (hb8.mono hB.size)⟩
        · have d3 : decide (R ≤ S2) = false := decide_eq_false c1
          rw [if_neg c1] at hsum
          by_cases c2 : R ≤ S3
          · have d4 : decide (R ≤ S3) = true := decide_eq_true c2
            rw [if_pos (.inl c2)] at hsum
            have d5 : (S1 == R) = true := beq_iff_eq.2 hsum
            clear hsum hP0
            go_wp2_with fail
            refine (known19 _).mono ?_
            rintro e w8 ⟨rfl, hb8⟩
            go_wp2_with fail
            go_ret
            exact ⟨rfl, hB.trans (hb8.mono hB.size)⟩
          · have d4 : decide (R ≤ S3) = false := decide_eq_false c2
            cases sure
            · rw [if_neg (by simp; omega)] at hsum
              have d5 : (S1 == S3) = true := beq_iff_eq.2 hsum
              clear hsum hP0
              go_wp2_with fail
              refine (known19 _).mono ?_
              rintro e w8 ⟨rfl, hb8⟩
              go_wp2_with fail
              go_ret
              exact ⟨rfl, hB.trans (hb8.mono hB.size)⟩
            · rw [if_pos (.inr ⟨rfl, h0⟩)] at hsum
              have d5 : (S1 == R) = true := beq_iff_eq.2 hsum
              clear hsum hP0
              go_wp2_with fail
              refine (known19 _).mono ?_
              rintro e w8 ⟨rfl, hb8⟩
              go_wp2_with fail
              go_ret
              exact ⟨rfl, hB.trans (hb8.mono hB.size)⟩
end Go.Proofs.Ytkoanijiihnioaa
