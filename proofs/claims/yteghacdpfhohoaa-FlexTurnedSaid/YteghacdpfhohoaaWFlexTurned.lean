/-
  The walk of FlexTurned.
-/
import Derived.Test.YteghacdpfhohoaaWFlexFills
import Derived.Test.YteghacdpfhohoaaPlainF3
namespace Go.Proofs.Yteghacdpfhohoaa
open Go.RowKit Num Mem Opn
set_option linter.unusedVariables false
set_option linter.unusedSimpArgs false
theorem within30 (n : Int) (w : World) (h : I64 n) : Calls Try.prog 18 #[.int .i64 n, .int .i64 1, .int .i64 30] w fun e w' => e = .returned (.int .i64 (1 + n % 30)) ∧ w = w' := by
  obtain ⟨h1, h2⟩ := h
  have ht : n.tmod 30 = if 0 ≤ n ∨ n % 30 = 0 then n % 30 else n % 30 - 30 := by
    rw [Int.tmod_eq_emod]
    have : ((30 : Int) ∣ n) ↔ n % 30 = 0 := by omega
    simp only [this]
    split <;> simp_all <;> omega
  by_cases hc : 0 ≤ n ∨ n % 30 = 0
  · rw [if_pos hc] at ht
    have HT := hid ht
    have g1 : 0 ≤ n.tmod 30 := by omega
    have g2 : n.tmod 30 ≤ 29 := by omega
    clear ht
    go_enter Try.func18, Try.ntmps18
    go_wp2_with fail
    go_ret
    exact ⟨ret_int (by have := HT.out; omega), rfl⟩
  · rw [if_neg hc] at ht
    have HT := hid ht
    have g1 : n.tmod 30 < 0 := by omega
    have g2 : -29 ≤ n.tmod 30 := by omega
    clear ht
    go_enter Try.func18, Try.ntmps18
    go_wp2_with fail
    go_ret
    exact ⟨ret_int (by have := HT.out; omega), rfl⟩
theorem rep_snoc {α : Type} (k : Nat) (x : α) : List.replicate k x ++ [x] = List.replicate (k + 1) x := by rw [List.replicate_succ']
set_option maxRecDepth 100000 in
set_option maxHeartbeats 8000000 in
theorem walk_FlexTurned (room x0 x1 x2 x3 n : Int) (w : World) (ir : I64 room) (i0 : I64 x0) (i1 : I64 x1) (i2 : I64 x2) (i3 : I64 x3) (inn : I64 n) :
    Calls Try.prog 4 #[.int .i64 room, .agg #[.int .i64 x0, .int .i64 x1, .int .i64 x2, .int .i64 x3], .int .i64 n] w fun e w' => e = .returned (.bool true) ∧ Below w.heap.size w w' := by
  obtain ⟨ii, hi1, hz1, hs1, hb1⟩ := info_parts info_item
  have hX : Blk (w.alloc (.cells (it4 x0 x1 x2 x3) 30)) w.heap.size 30 (it4 x0 x1 x2 x3) := Blk.new _ _ _
  have hB : Below w.heap.size w (w.alloc (.cells (it4 x0 x1 x2 x3) 30)) := (Below.refl _ _).alloc (Nat.le_refl _) _
  go_enter Try.func4, Try.ntmps4
  go_wp2_with fail
  refine (within30 _ _ inn).mono ?_
  rintro e w' ⟨rfl, rfl⟩
  obtain ⟨N, hN⟩ : ∃ N : Nat, 1 + n % 30 = N := ⟨(1 + n % 30).toNat, by omega⟩
  have hN1 : 1 ≤ N := by omega
  have hN2 : N ≤ 30 := by omega
  rw [hN]
  clear hN
  go_upto_region 2 with fail
  refine wp_forget (fun Z => Blk Z w.heap.size 30 (it4 x0 x1 x2 x3) ∧ Below w.heap.size w Z) ⟨hX, hB⟩ ?_
  clear hX hB
  rintro w1 ⟨hX, hB⟩
  generalize hg : w.heap.size = g at *
  replace hg := hid hg
  have hSQ : (fun Z : World => Z.cell? ⟨g, 0, none⟩ = some (.int .i64 x0) ∧ Z.cell? ⟨g, 1, none⟩ = some (.int .i64 x1) ∧ Z.cell? ⟨g, 2, none⟩ = some (.int .i64 x2) ∧ Z.cell? ⟨g, 3, none⟩ = some (.int .i64 x3)) w1.drew := ⟨hX.drew.cell 0, hX.drew.cell 1, hX.drew.cell 2, hX.drew.cell 3⟩
  refine wp_region_noPanic ?_
  refine Ord.region_Q (S := fun Z : World => Z.cell? ⟨g, 0, none⟩ = some (.int .i64 x0) ∧ Z.cell? ⟨g, 1, none⟩ = some (.int .i64 x1) ∧ Z.cell? ⟨g, 2, none⟩ = some (.int .i64 x2) ∧ Z.cell? ⟨g, 3, none⟩ = some (.int .i64 x3)) 11 (.one 0 true (.one 1 true (.one 2 true (.one 3 true (.one 4 true (.one 5 true (.one 6 true (.one 7 true (.one 8 true (.one 9 true (.one 10 true (.one 11 false .nil)))))))))))) (by kernel_rfl) (by kernel_rfl) (by kernel_rfl) (by decide) (fun _ _ _ _ _ h => h) (hSQ) (fun hS0 => ?_)
  simp only [Ord.layT, List.getElem?_cons_zero, List.getElem?_cons_succ]
  (refine Ord.takeQ (v := ?_) (Or.inl ⟨rfl, ?_⟩) ?_; rotate_left; (intro w hSw; (try dsimp only at hSw); go_simp; try (with_reducible rfl)); (try simp only [Act.put, List.setIfInBounds_toArray, List.set_cons_zero, List.set_cons_succ]))
  (refine Ord.takeQ (v := ?_) (Or.inl ⟨rfl, ?_⟩) ?_; rotate_left; (intro w hSw; (try dsimp only at hSw); go_simp; try (with_reducible rfl)); (try simp only [Act.put, List.setIfInBounds_toArray, List.set_cons_zero, List.set_cons_succ]))
  (refine Ord.takeC 15 #[.int .i64 x0] rfl (fun _ _ => by kernel_rfl) (fun w hSw => small_any _ _ i0) ?_; (try simp only [Act.put, List.setIfInBounds_toArray, List.set_cons_zero, List.set_cons_succ]))
  (refine Ord.takeQ (v := ?_) (Or.inl ⟨rfl, ?_⟩) ?_; rotate_left; (intro w hSw; (try dsimp only at hSw); go_simp; try (with_reducible rfl)); (try simp only [Act.put, List.setIfInBounds_toArray, List.set_cons_zero, List.set_cons_succ]))
  (refine Ord.takeQ (v := ?_) (Or.inl ⟨rfl, ?_⟩) ?_; rotate_left; (intro w hSw; (try dsimp only at hSw); go_simp; try (with_reducible rfl)); (try simp only [Act.put, List.setIfInBounds_toArray, List.set_cons_zero, List.set_cons_succ]))
  (refine Ord.takeC 15 #[.int .i64 x1] rfl (fun _ _ => by kernel_rfl) (fun w hSw => small_any _ _ i1) ?_; (try simp only [Act.put, List.setIfInBounds_toArray, List.set_cons_zero, List.set_cons_succ]))
  (refine Ord.takeQ (v := ?_) (Or.inl ⟨rfl, ?_⟩) ?_; rotate_left; (intro w hSw; (try dsimp only at hSw); go_simp; try (with_reducible rfl)); (try simp only [Act.put, List.setIfInBounds_toArray, List.set_cons_zero, List.set_cons_succ]))
  (refine Ord.takeQ (v := ?_) (Or.inl ⟨rfl, ?_⟩) ?_; rotate_left; (intro w hSw; (try dsimp only at hSw); go_simp; try (with_reducible rfl)); (try simp only [Act.put, List.setIfInBounds_toArray, List.set_cons_zero, List.set_cons_succ]))
  (refine Ord.takeQ (v := ?_) (Or.inl ⟨rfl, ?_⟩) ?_; rotate_left; (intro w hSw; (try dsimp only at hSw); go_simp; try (with_reducible rfl)); (try simp only [Act.put, List.setIfInBounds_toArray, List.set_cons_zero, List.set_cons_succ]))
  (refine Ord.takeQ (v := ?_) (Or.inl ⟨rfl, ?_⟩) ?_; rotate_left; (intro w hSw; (try dsimp only at hSw); go_simp; try (with_reducible rfl)); (try simp only [Act.put, List.setIfInBounds_toArray, List.set_cons_zero, List.set_cons_succ]))
  (refine Ord.takeQ (v := ?_) (Or.inl ⟨rfl, ?_⟩) ?_; rotate_left; (intro w hSw; (try dsimp only at hSw); go_simp; try (with_reducible rfl)); (try simp only [Act.put, List.setIfInBounds_toArray, List.set_cons_zero, List.set_cons_succ]))
  refine Ord.lastQ rfl rfl (fun K hK => ?_)
  refine wp_store_row 30 _ _ rfl g (it4 (few x0) (few x1) x2 x3) rfl rfl 30 (it4 x0 x1 x2 x3) hX.drew rfl (info_it4 _ _ _ _) (it_one _ _ _ _) ?_
  intro w9 hX9 hC9
  (try simp only [Act.put, List.setIfInBounds_toArray, List.set_cons_zero, List.set_cons_succ])
  refine hK.out _ _ ?_
  clear hK K
  refine Ord.doneQ (NoPanic.normal ?_)
  clear hSQ
  have hX2 := hX9
  have hB2 : Below g w w9 := hB.drew.trans (hC9.below (Nat.le_refl _))
  clear hX hB hX9 hC9
  have hb0 := few_lo x0
  have hb1' := few_hi x0
  have hb2 := few_lo x1
  have hb3 := few_hi x1
  generalize few x0 = y0 at *
  generalize few x1 = y1 at *
  have hgs : g < w9.heap.size := hX2.lt
  obtain ⟨Y, hY⟩ : ∃ Y : It, Y = ⟨y0, y1, x2, x3⟩ := ⟨_, rfl⟩
  have HYC : Hid (Y.cells = [.int .i64 y0, .int .i64 y1, .int .i64 x2, .int .i64 x3]) := hid (by rw [hY]; rfl)
  have HYS : Hid (Y.base = y0 ∧ Y.outer = y1) := hid (by rw [hY]; exact ⟨rfl, rfl⟩)
  clear hY
  go_wp2_with fail
  go_loopw [7, 8] (fun s7 s8 wr => ∃ k : Nat, k ≤ N ∧ s8 = .int .i64 k ∧ wr.ownsRow w9.heap.size 30 4 s7 (List.replicate k Y).length ((List.replicate k Y).flatMap It.cells) ∧ Below w9.heap.size w9 wr) (fun _ i _ => N - (intOf i).toNat)
  case atStart => exact ⟨0, Nat.zero_le _, rfl, own_nil _ _ _ _, Below.refl _ _⟩
  case round =>
    obtain ⟨k, hk, rfl, ho, hb⟩ := hrel
    have hz := hb.size
    by_cases hlt : k < N
    · obtain ⟨A, c, rfl, hc⟩ := own_some ho
      have hX3 := hX2.below hb hgs
      have e0 : wr.cell? ⟨g, 0, none⟩ = some (.int .i64 y0) := hX3.cell 0
      have e1 : wr.cell? ⟨g, 1, none⟩ = some (.int .i64 y1) := hX3.cell 1
      have e2 : wr.cell? ⟨g, 2, none⟩ = some (.int .i64 x2) := hX3.cell 2
      have e3 : wr.cell? ⟨g, 3, none⟩ = some (.int .i64 x3) := hX3.cell 3
      have hown := ho.alloc (.cells #[.int .i64 y0, .int .i64 y1, .int .i64 x2, .int .i64 x3] 30)
      have hba : Below w9.heap.size w9 (wr.alloc (.cells #[.int .i64 y0, .int .i64 y1, .int .i64 x2, .int .i64 x3] 30)) := hb.alloc hz _
      have hlen : (List.replicate k Y).length = k := by simp
      rw [hlen] at hown ⊢
      go_wp2_with (refine stop_append _ _ _ _ rfl ?_)
      refine ⟨?_⟩
      refine wpList_append_own _ rfl _ _ 22 rfl w9.heap.size 30 ii (.agg #[.int .i64 0, .int .i64 0, .int .i64 0, .int .i64 0]) 4 32 Try.underlying22 hi1 hz1 hs1 hb1 rfl (by decide) (.slice A k c) _ _ rfl hown ⟨wr.heap.size, 0, none⟩ 1 1 [.int .i64 y0, .int .i64 y1, .int .i64 x2, .int .i64 x3] rfl rfl (news_at (Blk.new wr 30 #[.int .i64 y0, .int .i64 y1, .int .i64 x2, .int .i64 x3]) rfl) (by simp [Value.oneCell']) (by unfold maxLen; omega) (by omega) (by simp; omega) ?_
      intro v4 w4 ho4 hg4 _
      (try simp only [Act.put, List.setIfInBounds_toArray, List.set_cons_zero, List.set_cons_succ])
      have hB4 := hba.trans (own_belowB hown hg4 (by simp; omega))
      obtain ⟨A6, c6, rfl, -⟩ := own_some ho4
      have HF : Hid ((List.replicate (k + 1) Y).flatMap It.cells = (List.replicate k Y).flatMap It.cells ++ [.int .i64 y0, .int .i64 y1, .int .i64 x2, .int .i64 x3]) := hid (by rw [← rep_snoc, List.flatMap_append]; simp [HYC.out])
      have HL : Hid ((List.replicate (k + 1) Y).length = k + 1) := hid (by simp)
      clear e0 e1 e2 e3 hown hba hX3 hg4 ho hb hlen
      go_wp2_with fail
      go_roundw
      case rel => exact ⟨k + 1, by omega, by go_num, by rw [HF.out, HL.out]; exact ho4, hB4⟩
      case measure => simp [intOf]; omega
    · obtain rfl : k = N := by omega
      obtain ⟨A, c, rfl, hc⟩ := own_some ho
      have hA : Recs wr wr.heap.size A 4 It.cells (List.replicate k Y) := Recs.of_own it_length (by decide) ho
      have hBw := hB2.trans (hb.mono (by omega))
      have hlen : (List.replicate k Y).length = k := by simp
      have hr1 := few_lo room
      have hr2 := few_hi room
      have HAL : Hid (∀ i j, i < k → j < k → (sizes (few room) (List.replicate k Y)).getD i 0 ≤ (sizes (few room) (List.replicate k Y)).getD j 0 + 1) := hid (fun i j hi hj =>
        sizes_alike Y hN2 (by rw [HYS.out.1]; exact hb0) (by rw [HYS.out.1]; exact hb1') (by rw [HYS.out.2]; exact hb2) (by rw [HYS.out.2]; exact hb3) hr1 hr2 hi hj)
      have HFU : Hid (Full (few room) (List.replicate k Y) (sizes (few room) (List.replicate k Y))) := hid (sizes_full (by
        intro i
        rcases Nat.lt_or_ge i k with h | h
        · rw [alike_get Y h, HYS.out.1, HYS.out.2]; exact ⟨hb0, hb1', hb2, hb3⟩
        · rw [List.getD_eq_getElem?_getD, List.getElem?_eq_none (by simpa using h)]; simp [it0]) hr1 hr2 (by simp; omega))
      go_wp2_with fail
      refine (small_any _ _ ir).mono ?_
      rintro e w' ⟨rfl, rfl⟩
      generalize few room = R at *
      have hsz := flex_Sizes R (List.replicate k Y) A c wr (by simp; omega) ⟨by omega, by omega⟩ hA
      rw [hlen] at hsz
      rw [hlen]
      clear hlen hA
      go_wp2_with fail
      refine hsz.mono ?_
      clear hsz
      rintro e w3 ⟨rfl, hb3, hS⟩
      replace hBw := hBw.trans (hb3.mono (by omega))
      have HSL : Hid ((sizes R (List.replicate k Y)).length = k) := hid (by rw [HFU.out.len]; simp)
      have HLO := hid HFU.out.lo
      clear HFU ho hb hb3
      generalize sizes R (List.replicate k Y) = s at *
      generalize wr.heap.size = gs at *
      go_wp2_with fail
      go_loopw [10] (fun s10 wr => ∃ i : Nat, i ≤ k ∧ s10 = .int .i64 i ∧ Drawn w3 wr) (fun i _ => k - (intOf i).toNat)
      case atStart => exact ⟨0, Nat.zero_le _, rfl, .refl _⟩
      case round =>
        obtain ⟨i, hik, rfl, hd⟩ := hrel
        have hS2 := hS.drawn hd
        by_cases hlt2 : i < k
        · obtain ⟨yi, hyi, HYI⟩ := hS2.intAt (i := i) (by rw [HSL.out]; exact hlt2)
          obtain ⟨z, hz0, HZ0⟩ := hS2.intAt (i := 0) (by rw [HSL.out]; omega)
          have b1 := HLO.out i
          have b2 := HLO.out 0
          have b3 := HAL.out i 0 hlt2 (by omega)
          have b4 := HAL.out 0 i (by omega) hlt2
          rw [HYI.out] at b1 b3 b4
          rw [HZ0.out] at b2 b3 b4
          have d1 : decide (z + 1 < yi) = false := decide_eq_false (by omega)
          have d2 : decide (yi < z - 1) = false := decide_eq_false (by omega)
          have d3 : IntKind.i64.wrap (z + 1) = z + 1 := IntWalk.i64_in _ (by omega)
          have d4 : IntKind.i64.wrap (z - 1) = z - 1 := IntWalk.i64_in _ (by omega)
          have hk0 : 0 < k := by omega
          have hSR : (fun Z : World => Z.cell? ⟨gs, i, none⟩ = some (.int .i64 yi) ∧ Z.cell? ⟨gs, 0, none⟩ = some (.int .i64 z)) wr.drew := ⟨hyi, hz0⟩
          go_upto_region 14 with fail
          refine wp_region_noPanic ?_
          refine Ord.region_Q (S := fun Z : World => Z.cell? ⟨gs, i, none⟩ = some (.int .i64 yi) ∧ Z.cell? ⟨gs, 0, none⟩ = some (.int .i64 z)) 999 (.one 0 true (.one 1 true (.one 2 true (.one 3 true (.one 4 true (.one 5 true (.one 6 true (.one 7 true (.one 8 true (.one 9 true (.one 10 true (.one 11 true (.one 12 true (.one 13 true (.one 14 true (.one 15 true (.one 16 true (.one 17 true (.one 18 true (.one 19 true .nil)))))))))))))))))))) (by kernel_rfl) (by kernel_rfl) (by kernel_rfl) (by decide) (fun _ _ _ _ _ h => h) (hSR) (fun hS0 => ?_)
          simp only [Ord.layT, List.getElem?_cons_zero, List.getElem?_cons_succ]
          (refine Ord.takeQ (v := ?_) (Or.inl ⟨rfl, ?_⟩) ?_; rotate_left; (intro w hSw; (try dsimp only at hSw); go_simp; try (with_reducible rfl)); (try simp only [Act.put, List.setIfInBounds_toArray, List.set_cons_zero, List.set_cons_succ]))
          (refine Ord.takeQ (v := ?_) (Or.inl ⟨rfl, ?_⟩) ?_; rotate_left; (intro w hSw; (try dsimp only at hSw); go_simp; try (with_reducible rfl)); (try simp only [Act.put, List.setIfInBounds_toArray, List.set_cons_zero, List.set_cons_succ]))
          (refine Ord.takeQ (v := ?_) (Or.inl ⟨rfl, ?_⟩) ?_; rotate_left; (intro w hSw; (try dsimp only at hSw); go_simp; try (with_reducible rfl)); (try simp only [Act.put, List.setIfInBounds_toArray, List.set_cons_zero, List.set_cons_succ]))
          (refine Ord.takeQ (v := ?_) (Or.inl ⟨rfl, ?_⟩) ?_; rotate_left; (intro w hSw; (try dsimp only at hSw); go_simp; try (with_reducible rfl)); (try simp only [Act.put, List.setIfInBounds_toArray, List.set_cons_zero, List.set_cons_succ]))
          (refine Ord.takeQ (v := ?_) (Or.inl ⟨rfl, ?_⟩) ?_; rotate_left; (intro w hSw; (try dsimp only at hSw); go_simp; try (with_reducible rfl)); (try simp only [Act.put, List.setIfInBounds_toArray, List.set_cons_zero, List.set_cons_succ]))
          (refine Ord.takeQ (v := ?_) (Or.inl ⟨rfl, ?_⟩) ?_; rotate_left; (intro w hSw; (try dsimp only at hSw); go_simp; try (with_reducible rfl)); (try simp only [Act.put, List.setIfInBounds_toArray, List.set_cons_zero, List.set_cons_succ]))
          (refine Ord.takeQ (v := ?_) (Or.inl ⟨rfl, ?_⟩) ?_; rotate_left; (intro w hSw; (try dsimp only at hSw); go_simp; try (with_reducible rfl)); (try simp only [Act.put, List.setIfInBounds_toArray, List.set_cons_zero, List.set_cons_succ]))
          (refine Ord.takeQ (v := ?_) (Or.inl ⟨rfl, ?_⟩) ?_; rotate_left; (intro w hSw; (try dsimp only at hSw); go_simp; try (with_reducible rfl)); (try simp only [Act.put, List.setIfInBounds_toArray, List.set_cons_zero, List.set_cons_succ]))
          (refine Ord.takeQ (v := ?_) (Or.inl ⟨rfl, ?_⟩) ?_; rotate_left; (intro w hSw; (try dsimp only at hSw); go_simp; try (with_reducible rfl)); (try simp only [Act.put, List.setIfInBounds_toArray, List.set_cons_zero, List.set_cons_succ]))
          (refine Ord.takeQ (v := ?_) (Or.inl ⟨rfl, ?_⟩) ?_; rotate_left; (intro w hSw; (try dsimp only at hSw); go_simp; try (with_reducible rfl)); (try simp only [Act.put, List.setIfInBounds_toArray, List.set_cons_zero, List.set_cons_succ]))
          (refine Ord.takeQ (v := ?_) (Or.inl ⟨rfl, ?_⟩) ?_; rotate_left; (intro w hSw; (try dsimp only at hSw); go_simp; try (with_reducible rfl)); (try simp only [Act.put, List.setIfInBounds_toArray, List.set_cons_zero, List.set_cons_succ]))
          (refine Ord.takeQ (v := ?_) (Or.inl ⟨rfl, ?_⟩) ?_; rotate_left; (intro w hSw; (try dsimp only at hSw); go_simp; try (with_reducible rfl)); (try simp only [Act.put, List.setIfInBounds_toArray, List.set_cons_zero, List.set_cons_succ]))
          (refine Ord.takeQ (v := ?_) (Or.inl ⟨rfl, ?_⟩) ?_; rotate_left; (intro w hSw; (try dsimp only at hSw); go_simp; try (with_reducible rfl)); (try simp only [Act.put, List.setIfInBounds_toArray, List.set_cons_zero, List.set_cons_succ]))
          (refine Ord.takeQ (v := ?_) (Or.inl ⟨rfl, ?_⟩) ?_; rotate_left; (intro w hSw; (try dsimp only at hSw); go_simp; try (with_reducible rfl)); (try simp only [Act.put, List.setIfInBounds_toArray, List.set_cons_zero, List.set_cons_succ]))
          (refine Ord.takeQ (v := ?_) (Or.inl ⟨rfl, ?_⟩) ?_; rotate_left; (intro w hSw; (try dsimp only at hSw); go_simp; try (with_reducible rfl)); (try simp only [Act.put, List.setIfInBounds_toArray, List.set_cons_zero, List.set_cons_succ]))
          (refine Ord.takeQ (v := ?_) (Or.inl ⟨rfl, ?_⟩) ?_; rotate_left; (intro w hSw; (try dsimp only at hSw); go_simp; try (with_reducible rfl)); (try simp only [Act.put, List.setIfInBounds_toArray, List.set_cons_zero, List.set_cons_succ]))
          (refine Ord.takeQ (v := ?_) (Or.inl ⟨rfl, ?_⟩) ?_; rotate_left; (intro w hSw; (try dsimp only at hSw); go_simp; try (with_reducible rfl)); (try simp only [Act.put, List.setIfInBounds_toArray, List.set_cons_zero, List.set_cons_succ]))
          (refine Ord.takeQ (v := ?_) (Or.inl ⟨rfl, ?_⟩) ?_; rotate_left; (intro w hSw; (try dsimp only at hSw); go_simp; try (with_reducible rfl)); (try simp only [Act.put, List.setIfInBounds_toArray, List.set_cons_zero, List.set_cons_succ]))
          (refine Ord.takeQ (v := ?_) (Or.inl ⟨rfl, ?_⟩) ?_; rotate_left; (intro w hSw; (try dsimp only at hSw); go_simp; try (with_reducible rfl)); (try simp only [Act.put, List.setIfInBounds_toArray, List.set_cons_zero, List.set_cons_succ]))
          (refine Ord.takeQ (v := ?_) (Or.inl ⟨rfl, ?_⟩) ?_; rotate_left; (intro w hSw; (try dsimp only at hSw); go_simp; try (with_reducible rfl)); (try simp only [Act.put, List.setIfInBounds_toArray, List.set_cons_zero, List.set_cons_succ]))
          refine Ord.doneQ (NoPanic.normal ?_)
          clear hSR
          go_wp2_with fail
          go_roundw
          case rel => exact ⟨i + 1, by omega, by go_num, hd.drew⟩
          case measure => simp [intOf]; omega
        · obtain rfl : i = k := by omega
          go_wp2_with fail
          refine (known18 _).mono ?_
          rintro e w8 ⟨rfl, hb8⟩
          go_wp2_with fail
          go_ret
          obtain rfl := hg.out
          have hB5 := hBw.trans (hd.below _)
          exact ⟨rfl, hB5.trans (hb8.mono hB5.size)⟩
end Go.Proofs.Yteghacdpfhohoaa
