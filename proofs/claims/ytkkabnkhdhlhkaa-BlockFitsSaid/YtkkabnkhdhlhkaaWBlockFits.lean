/-
  The walk of BlockFits, and its plain law.
-/
import Derived.Test.YtkkabnkhdhlhkaaPlainC
import Derived.Test.YtkkabnkhdhlhkaaOpenStyle
namespace Go.Proofs.Ytkkabnkhdhlhkaa
open Go.RowKit Num Mem Opn
set_option linter.unusedVariables false
set_option linter.unusedSimpArgs false
namespace Num
theorem fits_law (s : Sty) (room least most : Int) (h1 : 0 ≤ least) (h2 : least ≤ most) :
    (given s.wk = true → (s.fit room least most).w = (s.solve room).w) ∧
    (given s.wk = false → least ≤ (s.fit room least most).w ∧ (s.fit room least most).w ≤ most ∧ ((s.fit room least most).w ≤ (s.solve room).w ∨ (s.fit room least most).w = least)) := by
  unfold Sty.fit Sty.solve Sty.wide
  constructor
  · intro h
    rw [if_pos h]
    dsimp only
    rw [if_pos h]
    split <;> split <;> rfl
  · intro h
    have h' : ¬ given s.wk = true := by rw [h]; decide
    rw [if_neg h']
    dsimp only
    rw [if_neg h']
    dsimp only
    generalize (s.framed room).left room = d
    omega
end Num
theorem small_three (s : Sty) (a b c : Int) (w : World) : Calls Try.prog 12 #[.agg s.arr, .slice (some ⟨w.heap.size, 0, none⟩) 3 3] (w.alloc (.cells #[.int .i64 a, .int .i64 b, .int .i64 c] 2)) fun e w' => e = .returned (.bool (small30 ([a, b, c] ++ s.nums))) ∧ Below w.heap.size w w' := by
  have ho := own_new (B := w.heap.size) w 2 #[.int .i64 a, .int .i64 b, .int .i64 c] (Nat.le_refl _) (by simp [maxLen])
  refine (law16_small s _ 3 [a, b, c] w.heap.size _ (by simp) (by omega) rfl ho).mono ?_
  rintro e w' ⟨rfl, hb⟩
  exact ⟨rfl, ((Below.refl _ w).alloc (Nat.le_refl _) _).trans hb⟩
set_option maxRecDepth 100000 in
set_option maxHeartbeats 2000000 in
theorem walk_BlockFits (s : Sty) (room least most : Int) (w : World) (_ : s.Ok) (_ : I64 room) (_ : I64 least) (_ : I64 most) : Calls Try.prog 5 #[.agg s.arr, .int .i64 room, .int .i64 least, .int .i64 most] w fun e w' => e = .returned (.bool true) ∧ Below w.heap.size w w' := by
  have hB := Blk.new w 28 s.arr
  have hg : Below w.heap.size w (w.alloc (.cells s.arr 28)) := by go_grown
  go_enter Try.func5, Try.ntmps5
  go_wp2_with (first | (first | refine stop_load 28 _ rfl rfl ?_ | refine stop_store 28 _ _ rfl rfl ?_) | (first | refine stop_load 35 _ rfl rfl ?_ | refine stop_store 35 _ _ rfl rfl ?_))
  refine ⟨?_⟩
  refine wl_forget (fun W => Below w.heap.size w W ∧ Blk W w.heap.size 28 s.arr) ⟨hg, hB⟩ ?_
  clear hg hB
  rintro w0 ⟨hg, hB⟩
  refine wl_load rfl 28 _ rfl _ rfl _ _ _ hB rfl rfl (info_style' s) ?_
  (try simp only [Act.put, List.setIfInBounds_toArray, List.set_cons_zero, List.set_cons_succ])
  go_wp2_with (first | (first | refine stop_load 28 _ rfl rfl ?_ | refine stop_store 28 _ _ rfl rfl ?_) | (first | refine stop_load 35 _ rfl rfl ?_ | refine stop_store 35 _ _ rfl rfl ?_))
  refine (small_three s room least most _).mono ?_
  rintro e w1 ⟨rfl, hb⟩
  replace hg := hg.trans (hb.mono hg.size)
  replace hB := hB.below hb hB.lt
  clear hb
  cases hs : small30 ([room, least, most] ++ s.nums) with
  | false =>
    go_wp2_with (first | (first | refine stop_load 28 _ rfl rfl ?_ | refine stop_store 28 _ _ rfl rfl ?_) | (first | refine stop_load 35 _ rfl rfl ?_ | refine stop_store 35 _ _ rfl rfl ?_))
    refine (law16_known _).mono ?_
    rintro e w9 ⟨rfl, hb⟩
    replace hg := hg.trans (hb.mono hg.size)
    clear hb
    go_wp2_with fail
    go_returns
    exact ⟨rfl, hg⟩
  | true =>
  clear hs
  go_wp2_with (first | (first | refine stop_load 28 _ rfl rfl ?_ | refine stop_store 28 _ _ rfl rfl ?_) | (first | refine stop_load 35 _ rfl rfl ?_ | refine stop_store 35 _ _ rfl rfl ?_))
  refine ⟨?_⟩
  refine wl_load rfl 28 _ rfl _ rfl _ _ _ hB rfl rfl (info_style' s) ?_
  (try simp only [Act.put, List.setIfInBounds_toArray, List.set_cons_zero, List.set_cons_succ])
  go_wp2_with (first | (first | refine stop_load 28 _ rfl rfl ?_ | refine stop_store 28 _ _ rfl rfl ?_) | (first | refine stop_load 35 _ rfl rfl ?_ | refine stop_store 35 _ _ rfl rfl ?_))
  refine (law16_named s _).mono ?_
  rintro e w2 ⟨rfl, hb⟩
  replace hg := hg.trans (hb.mono hg.size)
  replace hB := hB.below hb hB.lt
  clear hb
  cases hk : kinds s.lens with
  | false =>
    go_wp2_with (first | (first | refine stop_load 28 _ rfl rfl ?_ | refine stop_store 28 _ _ rfl rfl ?_) | (first | refine stop_load 35 _ rfl rfl ?_ | refine stop_store 35 _ _ rfl rfl ?_))
    refine (law16_known _).mono ?_
    rintro e w9 ⟨rfl, hb⟩
    replace hg := hg.trans (hb.mono hg.size)
    clear hb
    go_wp2_with fail
    go_returns
    exact ⟨rfl, hg⟩
  | true =>
  cases hl : decide (least < 0) with
  | true =>
    have hl' : least < 0 := by simpa using hl
    go_wp2_with (first | (first | refine stop_load 28 _ rfl rfl ?_ | refine stop_store 28 _ _ rfl rfl ?_) | (first | refine stop_load 35 _ rfl rfl ?_ | refine stop_store 35 _ _ rfl rfl ?_))
    refine (law16_known _).mono ?_
    rintro e w9 ⟨rfl, hb⟩
    replace hg := hg.trans (hb.mono hg.size)
    clear hb
    go_wp2_with fail
    go_returns
    exact ⟨rfl, hg⟩
  | false =>
  have hl' : 0 ≤ least := by simpa using hl
  cases hm : decide (most < least) with
  | true =>
    have hm' : most < least := by simpa using hm
    go_wp2_with (first | (first | refine stop_load 28 _ rfl rfl ?_ | refine stop_store 28 _ _ rfl rfl ?_) | (first | refine stop_load 35 _ rfl rfl ?_ | refine stop_store 35 _ _ rfl rfl ?_))
    refine (law16_known _).mono ?_
    rintro e w9 ⟨rfl, hb⟩
    replace hg := hg.trans (hb.mono hg.size)
    clear hb
    go_wp2_with fail
    go_returns
    exact ⟨rfl, hg⟩
  | false =>
  have hm' : least ≤ most := by simpa using hm
  obtain ⟨la, lb⟩ := fits_law s room least most hl' hm'
  go_wp2_with (first | (first | refine stop_load 28 _ rfl rfl ?_ | refine stop_store 28 _ _ rfl rfl ?_) | (first | refine stop_load 35 _ rfl rfl ?_ | refine stop_store 35 _ _ rfl rfl ?_))
  refine ⟨?_⟩
  refine wl_load rfl 28 _ rfl _ rfl _ _ _ hB rfl rfl (info_style' s) ?_
  (try simp only [Act.put, List.setIfInBounds_toArray, List.set_cons_zero, List.set_cons_succ])
  go_wp2_with (first | (first | refine stop_load 28 _ rfl rfl ?_ | refine stop_store 28 _ _ rfl rfl ?_) | (first | refine stop_load 35 _ rfl rfl ?_ | refine stop_store 35 _ _ rfl rfl ?_))
  obtain ⟨F, hF⟩ : ∃ F, s.fit room least most = F := ⟨_, rfl⟩
  obtain ⟨G, hG⟩ : ∃ G, s.solve room = G := ⟨_, rfl⟩
  rw [hF, hG] at la lb
  refine (block_Fit s room least most _).mono ?_
  rw [hF]
  clear hF
  obtain ⟨la⟩ : Nonempty (Hid (given s.wk = true → F.w = G.w)) := ⟨la⟩
  obtain ⟨lb⟩ : Nonempty (Hid (given s.wk = false → least ≤ F.w ∧ F.w ≤ most ∧ (F.w ≤ G.w ∨ F.w = least))) := ⟨lb⟩
  replace hG : Hid (s.solve room = G) := hG
  rintro e w3 ⟨rfl, hb⟩
  replace hg := hg.trans (hb.mono hg.size)
  replace hB := hB.below hb hB.lt
  clear hb
  go_wp2_with (first | (first | refine stop_load 28 _ rfl rfl ?_ | refine stop_store 28 _ _ rfl rfl ?_) | (first | refine stop_load 35 _ rfl rfl ?_ | refine stop_store 35 _ _ rfl rfl ?_))
  refine ⟨?_⟩
  refine wl_store rfl 35 _ _ rfl w3.heap.size F.arr rfl rfl 35 Fr.zero.arr (Blk.new _ _ _) rfl (info_frame _) (frame_one _) ?_
  intro w4 hF hc
  have hlt := hB.lt
  replace hg : Below w.heap.size w w4 := (hg.alloc hg.size _).trans (hc.below hg.size)
  replace hB := (hB.alloc _).chg hc (by omega)
  clear hc hlt
  generalize w3.heap.size = g at *
  (try simp only [Act.put, List.setIfInBounds_toArray, List.set_cons_zero, List.set_cons_succ])
  go_wp2_with (first | (first | refine stop_load 28 _ rfl rfl ?_ | refine stop_store 28 _ _ rfl rfl ?_) | (first | refine stop_load 35 _ rfl rfl ?_ | refine stop_store 35 _ _ rfl rfl ?_))
  refine ⟨?_⟩
  refine wl_load rfl 28 _ rfl _ rfl _ _ _ hB rfl rfl (info_style' s) ?_
  (try simp only [Act.put, List.setIfInBounds_toArray, List.set_cons_zero, List.set_cons_succ])
  go_wp2_with (first | (first | refine stop_load 28 _ rfl rfl ?_ | refine stop_store 28 _ _ rfl rfl ?_) | (first | refine stop_load 35 _ rfl rfl ?_ | refine stop_store 35 _ _ rfl rfl ?_))
  refine (block_Solve s room _).mono ?_
  rw [hG.out]
  clear hG
  rintro e w5 ⟨rfl, hb⟩
  replace hg := hg.trans (hb.mono hg.size)
  replace hB := hB.below hb hB.lt
  replace hF := hF.below hb hF.lt
  clear hb
  go_wp2_with (first | (first | refine stop_load 28 _ rfl rfl ?_ | refine stop_store 28 _ _ rfl rfl ?_) | (first | refine stop_load 35 _ rfl rfl ?_ | refine stop_store 35 _ _ rfl rfl ?_))
  refine ⟨?_⟩
  refine wl_store rfl 35 _ _ rfl w5.heap.size G.arr rfl rfl 35 Fr.zero.arr (Blk.new _ _ _) rfl (info_frame _) (frame_one _) ?_
  intro w6 hG hc
  have hlt := hB.lt
  have hlt2 := hF.lt
  replace hg : Below w.heap.size w w6 := (hg.alloc hg.size _).trans (hc.below hg.size)
  replace hB := (hB.alloc _).chg hc (by omega)
  replace hF := (hF.alloc _).chg hc (by omega)
  clear hc hlt hlt2
  generalize w5.heap.size = q at *
  (try simp only [Act.put, List.setIfInBounds_toArray, List.set_cons_zero, List.set_cons_succ])
  have c12 : w6.cell? ⟨g, 12, none⟩ = some (.int .i64 F.w) := hF.cell 12
  have e12 : w6.cell? ⟨q, 12, none⟩ = some (.int .i64 G.w) := hG.cell 12
  have d4 : w6.cell? ⟨w.heap.size, 4, none⟩ = some (.int .i64 s.wk) := hB.cell 4
  clear hF hB hG
  have ways : ((s.wk == 1) = true ∧ (F.w == G.w) = true) ∨ ((s.wk == 1) = false ∧ (s.wk == 2) = true ∧ (F.w == G.w) = true) ∨ ((s.wk == 1) = false ∧ (s.wk == 2) = false ∧ decide (least ≤ F.w) = true ∧ decide (F.w ≤ most) = true ∧ decide (F.w ≤ G.w) = true) ∨
      ((s.wk == 1) = false ∧ (s.wk == 2) = false ∧ decide (least ≤ F.w) = true ∧ decide (F.w ≤ most) = true ∧ decide (F.w ≤ G.w) = false ∧ (F.w == least) = true) := by
    have la := la.out
    have lb := lb.out
    simp only [given, Bool.or_eq_true, Bool.or_eq_false_iff, decide_eq_true_eq, decide_eq_false_iff_not] at la lb
    simp only [beq_iff_eq, beq_eq_false_iff_ne, decide_eq_true_eq, decide_eq_false_iff_not]
    omega
  clear la lb hl hl' hm hm'
  rcases ways with ⟨k1, z0⟩ | ⟨k1, k2, z0⟩ | ⟨k1, k2, a1, a2, a3⟩ | ⟨k1, k2, a1, a2, a3, a4⟩ <;> (
  go_wp2_with fail
  refine (law16_known _).mono ?_
  rintro e w9 ⟨rfl, hb⟩
  replace hg := hg.trans (hb.mono hg.size)
  clear hb
  go_wp2_with fail
  go_returns
  exact ⟨rfl, hg⟩)
end Go.Proofs.Ytkkabnkhdhlhkaa
