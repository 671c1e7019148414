/-
  The walk of BlockFills.
-/
import Derived.Test.YtkkabnkhdhlhkaaPlainC
import Derived.Test.YtkkabnkhdhlhkaaOpenStyle
namespace Go.Proofs.Ytkkabnkhdhlhkaa
open Go.RowKit Num Mem Opn
set_option linter.unusedVariables false
set_option linter.unusedSimpArgs false
theorem small_one (s : Sty) (room : Int) (w : World) : Calls Try.prog 12 #[.agg s.arr, .slice (some ⟨w.heap.size, 0, none⟩) 1 1] (w.alloc (.cells #[.int .i64 room] 2)) fun e w' => e = .returned (.bool (small30 ([room] ++ s.nums))) ∧ Below w.heap.size w w' := by
  have ho := own_new (B := w.heap.size) w 2 #[.int .i64 room] (Nat.le_refl _) (by simp [maxLen])
  refine (law16_small s _ 1 [room] w.heap.size _ (by simp) (by omega) rfl ho).mono ?_
  rintro e w' ⟨rfl, hb⟩
  exact ⟨rfl, ((Below.refl _ w).alloc (Nat.le_refl _) _).trans hb⟩
set_option maxRecDepth 100000 in
set_option maxHeartbeats 2000000 in
theorem walk_BlockFills (s : Sty) (room : Int) (w : World) (_ : s.Ok) (_ : I64 room) : Calls Try.prog 3 #[.agg s.arr, .int .i64 room] w fun e w' => e = .returned (.bool true) ∧ Below w.heap.size w w' := by
  have hB := Blk.new w 28 s.arr
  have hg : Below w.heap.size w (w.alloc (.cells s.arr 28)) := by go_grown
  go_enter Try.func3, Try.ntmps3
  go_wp2_with (first | (first | refine stop_load 28 _ rfl rfl ?_ | refine stop_store 28 _ _ rfl rfl ?_) | (first | refine stop_load 35 _ rfl rfl ?_ | refine stop_store 35 _ _ rfl rfl ?_))
  refine ⟨?_⟩
  refine wl_forget (fun W => Below w.heap.size w W ∧ Blk W w.heap.size 28 s.arr) ⟨hg, hB⟩ ?_
  clear hg hB
  rintro w0 ⟨hg, hB⟩
  refine wl_load rfl 28 _ rfl _ rfl _ _ _ hB rfl rfl (info_style' s) ?_
  (try simp only [Act.put, List.setIfInBounds_toArray, List.set_cons_zero, List.set_cons_succ])
  go_wp2_with (first | (first | refine stop_load 28 _ rfl rfl ?_ | refine stop_store 28 _ _ rfl rfl ?_) | (first | refine stop_load 35 _ rfl rfl ?_ | refine stop_store 35 _ _ rfl rfl ?_))
  refine (small_one s room _).mono ?_
  rintro e w1 ⟨rfl, hb⟩
  replace hg := hg.trans (hb.mono hg.size)
  replace hB := hB.below hb hB.lt
  clear hb
  cases hs : small30 ([room] ++ s.nums) with
  | false =>
    go_wp2_with (first | (first | refine stop_load 28 _ rfl rfl ?_ | refine stop_store 28 _ _ rfl rfl ?_) | (first | refine stop_load 35 _ rfl rfl ?_ | refine stop_store 35 _ _ rfl rfl ?_))
    refine (law16_known _).mono ?_
    rintro e w2 ⟨rfl, hb⟩
    replace hg := hg.trans (hb.mono hg.size)
    clear hb
    go_wp2_with fail
    go_returns
    exact ⟨rfl, hg⟩
  | true =>
    go_wp2_with (first | (first | refine stop_load 28 _ rfl rfl ?_ | refine stop_store 28 _ _ rfl rfl ?_) | (first | refine stop_load 35 _ rfl rfl ?_ | refine stop_store 35 _ _ rfl rfl ?_))
    refine ⟨?_⟩
    refine wl_load rfl 28 _ rfl _ rfl _ _ _ hB rfl rfl (info_style' s) ?_
    (try simp only [Act.put, List.setIfInBounds_toArray, List.set_cons_zero, List.set_cons_succ])
    go_wp2_with (first | (first | refine stop_load 28 _ rfl rfl ?_ | refine stop_store 28 _ _ rfl rfl ?_) | (first | refine stop_load 35 _ rfl rfl ?_ | refine stop_store 35 _ _ rfl rfl ?_))
    refine (law16_named s _).mono ?_
    rintro e w2 ⟨rfl, hb⟩
    replace hg := hg.trans (hb.mono hg.size)
    replace hB := hB.below hb hB.lt
    clear hb
    cases hk : kinds s.lens with
    | false =>
      go_wp2_with (first | (first | refine stop_load 28 _ rfl rfl ?_ | refine stop_store 28 _ _ rfl rfl ?_) | (first | refine stop_load 35 _ rfl rfl ?_ | refine stop_store 35 _ _ rfl rfl ?_))
      refine (law16_known _).mono ?_
      rintro e w2 ⟨rfl, hb⟩
      replace hg := hg.trans (hb.mono hg.size)
      clear hb
      go_wp2_with fail
      go_returns
      exact ⟨rfl, hg⟩
    | true =>
    have law := fills_law hs hk
    have hr : Lim 1073741824 room := small30_mem hs (by simp)
    obtain ⟨r1, r2⟩ := hr
    clear hs hk
    go_wp2_with (first | (first | refine stop_load 28 _ rfl rfl ?_ | refine stop_store 28 _ _ rfl rfl ?_) | (first | refine stop_load 35 _ rfl rfl ?_ | refine stop_store 35 _ _ rfl rfl ?_))
    refine ⟨?_⟩
    refine wl_load rfl 28 _ rfl _ rfl _ _ _ hB rfl rfl (info_style' s) ?_
    (try simp only [Act.put, List.setIfInBounds_toArray, List.set_cons_zero, List.set_cons_succ])
    go_wp2_with (first | (first | refine stop_load 28 _ rfl rfl ?_ | refine stop_store 28 _ _ rfl rfl ?_) | (first | refine stop_load 35 _ rfl rfl ?_ | refine stop_store 35 _ _ rfl rfl ?_))
    refine (block_Solve s room _).mono ?_
    obtain ⟨F, hF⟩ : ∃ F, s.solve room = F := ⟨_, rfl⟩
    rw [hF] at law ⊢
    clear hF
    rintro e w3 ⟨rfl, hb⟩
    replace hg := hg.trans (hb.mono hg.size)
    replace hB := hB.below hb hB.lt
    clear hb
    go_wp2_with (first | (first | refine stop_load 28 _ rfl rfl ?_ | refine stop_store 28 _ _ rfl rfl ?_) | (first | refine stop_load 35 _ rfl rfl ?_ | refine stop_store 35 _ _ rfl rfl ?_))
    refine ⟨?_⟩
    refine wl_store rfl 35 _ _ rfl w3.heap.size F.arr rfl rfl 35 Fr.zero.arr (Blk.new _ _ _) rfl (info_frame _) (frame_one _) ?_
    intro w4 hF hc
    have hlt := hB.lt
    replace hg : Below w.heap.size w w4 := (hg.alloc hg.size _).trans (hc.below hg.size)
    replace hB := (hB.alloc _).chg hc (by omega)
    clear hc hlt
    generalize w3.heap.size = g at *
    (try simp only [Act.put, List.setIfInBounds_toArray, List.set_cons_zero, List.set_cons_succ])
    go_wp2_with (first | (first | refine stop_load 28 _ rfl rfl ?_ | refine stop_store 28 _ _ rfl rfl ?_) | (first | refine stop_load 35 _ rfl rfl ?_ | refine stop_store 35 _ _ rfl rfl ?_))
    refine ⟨?_⟩
    refine wl_load rfl 35 _ rfl _ rfl _ _ _ hF rfl rfl (info_frame _) ?_
    (try simp only [Act.put, List.setIfInBounds_toArray, List.set_cons_zero, List.set_cons_succ])
    go_wp2_with (first | (first | refine stop_load 28 _ rfl rfl ?_ | refine stop_store 28 _ _ rfl rfl ?_) | (first | refine stop_load 35 _ rfl rfl ?_ | refine stop_store 35 _ _ rfl rfl ?_))
    refine (block_Inner F _).mono ?_
    rintro e w5 ⟨rfl, hb⟩
    replace hg := hg.trans (hb.mono hg.size)
    replace hB := hB.below hb hB.lt
    replace hF := hF.below hb hF.lt
    clear hb
    have c3 : w5.cell? ⟨g, 3, none⟩ = some (.int .i64 F.m.l) := hF.cell 3
    have c1 : w5.cell? ⟨g, 1, none⟩ = some (.int .i64 F.m.r) := hF.cell 1
    have c12 : w5.cell? ⟨g, 12, none⟩ = some (.int .i64 F.w) := hF.cell 12
    have d4 : w5.cell? ⟨w.heap.size, 4, none⟩ = some (.int .i64 s.wk) := hB.cell 4
    have d14 : w5.cell? ⟨w.heap.size, 14, none⟩ = some (.int .i64 s.m3k) := hB.cell 14
    have d10 : w5.cell? ⟨w.heap.size, 10, none⟩ = some (.int .i64 s.m1k) := hB.cell 10
    clear hF hB
    obtain ⟨q0, ⟨q1, q2⟩, ⟨q3, q4⟩, ⟨q5, q6⟩, q7, qa, qb⟩ := law
    have W1 : IntKind.i64.wrap (F.m.l + F.m.r) = F.m.l + F.m.r := IntWalk.i64_in _ (by omega)
    have W2 : IntKind.i64.wrap (F.m.l + F.m.r + F.across) = F.m.l + F.m.r + F.across := IntWalk.i64_in _ (by omega)
    have W3 : IntKind.i64.wrap (F.m.l + F.m.r + F.across + F.w) = F.m.l + F.m.r + F.across + F.w := IntWalk.i64_in _ (by omega)
    have q9 : decide (F.w < 0) = false := by simpa using q0
    have ways : ((s.wk == 0) = true ∧ (F.w == 0) = true) ∨ ((s.wk == 0) = true ∧ (F.w == 0) = false ∧ (F.m.l + F.m.r + F.across + F.w == room) = true) ∨ ((s.wk == 0) = false ∧ (s.m3k == 0) = true ∧ decide (room ≤ F.m.l + F.m.r + F.across + F.w) = true) ∨
        ((s.wk == 0) = false ∧ (s.m3k == 0) = false ∧ (s.m1k == 0) = true ∧ decide (room ≤ F.m.l + F.m.r + F.across + F.w) = true) ∨ ((s.wk == 0) = false ∧ (s.m3k == 0) = false ∧ (s.m1k == 0) = false) := by
      simp only [beq_iff_eq, beq_eq_false_iff_ne, decide_eq_true_eq]
      omega
    clear q0 q1 q2 q3 q4 q5 q6 q7 r1 r2 qa qb
    rcases ways with ⟨k0, z0⟩ | ⟨k0, z0, sr⟩ | ⟨k0, a3, ge⟩ | ⟨k0, a3, a1, ge⟩ | ⟨k0, a3, a1⟩ <;> (
    go_wp2_with fail
    refine (law16_known _).mono ?_
    rintro e w9 ⟨rfl, hb⟩
    replace hg := hg.trans (hb.mono hg.size)
    clear hb
    go_wp2_with fail
    go_returns
    exact ⟨rfl, hg⟩)
end Go.Proofs.Ytkkabnkhdhlhkaa
