/-
  The walk of casementref19.Widths.
-/
import Derived.Test.YtkoanijiihnioaaTabR
import Derived.Test.YtkoanijiihnioaaBook
namespace Go.Proofs.Ytkoanijiihnioaa
open Go.RowKit Num Mem Opn
set_option linter.unusedVariables false
set_option linter.unusedSimpArgs false
namespace Mem
/-- two rows lie in two blocks. -/
def Ne2 (a b : Value) : Prop := a.ownBlock = none ∨ a.ownBlock ≠ b.ownBlock
theorem Ne2.symm {a b : Value} (h : Ne2 a b) : Ne2 b a := by
  rcases h with h | h
  · unfold Ne2
    by_cases hb : b.ownBlock = none
    · exact .inl hb
    · exact .inr (by rw [h]; exact hb)
  · exact .inr (Ne.symm h)
theorem Ne2.fresh {w : World} {base sz n : Nat} {e : TypeId} {v v' v2 : Value} {xs : List Value} (hne : Ne2 v2 v) (h : w.ownsRow base e sz v2 n xs) (hf : FreshOf w v v') : Ne2 v2 v' := fresh_ne h hf hne
theorem Ne2.keep {w w' : World} {base sz n : Nat} {e : TypeId} {v v2 : Value} {xs : List Value} (hne : Ne2 v2 v) (h : w.ownsRow base e sz v2 n xs) (hg : w.grownBy w' v.ownBlock) : w'.ownsRow base e sz v2 n xs := own_elsewhere h hg hne
theorem ne2_nil (v : Value) : Ne2 (.slice none 0 0) v := .inl rfl
end Mem
namespace Num
/-- the reference's weight: not capped. -/
def wgr (n : Nd) : Int := (n.most - n.least + 63) / 64
def wgrs (l : List Nd) : List Int := l.map wgr
theorem wt_wgr (n : Nd) : wt (wgr n) = wt (wgt n) := by unfold wt clip wgt wgr; omega
theorem wsum_congr {a b : List Int} {k : Nat} (h : ∀ i, wt (a.getD i 0) = wt (b.getD i 0)) : wsum a k = wsum b k := by
  induction k with
  | zero => rfl
  | succ k ih => simp only [wsum, ih, h k]
theorem left_congr {t : Int} {a b : List Int} (hl : a.length = b.length) (h : ∀ i, wt (a.getD i 0) = wt (b.getD i 0)) (k : Nat) : left t a k = left t b k := by
  induction k with
  | zero => rfl
  | succ k ih => simp only [left, ih, quo, h k, hl, wsum_congr h]
/-- shares go by the weights between 0 and 2^16. -/
theorem share_congr {t : Int} {a b : List Int} (hl : a.length = b.length) (h : ∀ i, wt (a.getD i 0) = wt (b.getD i 0)) : share t a = share t b := by
  have e1 : ∀ k, wsum a k = wsum b k := fun k => wsum_congr h
  have e2 : quo t a = quo t b := by funext i; unfold quo; rw [h i, hl, e1]
  have e3 : rem t a = rem t b := by funext i; unfold rem; rw [h i, hl, e1]
  unfold share
  rw [hl, e1, e2, e3, left_congr hl h]
theorem share_wgrs (t : Int) (l : List Nd) : share t (wgrs l) = share t (wgts l) := by
  refine share_congr (by simp [wgrs, wgts]) fun i => ?_
  simp only [wgrs, wgts, List.getD_eq_getElem?_getD, List.getElem?_map]
  cases l[i]? with
  | none => rfl
  | some x => exact wt_wgr x
end Num
theorem mixv_set {a b : List Int} (h : a.length = b.length) {k : Nat} (hk : k < a.length) : ((mix a b k).map (Value.int .i64)).set k (.int .i64 (b.getD k 0)) = (mix a b (k + 1)).map (Value.int .i64) := by
  rw [← mix_set h hk, List.map_set]
theorem own_int {w : World} {base g n cap : Nat} {e : TypeId} {l : List Int} (ho : w.ownsRow base e 1 (.slice (some ⟨g, 0, none⟩) n cap) n (l.map (Value.int .i64))) {k : Nat} (hk : k < n) (hl : l.length = n) : w.cell? ⟨g, k, none⟩ = some (.int .i64 (l.getD k 0)) := by
  rw [ho.cellAt k (by omega)]
  simp [List.getD_eq_getElem?_getD, show k < l.length by omega]
set_option maxRecDepth 100000 in
set_option maxHeartbeats 8000000 in
theorem ref19_Widths (room : Int) (l : List Nd) (A : Option Addr) (c : Nat) (sure : Bool) (w : World) (hl : l.length ≤ 1000) (hb : Bet 70368744177664 l) (hle : ∀ i, (l.getD i nd0).least ≤ (l.getD i nd0).most) (hr : I64 room) (hA : Recs w w.heap.size A 2 Nd.cells l) :
    Calls Try.prog 40 #[.int .i64 room, .slice A l.length c, .bool sure] w fun e w' =>
      ∃ A' c', e = .returned (.slice A' l.length c') ∧ Below w.heap.size w w' ∧ Ints w' w'.heap.size A' (widths room l sure) := by
  obtain ⟨i1, hi1, hz1, hs1, hb1⟩ := info_parts info_i64
  replace hb := hid hb
  replace hle := hid hle
  obtain ⟨T, hT⟩ : ∃ T, widths room l sure = T := ⟨_, rfl⟩
  have HT : Hid ((if room ≤ sums (leasts l) l.length then leasts l
    else if room ≤ sums (mosts l) l.length then zadd (leasts l) (share (sub room (sums (leasts l) l.length)) (wgts l))
    else if sure then zadd (mosts l) (share (sub room (sums (mosts l) l.length)) (ones l.length))
    else mosts l) = T) := hid hT
  rw [hT]
  clear hT
  go_enter Try.func40, Try.ntmps40
  go_wp2_with fail
  go_loopw [7, 8, 9, 10, 11] (fun s7 s8 s9 s10 s11 wr => ∃ k : Nat, k ≤ l.length ∧ s11 = .int .i64 k ∧ wr.ownsRow w.heap.size 2 1 s7 k ((leasts (l.take k)).map (Value.int .i64)) ∧ wr.ownsRow w.heap.size 2 1 s8 k ((mosts (l.take k)).map (Value.int .i64)) ∧ wr.ownsRow w.heap.size 2 1 s9 k ((wgrs (l.take k)).map (Value.int .i64)) ∧ wr.ownsRow w.heap.size 2 1 s10 k ((ones k).map (Value.int .i64)) ∧ Ne2 s7 s8 ∧ Ne2 s7 s9 ∧ Ne2 s7 s10 ∧ Ne2 s8 s9 ∧ Ne2 s8 s10 ∧ Ne2 s9 s10 ∧ Below w.heap.size w wr) (fun _ _ _ _ i _ => l.length - (intOf i).toNat)
  case atStart => exact ⟨0, Nat.zero_le _, rfl, own_nil _ _ _ _, own_nil _ _ _ _, own_nil _ _ _ _, own_nil _ _ _ _, ne2_nil _, ne2_nil _, ne2_nil _, ne2_nil _, ne2_nil _, ne2_nil _, Below.refl _ _⟩
  case round =>
    obtain ⟨k, hk, rfl, ho1, ho2, ho3, ho4, n12, n13, n14, n23, n24, n34, hB⟩ := hrel
    have hz := hB.size
    by_cases hlt : k < l.length
    · obtain ⟨bi, oi, x, rfl, hbi, HX, -⟩ := hA.at_ hlt
      have HG : Hid (l.getD k nd0 = x) := hid (by rw [List.getD_eq_getElem?_getD, HX.out]; rfl)
      have hxb := hb.out k
      have hxl := hle.out k
      rw [HG.out] at hxb hxl
      have hxx : ∀ Z, Below w.heap.size w Z → Z.cell? ⟨bi, oi + k * 2, none⟩ = some (.int .i64 x.least) ∧ Z.cell? ⟨bi, oi + k * 2 + 1, none⟩ = some (.int .i64 x.most) := fun Z h => need_at (hA.below h) HX.out
      have HU1 : Hid ((leasts (l.take (k + 1))).map (Value.int .i64) = (leasts (l.take k)).map (Value.int .i64) ++ [.int .i64 x.least]) := hid (by rw [take_more HX.out]; simp [leasts])
      have HU2 : Hid ((mosts (l.take (k + 1))).map (Value.int .i64) = (mosts (l.take k)).map (Value.int .i64) ++ [.int .i64 x.most]) := hid (by rw [take_more HX.out]; simp [mosts])
      have HU3 : Hid ((wgrs (l.take (k + 1))).map (Value.int .i64) = (wgrs (l.take k)).map (Value.int .i64) ++ [.int .i64 (wgr x)]) := hid (by rw [take_more HX.out]; simp [wgrs])
      have HU4 : Hid ((ones (k + 1)).map (Value.int .i64) = (ones k).map (Value.int .i64) ++ [.int .i64 1]) := hid (by simp [ones, List.replicate_succ'])
      obtain ⟨A1, c1, rfl, -⟩ := own_some ho1
      obtain ⟨A2, c2, rfl, -⟩ := own_some ho2
      obtain ⟨A3, c3, rfl, -⟩ := own_some ho3
      obtain ⟨A4, c4, rfl, -⟩ := own_some ho4
      have e0 := (hxx _ hB).1
      have hba : Below w.heap.size w (wr.alloc (.cells #[.int .i64 x.least] 2)) := hB.alloc hB.size _
      have hzq := hB.size
      have hq1 := ho1.alloc (.cells #[.int .i64 x.least] 2)
      have hq2 := ho2.alloc (.cells #[.int .i64 x.least] 2)
      have hq3 := ho3.alloc (.cells #[.int .i64 x.least] 2)
      have hq4 := ho4.alloc (.cells #[.int .i64 x.least] 2)
      go_wp2_with (refine stop_append _ _ _ _ rfl ?_)
      refine ⟨?_⟩
      refine wpList_append_fresh _ rfl _ _ 55 rfl w.heap.size 2 i1 (.int .i64 0) 1 8 Try.underlying55 hi1 hz1 hs1 hb1 rfl (by decide) (.slice A1 k c1) _ _ rfl hq1 ⟨wr.heap.size, 0, none⟩ 1 1 [.int .i64 x.least] rfl rfl (news19 (Blk.new wr 2 #[.int .i64 x.least]) rfl) (by simp [Value.oneCell']) (by unfold maxLen; omega) (by omega) (by simp; omega) ?_
      intro vq w2 hoq hgq hfq
      (try simp only [Act.put, List.setIfInBounds_toArray, List.set_cons_zero, List.set_cons_succ])
      have hB2 := hba.trans (own_belowB hq1 hgq (by simp; omega))
      have hr2 := (n12.symm).keep hq2 hgq
      have hr3 := (n13.symm).keep hq3 hgq
      have hr4 := (n14.symm).keep hq4 hgq
      have m2 := (n12.symm).fresh hq2 hfq
      have m3 := (n13.symm).fresh hq3 hfq
      have m4 := (n14.symm).fresh hq4 hfq
      clear hba hgq hfq hB ho1 ho2 ho3 ho4 n12 n13 n14
      obtain ⟨A1', c1', rfl, -⟩ := own_some hoq
      have ho2 := hr2
      have ho3 := hr3
      have ho4 := hr4
      have ho1 := hoq
      have hB := hB2
      have n12 := m2.symm
      have n13 := m3.symm
      have n14 := m4.symm
      clear hB2 hoq hzq hq1 hq2 hq3 hq4 hr2 m2 hr3 m3 hr4 m4
      have e1 := (hxx _ hB).2
      have hba : Below w.heap.size w (w2.alloc (.cells #[.int .i64 x.most] 2)) := hB.alloc hB.size _
      have hzq := hB.size
      have hq1 := ho1.alloc (.cells #[.int .i64 x.most] 2)
      have hq2 := ho2.alloc (.cells #[.int .i64 x.most] 2)
      have hq3 := ho3.alloc (.cells #[.int .i64 x.most] 2)
      have hq4 := ho4.alloc (.cells #[.int .i64 x.most] 2)
      go_wp2_with (refine stop_append _ _ _ _ rfl ?_)
      refine ⟨?_⟩
      refine wpList_append_fresh _ rfl _ _ 55 rfl w.heap.size 2 i1 (.int .i64 0) 1 8 Try.underlying55 hi1 hz1 hs1 hb1 rfl (by decide) (.slice A2 k c2) _ _ rfl hq2 ⟨w2.heap.size, 0, none⟩ 1 1 [.int .i64 x.most] rfl rfl (news19 (Blk.new w2 2 #[.int .i64 x.most]) rfl) (by simp [Value.oneCell']) (by unfold maxLen; omega) (by omega) (by simp; omega) ?_
      intro vq w2 hoq hgq hfq
      (try simp only [Act.put, List.setIfInBounds_toArray, List.set_cons_zero, List.set_cons_succ])
      have hB2 := hba.trans (own_belowB hq2 hgq (by simp; omega))
      have hr1 := (n12).keep hq1 hgq
      have hr3 := (n23.symm).keep hq3 hgq
      have hr4 := (n24.symm).keep hq4 hgq
      have m1 := (n12).fresh hq1 hfq
      have m3 := (n23.symm).fresh hq3 hfq
      have m4 := (n24.symm).fresh hq4 hfq
      clear hba hgq hfq hB ho1 ho2 ho3 ho4 n12 n23 n24
      obtain ⟨A2', c2', rfl, -⟩ := own_some hoq
      have ho1 := hr1
      have ho3 := hr3
      have ho4 := hr4
      have ho2 := hoq
      have hB := hB2
      have n12 := m1
      have n23 := m3.symm
      have n24 := m4.symm
      clear hB2 hoq hzq hq1 hq2 hq3 hq4 hr1 m1 hr3 m3 hr4 m4
      -- the weight
      obtain ⟨d, hd⟩ : ∃ d, x.most - x.least = d := ⟨_, rfl⟩
      have hd1 : 0 ≤ d ∧ d ≤ 70368744177664 := by omega
      have hsub : sub x.most x.least = d := by unfold sub sat; omega
      have hmax : Hid (max (sub x.most x.least) 0 = d) := hid (by rw [hsub]; omega)
      have HWG : Hid (wgr x = (d + 63) / 64) := hid (by unfold wgr; rw [hd])
      have hSQ : (fun Z : World => Z.cell? ⟨bi, oi + k * 2 + 1, none⟩ = some (.int .i64 x.most) ∧ Z.cell? ⟨bi, oi + k * 2, none⟩ = some (.int .i64 x.least)) w2.drew := ⟨(hxx _ hB.drew).2, (hxx _ hB.drew).1⟩
      clear hxb hxl hd hsub
      go_upto_region 7 with fail
      refine wp_region_noPanic ?_
      refine Ord.region_Q (S := fun Z : World => Z.cell? ⟨bi, oi + k * 2 + 1, none⟩ = some (.int .i64 x.most) ∧ Z.cell? ⟨bi, oi + k * 2, none⟩ = some (.int .i64 x.least)) 999 (.one 0 true (.one 1 true (.one 2 true (.one 3 true (.one 4 true (.one 5 true (.one 6 true (.one 7 true (.one 8 true (.one 9 true (.one 10 true (.one 11 true (.one 12 true .nil))))))))))))) (by kernel_rfl) (by kernel_rfl) (by kernel_rfl) (by decide) (fun _ _ _ _ _ h => h) (hSQ) (fun hS0 => ?_)
      simp only [Ord.layT, List.getElem?_cons_zero, List.getElem?_cons_succ]
      (refine Ord.takeQ (v := ?_) (Or.inl ⟨rfl, ?_⟩) ?_; rotate_left; (intro w hSw; (try dsimp only at hSw); go_simp; try (with_reducible rfl)); (try simp only [Act.put, List.setIfInBounds_toArray, List.set_cons_zero, List.set_cons_succ]))
      (refine Ord.takeQ (v := ?_) (Or.inl ⟨rfl, ?_⟩) ?_; rotate_left; (intro w hSw; (try dsimp only at hSw); go_simp; try (with_reducible rfl)); (try simp only [Act.put, List.setIfInBounds_toArray, List.set_cons_zero, List.set_cons_succ]))
      (refine Ord.takeQ (v := ?_) (Or.inl ⟨rfl, ?_⟩) ?_; rotate_left; (intro w hSw; (try dsimp only at hSw); go_simp; try (with_reducible rfl)); (try simp only [Act.put, List.setIfInBounds_toArray, List.set_cons_zero, List.set_cons_succ]))
      (refine Ord.takeQ (v := ?_) (Or.inl ⟨rfl, ?_⟩) ?_; rotate_left; (intro w hSw; (try dsimp only at hSw); go_simp; try (with_reducible rfl)); (try simp only [Act.put, List.setIfInBounds_toArray, List.set_cons_zero, List.set_cons_succ]))
      (refine Ord.takeQ (v := ?_) (Or.inl ⟨rfl, ?_⟩) ?_; rotate_left; (intro w hSw; (try dsimp only at hSw); go_simp; try (with_reducible rfl)); (try simp only [Act.put, List.setIfInBounds_toArray, List.set_cons_zero, List.set_cons_succ]))
      (refine Ord.takeQ (v := ?_) (Or.inl ⟨rfl, ?_⟩) ?_; rotate_left; (intro w hSw; (try dsimp only at hSw); go_simp; try (with_reducible rfl)); (try simp only [Act.put, List.setIfInBounds_toArray, List.set_cons_zero, List.set_cons_succ]))
      (refine Ord.takeQ (v := ?_) (Or.inl ⟨rfl, ?_⟩) ?_; rotate_left; (intro w hSw; (try dsimp only at hSw); go_simp; try (with_reducible rfl)); (try simp only [Act.put, List.setIfInBounds_toArray, List.set_cons_zero, List.set_cons_succ]))
      (refine Ord.takeQ (v := ?_) (Or.inl ⟨rfl, ?_⟩) ?_; rotate_left; (intro w hSw; (try dsimp only at hSw); go_simp; try (with_reducible rfl)); (try simp only [Act.put, List.setIfInBounds_toArray, List.set_cons_zero, List.set_cons_succ]))
      (refine Ord.takeQ (v := ?_) (Or.inl ⟨rfl, ?_⟩) ?_; rotate_left; (intro w hSw; (try dsimp only at hSw); go_simp; try (with_reducible rfl)); (try simp only [Act.put, List.setIfInBounds_toArray, List.set_cons_zero, List.set_cons_succ]))
      (refine Ord.takeQ (v := ?_) (Or.inl ⟨rfl, ?_⟩) ?_; rotate_left; (intro w hSw; (try dsimp only at hSw); go_simp; try (with_reducible rfl)); (try simp only [Act.put, List.setIfInBounds_toArray, List.set_cons_zero, List.set_cons_succ]))
      (refine Ord.takeC 53 #[.int .i64 x.most, .int .i64 x.least] rfl (fun _ _ => by kernel_rfl) (fun w hSw => ref_Sub _ _ _) ?_; (try simp only [Act.put, List.setIfInBounds_toArray, List.set_cons_zero, List.set_cons_succ]))
      (refine Ord.takeC 62 #[.int .i64 (sub x.most x.least)] rfl (fun _ _ => by kernel_rfl) (fun w hSw => by have := ref19_up (sub x.most x.least) w; rw [hmax.out] at this; exact this) ?_; (try simp only [Act.put, List.setIfInBounds_toArray, List.set_cons_zero, List.set_cons_succ]))
      (refine Ord.takeQ (v := ?_) (Or.inl ⟨rfl, ?_⟩) ?_; rotate_left; (intro w hSw; (try dsimp only at hSw); go_simp; try (with_reducible rfl)); (try simp only [Act.put, List.setIfInBounds_toArray, List.set_cons_zero, List.set_cons_succ]))
      refine Ord.doneQ (NoPanic.normal ?_)
      clear hSQ
      replace hB := hB.drew
      replace ho1 := own_drew ho1
      replace ho2 := own_drew ho2
      replace ho3 := own_drew ho3
      replace ho4 := own_drew ho4
      go_upto_if 58 with fail
      go_cut [13] (fun s13 wx => s13 = .int .i64 ((d + 63) / 64) ∧ w2.drew = wx)
      case first =>
        by_cases hm : 0 < d % 64
        · have d1 : decide (0 < d % 64) = true := decide_eq_true hm
          have hq : Hid ((d + 63) / 64 = d / 64 + 1) := hid (by omega)
          have hq1 : 0 ≤ d / 64 := by omega
          have hq2 : d / 64 ≤ 70368744177664 := by omega
          go_wp2_with fail
          go_meet
          exact ⟨by rw [hq.out], rfl⟩
        · have d1 : decide (0 < d % 64) = false := decide_eq_false hm
          have hq : Hid ((d + 63) / 64 = d / 64) := hid (by omega)
          go_wp2_with fail
          go_meet
          exact ⟨by rw [hq.out], rfl⟩
      case rest =>
      obtain ⟨rfl, rfl⟩ := hcut
      obtain ⟨w2, hw2e⟩ : ∃ w9 : World, w2.drew = w9 := ⟨_, rfl⟩
      rw [hw2e] at ho1 ho2 ho3 ho4 hB ⊢
      clear hw2e
      have hz2 := hB.size
      rw [HWG.out] at HU3
      generalize (d + 63) / 64 = gw at *
      have hba : Below w.heap.size w (w2.alloc (.cells #[.int .i64 gw] 2)) := hB.alloc hB.size _
      have hzq := hB.size
      have hq1 := ho1.alloc (.cells #[.int .i64 gw] 2)
      have hq2 := ho2.alloc (.cells #[.int .i64 gw] 2)
      have hq3 := ho3.alloc (.cells #[.int .i64 gw] 2)
      have hq4 := ho4.alloc (.cells #[.int .i64 gw] 2)
      go_wp2_with (refine stop_append _ _ _ _ rfl ?_)
      refine ⟨?_⟩
      refine wpList_append_fresh _ rfl _ _ 55 rfl w.heap.size 2 i1 (.int .i64 0) 1 8 Try.underlying55 hi1 hz1 hs1 hb1 rfl (by decide) (.slice A3 k c3) _ _ rfl hq3 ⟨w2.heap.size, 0, none⟩ 1 1 [.int .i64 gw] rfl rfl (news19 (Blk.new w2 2 #[.int .i64 gw]) rfl) (by simp [Value.oneCell']) (by unfold maxLen; omega) (by omega) (by simp; omega) ?_
      intro vq w2 hoq hgq hfq
      (try simp only [Act.put, List.setIfInBounds_toArray, List.set_cons_zero, List.set_cons_succ])
      have hB2 := hba.trans (own_belowB hq3 hgq (by simp; omega))
      have hr1 := (n13).keep hq1 hgq
      have hr2 := (n23).keep hq2 hgq
      have hr4 := (n34.symm).keep hq4 hgq
      have m1 := (n13).fresh hq1 hfq
      have m2 := (n23).fresh hq2 hfq
      have m4 := (n34.symm).fresh hq4 hfq
      clear hba hgq hfq hB ho1 ho2 ho3 ho4 n13 n23 n34
      obtain ⟨A3', c3', rfl, -⟩ := own_some hoq
      have ho1 := hr1
      have ho2 := hr2
      have ho4 := hr4
      have ho3 := hoq
      have hB := hB2
      have n13 := m1
      have n23 := m2
      have n34 := m4.symm
      clear hB2 hoq hzq hq1 hq2 hq3 hq4 hr1 m1 hr2 m2 hr4 m4
      have hba : Below w.heap.size w (w2.alloc (.cells #[.int .i64 1] 2)) := hB.alloc hB.size _
      have hzq := hB.size
      have hq1 := ho1.alloc (.cells #[.int .i64 1] 2)
      have hq2 := ho2.alloc (.cells #[.int .i64 1] 2)
      have hq3 := ho3.alloc (.cells #[.int .i64 1] 2)
      have hq4 := ho4.alloc (.cells #[.int .i64 1] 2)
      go_wp2_with (refine stop_append _ _ _ _ rfl ?_)
      refine ⟨?_⟩
      refine wpList_append_fresh _ rfl _ _ 55 rfl w.heap.size 2 i1 (.int .i64 0) 1 8 Try.underlying55 hi1 hz1 hs1 hb1 rfl (by decide) (.slice A4 k c4) _ _ rfl hq4 ⟨w2.heap.size, 0, none⟩ 1 1 [.int .i64 1] rfl rfl (news19 (Blk.new w2 2 #[.int .i64 1]) rfl) (by simp [Value.oneCell']) (by unfold maxLen; omega) (by omega) (by simp; omega) ?_
      intro vq w2 hoq hgq hfq
      (try simp only [Act.put, List.setIfInBounds_toArray, List.set_cons_zero, List.set_cons_succ])
      have hB2 := hba.trans (own_belowB hq4 hgq (by simp; omega))
      have hr1 := (n14).keep hq1 hgq
      have hr2 := (n24).keep hq2 hgq
      have hr3 := (n34).keep hq3 hgq
      have m1 := (n14).fresh hq1 hfq
      have m2 := (n24).fresh hq2 hfq
      have m3 := (n34).fresh hq3 hfq
      clear hba hgq hfq hB ho1 ho2 ho3 ho4 n14 n24 n34
      obtain ⟨A4', c4', rfl, -⟩ := own_some hoq
      have ho1 := hr1
      have ho2 := hr2
      have ho3 := hr3
      have ho4 := hoq
      have hB := hB2
      have n14 := m1
      have n24 := m2
      have n34 := m3
      clear hB2 hoq hzq hq1 hq2 hq3 hq4 hr1 m1 hr2 m2 hr3 m3
      go_wp2_with fail
      go_roundw
      case rel => exact ⟨k + 1, by omega, by go_num, by rw [HU1.out]; exact ho1, by rw [HU2.out]; exact ho2, by rw [HU3.out]; exact ho3, by rw [HU4.out]; exact ho4, n12, n13, n14, n23, n24, n34, hB⟩
      case measure => simp [intOf]; omega
    · obtain rfl : k = l.length := by omega
      rw [List.take_length] at ho1 ho2 ho3
      obtain ⟨A1, c1, rfl, hI1⟩ := own_seg ho1
      obtain ⟨A2, c2, rfl, hI2⟩ := own_seg ho2
      obtain ⟨A3, c3, rfl, hI3⟩ := own_seg ho3
      obtain ⟨A4, c4, rfl, hI4⟩ := own_seg ho4
      have hL1 : (leasts l).length = l.length := leasts_length l
      have hL2 : (mosts l).length = l.length := mosts_length l
      have hS1 := ref_Sum (leasts l) A1 c1 wr.heap.size wr (by omega) hI1
      have hS2 := ref_Sum (mosts l) A2 c2 wr.heap.size wr (by omega) hI2
      rw [hL1] at hS1
      rw [hL2] at hS2
      go_wp2_with fail
      refine hS1.mono ?_
      clear hS1
      rintro e w' ⟨rfl, rfl⟩
      go_wp2_with fail
      refine hS2.mono ?_
      clear hS2
      rintro e w' ⟨rfl, rfl⟩
      obtain ⟨sa, hsa⟩ : ∃ sa, sums (leasts l) l.length = sa := ⟨_, rfl⟩
      obtain ⟨sb, hsb⟩ : ∃ sb, sums (mosts l) l.length = sb := ⟨_, rfl⟩
      rw [hsa, hsb] at HT ⊢
      clear hsa hsb
      by_cases c1' : room ≤ sa
      · have HZ : Hid (leasts l = T) := hid (by rw [← HT.out, if_pos c1'])
        have d1 : decide (room ≤ sa) = true := decide_eq_true c1'
        clear HT
        go_wp2_with fail
        go_ret
        exact ⟨A1, c1, rfl, hB, by rw [← HZ.out]; exact hI1⟩
      · have d1 : decide (room ≤ sa) = false := decide_eq_false c1'
        by_cases c2' : room ≤ sb
        · have HZ : Hid (zadd (leasts l) (share (sub room sa) (wgrs l)) = T) := hid (by rw [← HT.out, if_neg c1', if_pos c2', share_wgrs])
          have d2 : decide (room ≤ sb) = true := decide_eq_true c2'
          have hwl : (wgrs l).length = l.length := by simp [wgrs]
          have hsh := ref_Share (sub room sa) (wgrs l) A3 c3 wr (by omega) hI3
          rw [hwl] at hsh
          have HSL : Hid ((leasts l).length = (share (sub room sa) (wgrs l)).length) := hid (by rw [share_length, hwl, hL1])
          clear HT hwl
          go_wp2_with (go_at_call 53; refine (ref_Sub _ _ _).mono ?_; rintro e w' ⟨rfl, rfl⟩)
          refine hsh.mono ?_
          clear hsh
          rintro e w3 ⟨rfl, hb3, hP⟩
          replace hB := hB.trans (hb3.mono hB.size)
          have hor := own_below ho1 hb3
          clear hI1 hI2 hI3 hI4 hA
          obtain ⟨pts, hpts⟩ : ∃ pts, share (sub room sa) (wgrs l) = pts := ⟨_, rfl⟩
          rw [hpts] at hP HSL HZ
          clear hpts
          have HZL : Hid ((zadd (leasts l) pts).length = l.length) := hid (by rw [zadd_length HSL.out, leasts_length])
          have HMX : Hid ((leasts l).length = (zadd (leasts l) pts).length) := hid (by rw [HZL.out, leasts_length])
          have ho0 : w3.ownsRow w.heap.size 2 1 (.slice A1 l.length c1) l.length ((mix (leasts l) (zadd (leasts l) pts) 0).map (Value.int .i64)) := by rw [mix_zero]; exact hor
          have hgp : ∀ q, (Value.slice A1 l.length c1).ownBlock = some q → q < wr.heap.size := fun q hq => own_lt ho1 hq
          replace hgp := hid hgp
          have hzw : w.heap.size ≤ wr.heap.size := by have := hb3.size; have := hz; omega
          clear hor hb3 ho1 ho2 ho3 ho4
          generalize wr.heap.size = gp at *
          go_wp2_with fail
          go_loopw [17] (fun ss wr => ∃ k : Nat, k ≤ l.length ∧ ss = .int .i64 k ∧ wr.ownsRow w.heap.size 2 1 (.slice A1 l.length c1) l.length ((mix (leasts l) (zadd (leasts l) pts) k).map (Value.int .i64)) ∧ Blk wr gp 2 (ints pts) ∧ Below w.heap.size w wr) (fun i _ => l.length - (intOf i).toNat)
          case atStart => exact ⟨0, Nat.zero_le _, rfl, ho0, hP, hB⟩
          case round =>
            clear ho0 hP hB
            obtain ⟨k, hk, rfl, ho, hP, hB⟩ := hrel
            by_cases hlt : k < l.length
            · obtain ⟨g, cap, hv, hbg, hnc, hgl⟩ := own_block ho (by omega)
              injection hv with a1 a2 a3
              subst a1 a3
              have hml := mix_length HMX.out k
              have hxk := own_int ho hlt (by rw [hml, leasts_length])
              rw [mix_get HMX.out (Nat.le_refl k) (by rw [leasts_length]; exact hlt)] at hxk
              obtain ⟨xk, hxe⟩ : ∃ xk, (leasts l).getD k 0 = xk := ⟨_, rfl⟩
              rw [hxe] at hxk
              have HXK := hid hxe
              clear hxe
              obtain ⟨pk, hpk, HPK⟩ := hP.intAt (i := k) (by rw [← HSL.out, leasts_length]; exact hlt)
              have hfz := ho.frozenAt k
              have hggp : gp ≠ g := by intro e; have := hgp.out g rfl; omega
              have HU : Hid ((mix (leasts l) (zadd (leasts l) pts) (k + 1)).map (Value.int .i64) = ((mix (leasts l) (zadd (leasts l) pts) k).map (Value.int .i64)).set k (.int .i64 (add xk pk))) := hid (by rw [← mixv_set HMX.out (by rw [leasts_length]; exact hlt), zadd_get HSL.out (by rw [leasts_length]; exact hlt), HXK.out, HPK.out])
              have hSQ : (fun Z : World => Z.cell? ⟨g, k, none⟩ = some (.int .i64 xk) ∧ Z.cell? ⟨gp, k, none⟩ = some (.int .i64 pk) ∧ Z.frozen? ⟨g, k, none⟩ = false) wr.drew := ⟨hxk, hpk, hfz⟩
              go_upto_region 22 with fail
              refine wp_region_noPanic ?_
              refine Ord.region_Q (S := fun Z : World => Z.cell? ⟨g, k, none⟩ = some (.int .i64 xk) ∧ Z.cell? ⟨gp, k, none⟩ = some (.int .i64 pk) ∧ Z.frozen? ⟨g, k, none⟩ = false) 12 (.one 0 true (.one 1 true (.one 2 true (.one 3 true (.one 4 true (.one 5 true (.one 6 true (.one 7 true (.one 8 true (.one 9 true (.one 10 true (.one 11 true (.one 12 false .nil))))))))))))) (by kernel_rfl) (by kernel_rfl) (by kernel_rfl) (by decide) (fun _ _ _ _ _ h => h) (hSQ) (fun hS0 => ?_)
              simp only [Ord.layT, List.getElem?_cons_zero, List.getElem?_cons_succ]
              (refine Ord.takeQ (v := ?_) (Or.inl ⟨rfl, ?_⟩) ?_; rotate_left; (intro w hSw; (try dsimp only at hSw); go_simp; try (with_reducible rfl)); (try simp only [Act.put, List.setIfInBounds_toArray, List.set_cons_zero, List.set_cons_succ]))
              (refine Ord.takeQ (v := ?_) (Or.inl ⟨rfl, ?_⟩) ?_; rotate_left; (intro w hSw; (try dsimp only at hSw); go_simp; try (with_reducible rfl)); (try simp only [Act.put, List.setIfInBounds_toArray, List.set_cons_zero, List.set_cons_succ]))
              (refine Ord.takeQ (v := ?_) (Or.inl ⟨rfl, ?_⟩) ?_; rotate_left; (intro w hSw; (try dsimp only at hSw); go_simp; try (with_reducible rfl)); (try simp only [Act.put, List.setIfInBounds_toArray, List.set_cons_zero, List.set_cons_succ]))
              (refine Ord.takeQ (v := ?_) (Or.inl ⟨rfl, ?_⟩) ?_; rotate_left; (intro w hSw; (try dsimp only at hSw); go_simp; try (with_reducible rfl)); (try simp only [Act.put, List.setIfInBounds_toArray, List.set_cons_zero, List.set_cons_succ]))
              (refine Ord.takeQ (v := ?_) (Or.inl ⟨rfl, ?_⟩) ?_; rotate_left; (intro w hSw; (try dsimp only at hSw); go_simp; try (with_reducible rfl)); (try simp only [Act.put, List.setIfInBounds_toArray, List.set_cons_zero, List.set_cons_succ]))
              (refine Ord.takeQ (v := ?_) (Or.inl ⟨rfl, ?_⟩) ?_; rotate_left; (intro w hSw; (try dsimp only at hSw); go_simp; try (with_reducible rfl)); (try simp only [Act.put, List.setIfInBounds_toArray, List.set_cons_zero, List.set_cons_succ]))
              (refine Ord.takeQ (v := ?_) (Or.inl ⟨rfl, ?_⟩) ?_; rotate_left; (intro w hSw; (try dsimp only at hSw); go_simp; try (with_reducible rfl)); (try simp only [Act.put, List.setIfInBounds_toArray, List.set_cons_zero, List.set_cons_succ]))
              (refine Ord.takeQ (v := ?_) (Or.inl ⟨rfl, ?_⟩) ?_; rotate_left; (intro w hSw; (try dsimp only at hSw); go_simp; try (with_reducible rfl)); (try simp only [Act.put, List.setIfInBounds_toArray, List.set_cons_zero, List.set_cons_succ]))
              (refine Ord.takeQ (v := ?_) (Or.inl ⟨rfl, ?_⟩) ?_; rotate_left; (intro w hSw; (try dsimp only at hSw); go_simp; try (with_reducible rfl)); (try simp only [Act.put, List.setIfInBounds_toArray, List.set_cons_zero, List.set_cons_succ]))
              (refine Ord.takeQ (v := ?_) (Or.inl ⟨rfl, ?_⟩) ?_; rotate_left; (intro w hSw; (try dsimp only at hSw); go_simp; try (with_reducible rfl)); (try simp only [Act.put, List.setIfInBounds_toArray, List.set_cons_zero, List.set_cons_succ]))
              (refine Ord.takeC 60 #[.int .i64 xk, .int .i64 pk] rfl (fun _ _ => by kernel_rfl) (fun w hSw => ref_Add _ _ _) ?_; (try simp only [Act.put, List.setIfInBounds_toArray, List.set_cons_zero, List.set_cons_succ]))
              (refine Ord.takeQ (v := ?_) (Or.inl ⟨rfl, ?_⟩) ?_; rotate_left; (intro w hSw; (try dsimp only at hSw); go_simp; try (with_reducible rfl)); (try simp only [Act.put, List.setIfInBounds_toArray, List.set_cons_zero, List.set_cons_succ]))
              refine Ord.lastQ rfl rfl (fun K hK => ?_)
              obtain ⟨hq1, hq2, hq3⟩ := hSQ
              go_simp
              (try simp only [Act.put, List.setIfInBounds_toArray, List.set_cons_zero, List.set_cons_succ])
              refine hK.out _ _ ?_
              clear hK K
              refine Ord.doneQ (NoPanic.normal ?_)
              have hst := (own_drew ho).stored k (.int .i64 (add xk pk))
              have hB3 := (hB.drew).setCell (p := ⟨g, k, none⟩) hbg (.int .i64 (add xk pk))
              have hP3 := (hP.drew).far (p := ⟨g, k, none⟩) hggp (.int .i64 (add xk pk))
              clear ho hB hP
              go_wp2_with fail
              go_roundw
              case rel => exact ⟨k + 1, by omega, by go_num, by rw [HU.out]; exact hst.1, hP3, hB3⟩
              case measure => simp [intOf]; omega
            · obtain rfl : k = l.length := by omega
              have HFI : Hid (mix (leasts l) (zadd (leasts l) pts) l.length = T) := hid (by have := mix_all HMX.out; rw [leasts_length] at this; rw [this, HZ.out])
              rw [HFI.out] at ho
              obtain ⟨A9, c9, hv9, hI9⟩ := own_seg ho
              injection hv9 with a1 a2 a3
              subst a1 a3
              go_wp2_with fail
              go_ret
              exact ⟨A1, ⟨c1, rfl⟩, hB, hI9⟩
        · have d2 : decide (room ≤ sb) = false := decide_eq_false c2'
          cases sure
          · have HZ : Hid (mosts l = T) := hid (by rw [← HT.out, if_neg c1', if_neg c2']; rfl)
            clear HT
            go_wp2_with fail
            go_ret
            exact ⟨A2, c2, rfl, hB, by rw [← HZ.out]; exact hI2⟩
          · have HZ : Hid (zadd (mosts l) (share (sub room sb) (ones l.length)) = T) := hid (by rw [← HT.out, if_neg c1', if_neg c2']; rfl)
            have hwl : (ones l.length).length = l.length := ones_length _
            have hsh := ref_Share (sub room sb) (ones l.length) A4 c4 wr (by omega) hI4
            rw [hwl] at hsh
            have HSL : Hid ((mosts l).length = (share (sub room sb) (ones l.length)).length) := hid (by rw [share_length, hwl, hL2])
            clear HT hwl
            go_wp2_with (go_at_call 53; refine (ref_Sub _ _ _).mono ?_; rintro e w' ⟨rfl, rfl⟩)
            refine hsh.mono ?_
            clear hsh
            rintro e w3 ⟨rfl, hb3, hP⟩
            replace hB := hB.trans (hb3.mono hB.size)
            have hor := own_below ho2 hb3
            clear hI1 hI2 hI3 hI4 hA
            obtain ⟨pts, hpts⟩ : ∃ pts, share (sub room sb) (ones l.length) = pts := ⟨_, rfl⟩
            rw [hpts] at hP HSL HZ
            clear hpts
            have HZL : Hid ((zadd (mosts l) pts).length = l.length) := hid (by rw [zadd_length HSL.out, mosts_length])
            have HMX : Hid ((mosts l).length = (zadd (mosts l) pts).length) := hid (by rw [HZL.out, mosts_length])
            have ho0 : w3.ownsRow w.heap.size 2 1 (.slice A2 l.length c2) l.length ((mix (mosts l) (zadd (mosts l) pts) 0).map (Value.int .i64)) := by rw [mix_zero]; exact hor
            have hgp : ∀ q, (Value.slice A2 l.length c2).ownBlock = some q → q < wr.heap.size := fun q hq => own_lt ho2 hq
            replace hgp := hid hgp
            have hzw : w.heap.size ≤ wr.heap.size := by have := hb3.size; have := hz; omega
            clear hor hb3 ho1 ho2 ho3 ho4
            generalize wr.heap.size = gp at *
            go_wp2_with fail
            go_loopw [19] (fun ss wr => ∃ k : Nat, k ≤ l.length ∧ ss = .int .i64 k ∧ wr.ownsRow w.heap.size 2 1 (.slice A2 l.length c2) l.length ((mix (mosts l) (zadd (mosts l) pts) k).map (Value.int .i64)) ∧ Blk wr gp 2 (ints pts) ∧ Below w.heap.size w wr) (fun i _ => l.length - (intOf i).toNat)
            case atStart => exact ⟨0, Nat.zero_le _, rfl, ho0, hP, hB⟩
            case round =>
              clear ho0 hP hB
              obtain ⟨k, hk, rfl, ho, hP, hB⟩ := hrel
              by_cases hlt : k < l.length
              · obtain ⟨g, cap, hv, hbg, hnc, hgl⟩ := own_block ho (by omega)
                injection hv with a1 a2 a3
                subst a1 a3
                have hml := mix_length HMX.out k
                have hxk := own_int ho hlt (by rw [hml, mosts_length])
                rw [mix_get HMX.out (Nat.le_refl k) (by rw [mosts_length]; exact hlt)] at hxk
                obtain ⟨xk, hxe⟩ : ∃ xk, (mosts l).getD k 0 = xk := ⟨_, rfl⟩
                rw [hxe] at hxk
                have HXK := hid hxe
                clear hxe
                obtain ⟨pk, hpk, HPK⟩ := hP.intAt (i := k) (by rw [← HSL.out, mosts_length]; exact hlt)
                have hfz := ho.frozenAt k
                have hggp : gp ≠ g := by intro e; have := hgp.out g rfl; omega
                have HU : Hid ((mix (mosts l) (zadd (mosts l) pts) (k + 1)).map (Value.int .i64) = ((mix (mosts l) (zadd (mosts l) pts) k).map (Value.int .i64)).set k (.int .i64 (add xk pk))) := hid (by rw [← mixv_set HMX.out (by rw [mosts_length]; exact hlt), zadd_get HSL.out (by rw [mosts_length]; exact hlt), HXK.out, HPK.out])
                have hSQ : (fun Z : World => Z.cell? ⟨g, k, none⟩ = some (.int .i64 xk) ∧ Z.cell? ⟨gp, k, none⟩ = some (.int .i64 pk) ∧ Z.frozen? ⟨g, k, none⟩ = false) wr.drew := ⟨hxk, hpk, hfz⟩
                go_upto_region 29 with fail
                refine wp_region_noPanic ?_
                refine Ord.region_Q (S := fun Z : World => Z.cell? ⟨g, k, none⟩ = some (.int .i64 xk) ∧ Z.cell? ⟨gp, k, none⟩ = some (.int .i64 pk) ∧ Z.frozen? ⟨g, k, none⟩ = false) 12 (.one 0 true (.one 1 true (.one 2 true (.one 3 true (.one 4 true (.one 5 true (.one 6 true (.one 7 true (.one 8 true (.one 9 true (.one 10 true (.one 11 true (.one 12 false .nil))))))))))))) (by kernel_rfl) (by kernel_rfl) (by kernel_rfl) (by decide) (fun _ _ _ _ _ h => h) (hSQ) (fun hS0 => ?_)
                simp only [Ord.layT, List.getElem?_cons_zero, List.getElem?_cons_succ]
                (refine Ord.takeQ (v := ?_) (Or.inl ⟨rfl, ?_⟩) ?_; rotate_left; (intro w hSw; (try dsimp only at hSw); go_simp; try (with_reducible rfl)); (try simp only [Act.put, List.setIfInBounds_toArray, List.set_cons_zero, List.set_cons_succ]))
                (refine Ord.takeQ (v := ?_) (Or.inl ⟨rfl, ?_⟩) ?_; rotate_left; (intro w hSw; (try dsimp only at hSw); go_simp; try (with_reducible rfl)); (try simp only [Act.put, List.setIfInBounds_toArray, List.set_cons_zero, List.set_cons_succ]))
                (refine Ord.takeQ (v := ?_) (Or.inl ⟨rfl, ?_⟩) ?_; rotate_left; (intro w hSw; (try dsimp only at hSw); go_simp; try (with_reducible rfl)); (try simp only [Act.put, List.setIfInBounds_toArray, List.set_cons_zero, List.set_cons_succ]))
                (refine Ord.takeQ (v := ?_) (Or.inl ⟨rfl, ?_⟩) ?_; rotate_left; (intro w hSw; (try dsimp only at hSw); go_simp; try (with_reducible rfl)); (try simp only [Act.put, List.setIfInBounds_toArray, List.set_cons_zero, List.set_cons_succ]))
                (refine Ord.takeQ (v := ?_) (Or.inl ⟨rfl, ?_⟩) ?_; rotate_left; (intro w hSw; (try dsimp only at hSw); go_simp; try (with_reducible rfl)); (try simp only [Act.put, List.setIfInBounds_toArray, List.set_cons_zero, List.set_cons_succ]))
                (refine Ord.takeQ (v := ?_) (Or.inl ⟨rfl, ?_⟩) ?_; rotate_left; (intro w hSw; (try dsimp only at hSw); go_simp; try (with_reducible rfl)); (try simp only [Act.put, List.setIfInBounds_toArray, List.set_cons_zero, List.set_cons_succ]))
                (refine Ord.takeQ (v := ?_) (Or.inl ⟨rfl, ?_⟩) ?_; rotate_left; (intro w hSw; (try dsimp only at hSw); go_simp; try (with_reducible rfl)); (try simp only [Act.put, List.setIfInBounds_toArray, List.set_cons_zero, List.set_cons_succ]))
                (refine Ord.takeQ (v := ?_) (Or.inl ⟨rfl, ?_⟩) ?_; rotate_left; (intro w hSw; (try dsimp only at hSw); go_simp; try (with_reducible rfl)); (try simp only [Act.put, List.setIfInBounds_toArray, List.set_cons_zero, List.set_cons_succ]))
                (refine Ord.takeQ (v := ?_) (Or.inl ⟨rfl, ?_⟩) ?_; rotate_left; (intro w hSw; (try dsimp only at hSw); go_simp; try (with_reducible rfl)); (try simp only [Act.put, List.setIfInBounds_toArray, List.set_cons_zero, List.set_cons_succ]))
                (refine Ord.takeQ (v := ?_) (Or.inl ⟨rfl, ?_⟩) ?_; rotate_left; (intro w hSw; (try dsimp only at hSw); go_simp; try (with_reducible rfl)); (try simp only [Act.put, List.setIfInBounds_toArray, List.set_cons_zero, List.set_cons_succ]))
                (refine Ord.takeC 60 #[.int .i64 xk, .int .i64 pk] rfl (fun _ _ => by kernel_rfl) (fun w hSw => ref_Add _ _ _) ?_; (try simp only [Act.put, List.setIfInBounds_toArray, List.set_cons_zero, List.set_cons_succ]))
                (refine Ord.takeQ (v := ?_) (Or.inl ⟨rfl, ?_⟩) ?_; rotate_left; (intro w hSw; (try dsimp only at hSw); go_simp; try (with_reducible rfl)); (try simp only [Act.put, List.setIfInBounds_toArray, List.set_cons_zero, List.set_cons_succ]))
                refine Ord.lastQ rfl rfl (fun K hK => ?_)
                obtain ⟨hq1, hq2, hq3⟩ := hSQ
                go_simp
                (try simp only [Act.put, List.setIfInBounds_toArray, List.set_cons_zero, List.set_cons_succ])
                refine hK.out _ _ ?_
                clear hK K
                refine Ord.doneQ (NoPanic.normal ?_)
                have hst := (own_drew ho).stored k (.int .i64 (add xk pk))
                have hB3 := (hB.drew).setCell (p := ⟨g, k, none⟩) hbg (.int .i64 (add xk pk))
                have hP3 := (hP.drew).far (p := ⟨g, k, none⟩) hggp (.int .i64 (add xk pk))
                clear ho hB hP
                go_wp2_with fail
                go_roundw
                case rel => exact ⟨k + 1, by omega, by go_num, by rw [HU.out]; exact hst.1, hP3, hB3⟩
                case measure => simp [intOf]; omega
              · obtain rfl : k = l.length := by omega
                have HFI : Hid (mix (mosts l) (zadd (mosts l) pts) l.length = T) := hid (by have := mix_all HMX.out; rw [mosts_length] at this; rw [this, HZ.out])
                rw [HFI.out] at ho
                obtain ⟨A9, c9, hv9, hI9⟩ := own_seg ho
                injection hv9 with a1 a2 a3
                subst a1 a3
                go_wp2_with fail
                go_ret
                exact ⟨A2, ⟨c2, rfl⟩, hB, hI9⟩
end Go.Proofs.Ytkoanijiihnioaa
