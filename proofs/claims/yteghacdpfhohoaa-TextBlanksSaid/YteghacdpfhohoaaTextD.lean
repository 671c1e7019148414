/-
  The cutter's put.
-/
import Derived.Test.YteghacdpfhohoaaTextC
namespace Go.Proofs.Yteghacdpfhohoaa
open Go.RowKit Num Mem Opn
set_option linter.unusedVariables false
set_option linter.unusedSimpArgs false
set_option linter.unusedSimpArgs false
theorem trimF_len (o : List Pz) : (trimF o).length ≤ o.length := by
  rcases list_snoc o with rfl | ⟨D, p, rfl⟩
  · simp [trimF_nil]
  · rw [trimF_snoc]
    split <;> simp
set_option maxRecDepth 100000 in
set_option maxHeartbeats 4000000 in
theorem cutter_put (g base : Nat) (ew eh : Int) (l : List Int) (A : Option Addr) (c : Nat) (x : Bx) (k : Int) (s : ByteArray) (out : List Pz) (v : Value) (w : World) (hn : out.length ≤ 100000) (hl : l.length ≤ 1000000) (hbase : base ≤ w.heap.size) (hc : Cu w g base ew eh l A c out v) :
    Calls Try.prog 68 #[.pointer (some ⟨g, 0, none⟩), .agg x.arr, .int .i64 k, .string s] w fun e w' => e = .returned (.tuple #[]) ∧ (∃ v', Cu w' g base ew eh l A c (putF l x k s out) v') ∧ CuKeep w w' g base := by
  obtain ⟨i0, hi, hz0, hz1, hzb⟩ := info_parts info_pz57
  have hX : Blk (w.alloc (.cells x.arr 64)) w.heap.size 64 x.arr := Blk.new _ _ _
  have hB : Below w.heap.size w (w.alloc (.cells x.arr 64)) := (Below.refl _ _).alloc (Nat.le_refl _) _
  have hC := hc.below hB
  have hgb := hc.gb
  obtain ⟨PF, hPF⟩ : ∃ PF, putF l x k s out = PF := ⟨_, rfl⟩
  rw [hPF]
  have HPF := hid hPF
  clear hPF
  go_enter Try.func68, Try.ntmps68
  go_upto_region 1 with fail
  refine wp_forget (fun Z => Blk Z w.heap.size 64 x.arr ∧ Cu Z g base ew eh l A c out v ∧ Below w.heap.size w Z) ⟨hX, hC, hB⟩ ?_
  clear hX hC hB
  rintro w1 ⟨hX, hC, hB⟩
  have hz1' := hB.size
  have hkp : CuKeep w w1 g base := CuKeep.of_below hB
  obtain ⟨bb, hbb⟩ : ∃ bb, w.heap.size = bb := ⟨_, rfl⟩
  have hne : bb ≠ g := by have := hc.blk.lt; omega
  rw [hbb] at hX ⊢
  clear hbb
  by_cases hk3 : k = 3
  · subst hk3
    have HP : Hid (PF = trimF out ++ [pieceF l x 3 s]) := hid (by rw [← HPF.out]; rfl)
    have c3 : w1.cell? ⟨g, 3, none⟩ = some v := hC.blk.cell 3
    obtain ⟨A1, c1, rfl, -⟩ := own_some hC.own
    go_wp2_with fail
    refine (cutter_trim g base ew eh l A c out _ _ (by omega) hC).mono ?_
    rintro e w2 ⟨rfl, ⟨v2', hC2⟩, hk2⟩
    have hX2 := hk2.blk hX hne (by decide)
    have hkp2 := hkp.trans hk2
    have hz2' := hk2.size
    have htl := trimF_len out
    clear hC hX hk2 c3 HPF hkp
    obtain ⟨h1, ho, hadv, -⟩ := hC2
    generalize trimF out = o at *
    obtain ⟨A2, c2, rfl, -⟩ := own_some ho
    go_wp2_with fail
    have hS : ∀ Z : World, (Blk Z g 102 #[.int .i64 ew, .int .i64 eh, .slice A l.length c, (.slice A2 o.length c2)] ∧ Blk Z bb 64 x.arr ∧ Ints Z g A l ∧ CuKeep w2 Z g base) → (fun Z : World => (Blk Z g 102 #[.int .i64 ew, .int .i64 eh, .slice A l.length c, (.slice A2 o.length c2)] ∧ Blk Z bb 64 x.arr ∧ Ints Z g A l ∧ CuKeep w2 Z g base) ∧ Z.cell? ⟨g, 0, none⟩ = some (.int .i64 ew) ∧ Z.cell? ⟨g, 1, none⟩ = some (.int .i64 eh) ∧ Z.cell? ⟨g, 2, none⟩ = some (.slice A l.length c) ∧ Z.cell? ⟨g, 3, none⟩ = some ((.slice A2 o.length c2)) ∧ Z.cell? ⟨bb, 1, none⟩ = some (.int .i64 x.node) ∧ Z.cell? ⟨bb, 41, none⟩ = some (.int .i64 1024) ∧ Z.rangeAt bb 3 (stI x.pre).toList) Z := fun Z h => ⟨h, h.1.cell 0, h.1.cell 1, h.1.cell 2, h.1.cell 3, h.2.1.cell 1, h.2.1.cell 41, sti_mid h.2.1⟩
    go_upto_region 5 with fail
    refine wp_region_noPanic ?_
    refine Ord.region_Q (S := fun Z : World => (Blk Z g 102 #[.int .i64 ew, .int .i64 eh, .slice A l.length c, (.slice A2 o.length c2)] ∧ Blk Z bb 64 x.arr ∧ Ints Z g A l ∧ CuKeep w2 Z g base) ∧ Z.cell? ⟨g, 0, none⟩ = some (.int .i64 ew) ∧ Z.cell? ⟨g, 1, none⟩ = some (.int .i64 eh) ∧ Z.cell? ⟨g, 2, none⟩ = some (.slice A l.length c) ∧ Z.cell? ⟨g, 3, none⟩ = some ((.slice A2 o.length c2)) ∧ Z.cell? ⟨bb, 1, none⟩ = some (.int .i64 x.node) ∧ Z.cell? ⟨bb, 41, none⟩ = some (.int .i64 1024) ∧ Z.rangeAt bb 3 (stI x.pre).toList) 28 (.one 0 true (.one 1 true (.one 2 true (.one 3 true (.one 4 true (.one 5 true (.one 6 true (.one 7 true (.one 8 true (.one 9 true (.one 10 true (.one 11 true (.one 12 true (.one 13 true (.one 14 true (.one 15 true (.one 16 true (.one 18 true (.one 19 true (.one 21 true (.one 22 true (.one 17 false (.one 20 false (.one 23 true (.one 24 false (.one 25 false (.one 26 true (.one 27 true (.one 28 false .nil))))))))))))))))))))))))))))) (by kernel_rfl) (by kernel_rfl) (by kernel_rfl) (by decide) (fun _ _ _ _ _ h => h) (hS _ ⟨h1.drew, hX2.drew, hadv.below ((Drawn.refl _).drew.below _), CuKeep.of_below ((Drawn.refl _).drew.below _)⟩) (fun hS0 => ?_)
    simp only [Ord.layT, List.getElem?_cons_zero, List.getElem?_cons_succ]
    (refine Ord.takeQ (v := ?_) (Or.inl ⟨rfl, ?_⟩) ?_; rotate_left; (intro w hSw; (try dsimp only at hSw); go_simp; try (with_reducible rfl)); (try simp only [Act.put, List.setIfInBounds_toArray, List.set_cons_zero, List.set_cons_succ]))
    (refine Ord.takeQ (v := ?_) (Or.inl ⟨rfl, ?_⟩) ?_; rotate_left; (intro w hSw; (try dsimp only at hSw); go_simp; try (with_reducible rfl)); (try simp only [Act.put, List.setIfInBounds_toArray, List.set_cons_zero, List.set_cons_succ]))
    (refine Ord.takeQ (v := ?_) (Or.inl ⟨rfl, ?_⟩) ?_; rotate_left; (intro w hSw; (try dsimp only at hSw); go_simp; try (with_reducible rfl)); (try simp only [Act.put, List.setIfInBounds_toArray, List.set_cons_zero, List.set_cons_succ]))
    (refine Ord.takeQ (v := ?_) (Or.inl ⟨rfl, ?_⟩) ?_; rotate_left; (intro w hSw; (try dsimp only at hSw); go_simp; try (with_reducible rfl)); (try simp only [Act.put, List.setIfInBounds_toArray, List.set_cons_zero, List.set_cons_succ]))
    (refine Ord.takeQ (v := ?_) (Or.inl ⟨rfl, ?_⟩) ?_; rotate_left; (intro w hSw; (try dsimp only at hSw); go_simp; try (with_reducible rfl)); (try simp only [Act.put, List.setIfInBounds_toArray, List.set_cons_zero, List.set_cons_succ]))
    (refine Ord.takeQ (v := ?_) (Or.inl ⟨rfl, ?_⟩) ?_; rotate_left; (intro w hSw; (try dsimp only at hSw); go_simp; try (with_reducible rfl)); (try simp only [Act.put, List.setIfInBounds_toArray, List.set_cons_zero, List.set_cons_succ]))
    (refine Ord.takeQ (v := ?_) (Or.inl ⟨rfl, ?_⟩) ?_; rotate_left; (intro w hSw; (try dsimp only at hSw); go_simp; try (with_reducible rfl)); (try simp only [Act.put, List.setIfInBounds_toArray, List.set_cons_zero, List.set_cons_succ]))
    (refine Ord.takeQ (v := ?_) (Or.inl ⟨rfl, ?_⟩) ?_; rotate_left; (intro w hSw; (try dsimp only at hSw); go_simp; try (with_reducible rfl)); (try simp only [Act.put, List.setIfInBounds_toArray, List.set_cons_zero, List.set_cons_succ]))
    (refine Ord.takeQ (v := ?_) (Or.inl ⟨rfl, ?_⟩) ?_; rotate_left; (intro w hSw; (try dsimp only at hSw); go_simp; try (with_reducible rfl)); (try simp only [Act.put, List.setIfInBounds_toArray, List.set_cons_zero, List.set_cons_succ]))
    (refine Ord.takeQ (v := ?_) (Or.inl ⟨rfl, ?_⟩) ?_; rotate_left; (intro w hSw; (try dsimp only at hSw); go_simp; try (with_reducible rfl)); (try simp only [Act.put, List.setIfInBounds_toArray, List.set_cons_zero, List.set_cons_succ]))
    (refine Ord.takeQ (v := ?_) (Or.inl ⟨rfl, ?_⟩) ?_; rotate_left; (intro w hSw; (try dsimp only at hSw); go_simp; try (with_reducible rfl)); (try simp only [Act.put, List.setIfInBounds_toArray, List.set_cons_zero, List.set_cons_succ]))
    (refine Ord.takeQ (v := ?_) (Or.inl ⟨rfl, ?_⟩) ?_; rotate_left; (intro w hSw; (try dsimp only at hSw); go_simp; try (with_reducible rfl)); (try simp only [Act.put, List.setIfInBounds_toArray, List.set_cons_zero, List.set_cons_succ]))
    (refine Ord.takeQ (v := ?_) (Or.inl ⟨rfl, ?_⟩) ?_; rotate_left; (intro w hSw; (try dsimp only at hSw); go_simp; try (with_reducible rfl)); (try simp only [Act.put, List.setIfInBounds_toArray, List.set_cons_zero, List.set_cons_succ]))
    (refine Ord.takeQ (v := ?_) (Or.inl ⟨rfl, ?_⟩) ?_; rotate_left; (intro w hSw; (try dsimp only at hSw); go_simp; try (with_reducible rfl)); (try simp only [Act.put, List.setIfInBounds_toArray, List.set_cons_zero, List.set_cons_succ]))
    (refine Ord.takeQ (v := ?_) (Or.inl ⟨rfl, ?_⟩) ?_; rotate_left; (intro w hSw; (try dsimp only at hSw); go_simp; try (with_reducible rfl)); (try simp only [Act.put, List.setIfInBounds_toArray, List.set_cons_zero, List.set_cons_succ]))
    (refine Ord.takeQ (v := ?_) (Or.inl ⟨rfl, ?_⟩) ?_; rotate_left; (intro w hSw; (try dsimp only at hSw); go_simp; try (with_reducible rfl)); (try simp only [Act.put, List.setIfInBounds_toArray, List.set_cons_zero, List.set_cons_succ]))
    (refine Ord.takeQ (v := ?_) (Or.inl ⟨rfl, ?_⟩) ?_; rotate_left; (intro w hSw; (try dsimp only at hSw); go_simp; try (with_reducible rfl)); (try simp only [Act.put, List.setIfInBounds_toArray, List.set_cons_zero, List.set_cons_succ]))
    (refine Ord.takeQ (v := ?_) (Or.inl ⟨rfl, ?_⟩) ?_; rotate_left; (intro w hSw; (try dsimp only at hSw); go_simp; try (with_reducible rfl)); (try simp only [Act.put, List.setIfInBounds_toArray, List.set_cons_zero, List.set_cons_succ]))
    (refine Ord.takeQ (yieldsIf_load_mid rfl _ _ rfl bb 3 rfl _ _ (fun w' h => h.2.2.2.2.2.2.2) Try.underlying43 rfl (info_sti_list _)) ?_; (try simp only [Act.put, List.setIfInBounds_toArray, List.set_cons_zero, List.set_cons_succ]))
    (refine Ord.takeQ (v := ?_) (Or.inl ⟨rfl, ?_⟩) ?_; rotate_left; (intro w hSw; (try dsimp only at hSw); go_simp; try (with_reducible rfl)); (try simp only [Act.put, List.setIfInBounds_toArray, List.set_cons_zero, List.set_cons_succ]))
    (refine Ord.takeQ (yieldsIf_load_mid rfl _ _ rfl bb 3 rfl _ _ (fun w' h => h.2.2.2.2.2.2.2) Try.underlying43 rfl (info_sti_list _)) ?_; (try simp only [Act.put, List.setIfInBounds_toArray, List.set_cons_zero, List.set_cons_succ]))
    refine Ord.aloneQ rfl rfl (fun K hK => ?_)
    go_simp
    refine (text_Width ew eh l A c s 1024 _ hl (hS0.1.2.2.1.more (Nat.le_of_lt hS0.1.1.lt))).mono ?_
    rintro e v1 ⟨rfl, hbq⟩
    have hS1 := hS v1 ⟨hS0.1.1.below hbq hS0.1.1.lt, hS0.1.2.1.below hbq hS0.1.2.1.lt, hS0.1.2.2.1.below (hbq.mono (Nat.le_of_lt hS0.1.1.lt)), hS0.1.2.2.2.on hbq⟩
    have ho1 := own_below (own_drew ho) hbq
    clear hbq
    go_wp2_with fail
    (try simp only [Act.put, List.setIfInBounds_toArray, List.set_cons_zero, List.set_cons_succ])
    refine hK.out _ _ (hS1) (fun _ => ?_)
    clear hK K
    refine Ord.aloneQ rfl rfl (fun K hK => ?_)
    go_simp
    refine (text_Height x.pre _).mono ?_
    rintro e v2 ⟨rfl, hbq⟩
    have hS2 := hS v2 ⟨hS1.1.1.below hbq hS1.1.1.lt, hS1.1.2.1.below hbq hS1.1.2.1.lt, hS1.1.2.2.1.below (hbq.mono (Nat.le_of_lt hS1.1.1.lt)), hS1.1.2.2.2.on hbq⟩
    have ho2 := own_below ho1 hbq
    clear hbq hS1 ho1
    go_wp2_with fail
    (try simp only [Act.put, List.setIfInBounds_toArray, List.set_cons_zero, List.set_cons_succ])
    refine hK.out _ _ (hS2) (fun _ => ?_)
    clear hK K
    (refine Ord.takeQ (v := .agg (pieceF l x 3 s).arr) (Or.inl ⟨rfl, fun w _ => by kernel_rfl⟩) ?_; (try simp only [Act.put, List.setIfInBounds_toArray, List.set_cons_zero, List.set_cons_succ]))
    refine Ord.aloneQ rfl rfl (fun K hK => ?_)
    refine wp_execT (v := .slice (some ⟨v2.heap.size, 0, none⟩) 1 1) (w' := v2.alloc (.cells (pieceF l x 3 s).arr 59)) (by kernel_rfl) ?_
    have hba : Below v2.heap.size v2 (v2.alloc (.cells (pieceF l x 3 s).arr 59)) := (Below.refl _ _).alloc (Nat.le_refl _) _
    have hS3 := hS (v2.alloc (.cells (pieceF l x 3 s).arr 59)) ⟨hS2.1.1.below hba hS2.1.1.lt, hS2.1.2.1.below hba hS2.1.2.1.lt, hS2.1.2.2.1.below (hba.mono (Nat.le_of_lt hS2.1.1.lt)), hS2.1.2.2.2.on hba⟩
    have hown := ho2.alloc (.cells (pieceF l x 3 s).arr 59)
    have hk3 := Blk.new v2 59 (pieceF l x 3 s).arr
    have hz2 := hS2.1.2.2.2.size
    clear hba hS2 ho2
    (try simp only [Act.put, List.setIfInBounds_toArray, List.set_cons_zero, List.set_cons_succ])
    refine hK.out _ _ (hS3) (fun _ => ?_)
    clear hK K
    refine Ord.aloneQ rfl rfl (fun K hK => ?_)
    refine wp_append_own _ _ _ 60 rfl base 59 i0 (.agg zeroP) 57 432 Try.underlying60 hi hz0 hz1 hzb rfl (by decide) ((.slice A2 o.length c2)) _ _ rfl hown ⟨v2.heap.size, 0, none⟩ 1 1 (pieceF l x 3 s).cells rfl rfl (news_at hk3 rfl) (fun u hu => (Array.all_eq_true_iff_forall_mem.1 (pz_one (pieceF l x 3 s))) u (by simpa [Pz.cells] using hu)) (by unfold maxLen; omega) (by omega) (by simp; omega) ?_
    intro u4 v4 ho4 hg4 _
    obtain ⟨A4, c4, rfl, -⟩ := own_some ho4
    have hbb4 := own_belowB hown hg4 (by simp; omega)
    have hS4 := hS v4 ⟨hS3.1.1.grown hown hg4 (by decide), hS3.1.2.1.grown hown hg4 (by decide), hS3.1.2.2.1.below (hbb4.mono (Nat.le_of_lt hgb)), hS3.1.2.2.2.trans (CuKeep.grown hown hg4 (by simp; omega))⟩
    clear hS3 hown hk3 hg4 hbb4
    (try simp only [Act.put, List.setIfInBounds_toArray, List.set_cons_zero, List.set_cons_succ])
    (try simp only [Act.put, List.setIfInBounds_toArray, List.set_cons_zero, List.set_cons_succ])
    refine hK.out _ _ (hS4) (fun _ => ?_)
    clear hK K
    (refine Ord.takeQ (v := ?_) (Or.inl ⟨rfl, ?_⟩) ?_; rotate_left; (intro w hSw; (try dsimp only at hSw); go_simp; try (with_reducible rfl)); (try simp only [Act.put, List.setIfInBounds_toArray, List.set_cons_zero, List.set_cons_succ]))
    (refine Ord.takeQ (v := ?_) (Or.inl ⟨rfl, ?_⟩) ?_; rotate_left; (intro w hSw; (try dsimp only at hSw); go_simp; try (with_reducible rfl)); (try simp only [Act.put, List.setIfInBounds_toArray, List.set_cons_zero, List.set_cons_succ]))
    refine Ord.lastQ rfl rfl (fun K hK => ?_)
    have fr : v4.frozen? ⟨g, 3, none⟩ = false := hS4.1.1.free 3
    have fc : v4.cell? ⟨g, 3, none⟩ = some ((.slice A2 o.length c2)) := hS4.1.1.cell 3
    go_simp
    (try simp only [Act.put, List.setIfInBounds_toArray, List.set_cons_zero, List.set_cons_succ])
    refine hK.out _ _ ?_
    clear hK K
    refine Ord.doneQ (NoPanic.normal ?_)
    have hcu : Cu (v4.setCell ⟨g, 3, none⟩ (.slice A4 ((o).length + 1) c4)) g base ew eh l A c (o ++ [(pieceF l x 3 s)]) (.slice A4 ((o).length + 1) c4) := by
      have h1 : Cu v4 g base ew eh l A c (o ++ [(pieceF l x 3 s)]) (.slice A4 ((o).length + 1) c4) → _ := fun h => h
      have ho5 : v4.ownsRow base 59 57 (.slice A4 ((o).length + 1) c4) (o ++ [(pieceF l x 3 s)]).length ((o ++ [(pieceF l x 3 s)]).flatMap Pz.cells) := by
        have := ho4
        rw [show (o ++ [(pieceF l x 3 s)]).length = (o).length + 1 by simp, List.flatMap_append]
        simpa using this
      exact ⟨hS4.1.1.put 3 _, own_keep ho5 (fun q hq _ => heap_setCell_other _ _ _ _ (by rintro rfl; exact own_not hS4.1.1 ho5 (by decide) hq.symm)), hS4.1.2.2.1.below ((Chg.setCell v4 ⟨g, 3, none⟩ _).below (Nat.le_refl _)), hgb⟩
    have hkf := hkp2.trans (hS4.1.2.2.2.trans (CuKeep.set (i := 3) (u := .slice A4 ((o).length + 1) c4) hS4.1.1))
    clear hS hS0 hS4 ho4 fr fc
    go_wp2_with fail
    exact bodyPost_end (results_none rfl _ _ _) rfl ⟨rfl, ⟨_, by rw [HP.out]; exact hcu⟩, hkf⟩
  · have e3 : (k == 3) = false := by simpa using hk3
    obtain ⟨A0, n0, c0, rfl, hn0⟩ : ∃ A0 n0 c0, v = .slice A0 n0 c0 ∧ n0 = out.length := by
      obtain ⟨A0, c0, h, -⟩ := own_some hC.own
      exact ⟨A0, _, c0, h, rfl⟩
    have c3 : w1.cell? ⟨g, 3, none⟩ = some (.slice A0 n0 c0) := hC.blk.cell 3
    replace hn0 := hid hn0
    have c44 : w1.cell? ⟨bb, 44, none⟩ = some (.bool x.pre) := hX.cell 44
    obtain ⟨q, hq⟩ : ∃ q, skips x k out = q := ⟨_, rfl⟩
    have HQ := hid hq
    have HP : Hid ((if q = true then out else out ++ [pieceF l x k s]) = PF) := hid (by rw [← HPF.out, ← hq]; unfold putF; rw [if_neg hk3])
    clear hq HPF
    go_upto_region 4 with fail
    obtain ⟨m0, hm0⟩ : ∃ m0, wrap64 ((n0 : Int) - 1) = m0 := ⟨_, rfl⟩
    rw [hm0]
    replace hm0 := hid hm0
    go_cut [20] (fun s20 wz => s20 = .bool q ∧ w1 = wz)
    case first =>
      by_cases h2 : k = 2
      · have e2 : (k == 2) = true := by simpa using h2
        cases hp : x.pre
        · rw [hp] at c44
          rcases list_snoc out with rfl | ⟨D, p, rfl⟩
          · have HZ : Hid (q = true) := hid (by rw [← HQ.out]; simp [skips, e2, hp, lastK])
            obtain rfl : n0 = 0 := hn0.out
            have hm1 : m0 = -1 := by
              have h := IntWalk.wrap64_in (((0 : Nat) : Int) - 1) (by omega)
              rw [hm0.out] at h
              rw [h]
              rfl
            clear hm0 h2
            subst hm1
            have w3' : decide ((-1 : Int) < 0) = true := by decide
            go_wp2_with fail
            go_meet
            exact ⟨by rw [HZ.out], rfl⟩
          · obtain ⟨b, cap, hv, hcap, hcm, ck, cp⟩ := pz_last hC
            injection hv with v1' v2' v3'
            subst v1' v2' v3'
            clear hn0
            have HZ : Hid ((p.kind != 1) = q) := hid (by rw [← HQ.out]; simp [skips, e2, hp, lastK_snoc])
            have hnn : D.length + 1 ≤ 100000 := by simpa using hn
            have e1' : ((D.length : Int) + 1 - 1) = (D.length : Int) := by omega
            have e4 : decide ((D.length : Int) < 0) = false := decide_eq_false (by omega)
            have e4' : ¬ (D.length : Int) < 0 := by omega
            have e5 : D.length < D.length + 1 := by omega
            have hm1 : m0 = (D.length : Int) := by
              have h := IntWalk.wrap64_in (((D.length + 1 : Nat) : Int) - 1) (by omega)
              rw [hm0.out] at h
              rw [h]
              omega
            clear hm0 h2 e1'
            subst hm1
            go_wp2_with fail
            go_meet
            exact ⟨by rw [HZ.out], rfl⟩
        · rw [hp] at c44
          have HZ : Hid (q = false) := hid (by rw [← HQ.out]; simp [skips, hp])
          clear h2
          go_wp2_with fail
          go_meet
          exact ⟨by rw [HZ.out], rfl⟩
      · have e2 : (k == 2) = false := by simpa using h2
        have HZ : Hid (q = false) := hid (by rw [← HQ.out]; simp [skips, h2])
        go_wp2_with fail
        go_meet
        exact ⟨by rw [HZ.out], rfl⟩
    case rest =>
    obtain ⟨rfl, rfl⟩ := hcut
    clear c44 HQ hm0
    cases q
    · replace HP : Hid (PF = out ++ [pieceF l x k s]) := hid (by simpa using HP.out.symm)
      obtain ⟨h1, ho, hadv, -⟩ := hC
      clear c3
      go_wp2_with fail
      have hS : ∀ Z : World, (Blk Z g 102 #[.int .i64 ew, .int .i64 eh, .slice A l.length c, (.slice A0 n0 c0)] ∧ Blk Z bb 64 x.arr ∧ Ints Z g A l ∧ CuKeep w1 Z g base) → (fun Z : World => (Blk Z g 102 #[.int .i64 ew, .int .i64 eh, .slice A l.length c, (.slice A0 n0 c0)] ∧ Blk Z bb 64 x.arr ∧ Ints Z g A l ∧ CuKeep w1 Z g base) ∧ Z.cell? ⟨g, 0, none⟩ = some (.int .i64 ew) ∧ Z.cell? ⟨g, 1, none⟩ = some (.int .i64 eh) ∧ Z.cell? ⟨g, 2, none⟩ = some (.slice A l.length c) ∧ Z.cell? ⟨g, 3, none⟩ = some ((.slice A0 n0 c0)) ∧ Z.cell? ⟨bb, 1, none⟩ = some (.int .i64 x.node) ∧ Z.cell? ⟨bb, 41, none⟩ = some (.int .i64 1024) ∧ Z.rangeAt bb 3 (stI x.pre).toList) Z := fun Z h => ⟨h, h.1.cell 0, h.1.cell 1, h.1.cell 2, h.1.cell 3, h.2.1.cell 1, h.2.1.cell 41, sti_mid h.2.1⟩
      go_upto_region 5 with fail
      refine wp_region_noPanic ?_
      refine Ord.region_Q (S := fun Z : World => (Blk Z g 102 #[.int .i64 ew, .int .i64 eh, .slice A l.length c, (.slice A0 n0 c0)] ∧ Blk Z bb 64 x.arr ∧ Ints Z g A l ∧ CuKeep w1 Z g base) ∧ Z.cell? ⟨g, 0, none⟩ = some (.int .i64 ew) ∧ Z.cell? ⟨g, 1, none⟩ = some (.int .i64 eh) ∧ Z.cell? ⟨g, 2, none⟩ = some (.slice A l.length c) ∧ Z.cell? ⟨g, 3, none⟩ = some ((.slice A0 n0 c0)) ∧ Z.cell? ⟨bb, 1, none⟩ = some (.int .i64 x.node) ∧ Z.cell? ⟨bb, 41, none⟩ = some (.int .i64 1024) ∧ Z.rangeAt bb 3 (stI x.pre).toList) 28 (.one 0 true (.one 1 true (.one 2 true (.one 3 true (.one 4 true (.one 5 true (.one 6 true (.one 7 true (.one 8 true (.one 9 true (.one 10 true (.one 11 true (.one 12 true (.one 13 true (.one 14 true (.one 15 true (.one 16 true (.one 18 true (.one 19 true (.one 21 true (.one 22 true (.one 17 false (.one 20 false (.one 23 true (.one 24 false (.one 25 false (.one 26 true (.one 27 true (.one 28 false .nil))))))))))))))))))))))))))))) (by kernel_rfl) (by kernel_rfl) (by kernel_rfl) (by decide) (fun _ _ _ _ _ h => h) (hS _ ⟨h1.drew, hX.drew, hadv.below ((Drawn.refl _).drew.below _), CuKeep.of_below ((Drawn.refl _).drew.below _)⟩) (fun hS0 => ?_)
      simp only [Ord.layT, List.getElem?_cons_zero, List.getElem?_cons_succ]
      (refine Ord.takeQ (v := ?_) (Or.inl ⟨rfl, ?_⟩) ?_; rotate_left; (intro w hSw; (try dsimp only at hSw); go_simp; try (with_reducible rfl)); (try simp only [Act.put, List.setIfInBounds_toArray, List.set_cons_zero, List.set_cons_succ]))
      (refine Ord.takeQ (v := ?_) (Or.inl ⟨rfl, ?_⟩) ?_; rotate_left; (intro w hSw; (try dsimp only at hSw); go_simp; try (with_reducible rfl)); (try simp only [Act.put, List.setIfInBounds_toArray, List.set_cons_zero, List.set_cons_succ]))
      (refine Ord.takeQ (v := ?_) (Or.inl ⟨rfl, ?_⟩) ?_; rotate_left; (intro w hSw; (try dsimp only at hSw); go_simp; try (with_reducible rfl)); (try simp only [Act.put, List.setIfInBounds_toArray, List.set_cons_zero, List.set_cons_succ]))
      (refine Ord.takeQ (v := ?_) (Or.inl ⟨rfl, ?_⟩) ?_; rotate_left; (intro w hSw; (try dsimp only at hSw); go_simp; try (with_reducible rfl)); (try simp only [Act.put, List.setIfInBounds_toArray, List.set_cons_zero, List.set_cons_succ]))
      (refine Ord.takeQ (v := ?_) (Or.inl ⟨rfl, ?_⟩) ?_; rotate_left; (intro w hSw; (try dsimp only at hSw); go_simp; try (with_reducible rfl)); (try simp only [Act.put, List.setIfInBounds_toArray, List.set_cons_zero, List.set_cons_succ]))
      (refine Ord.takeQ (v := ?_) (Or.inl ⟨rfl, ?_⟩) ?_; rotate_left; (intro w hSw; (try dsimp only at hSw); go_simp; try (with_reducible rfl)); (try simp only [Act.put, List.setIfInBounds_toArray, List.set_cons_zero, List.set_cons_succ]))
      (refine Ord.takeQ (v := ?_) (Or.inl ⟨rfl, ?_⟩) ?_; rotate_left; (intro w hSw; (try dsimp only at hSw); go_simp; try (with_reducible rfl)); (try simp only [Act.put, List.setIfInBounds_toArray, List.set_cons_zero, List.set_cons_succ]))
      (refine Ord.takeQ (v := ?_) (Or.inl ⟨rfl, ?_⟩) ?_; rotate_left; (intro w hSw; (try dsimp only at hSw); go_simp; try (with_reducible rfl)); (try simp only [Act.put, List.setIfInBounds_toArray, List.set_cons_zero, List.set_cons_succ]))
      (refine Ord.takeQ (v := ?_) (Or.inl ⟨rfl, ?_⟩) ?_; rotate_left; (intro w hSw; (try dsimp only at hSw); go_simp; try (with_reducible rfl)); (try simp only [Act.put, List.setIfInBounds_toArray, List.set_cons_zero, List.set_cons_succ]))
      (refine Ord.takeQ (v := ?_) (Or.inl ⟨rfl, ?_⟩) ?_; rotate_left; (intro w hSw; (try dsimp only at hSw); go_simp; try (with_reducible rfl)); (try simp only [Act.put, List.setIfInBounds_toArray, List.set_cons_zero, List.set_cons_succ]))
      (refine Ord.takeQ (v := ?_) (Or.inl ⟨rfl, ?_⟩) ?_; rotate_left; (intro w hSw; (try dsimp only at hSw); go_simp; try (with_reducible rfl)); (try simp only [Act.put, List.setIfInBounds_toArray, List.set_cons_zero, List.set_cons_succ]))
      (refine Ord.takeQ (v := ?_) (Or.inl ⟨rfl, ?_⟩) ?_; rotate_left; (intro w hSw; (try dsimp only at hSw); go_simp; try (with_reducible rfl)); (try simp only [Act.put, List.setIfInBounds_toArray, List.set_cons_zero, List.set_cons_succ]))
      (refine Ord.takeQ (v := ?_) (Or.inl ⟨rfl, ?_⟩) ?_; rotate_left; (intro w hSw; (try dsimp only at hSw); go_simp; try (with_reducible rfl)); (try simp only [Act.put, List.setIfInBounds_toArray, List.set_cons_zero, List.set_cons_succ]))
      (refine Ord.takeQ (v := ?_) (Or.inl ⟨rfl, ?_⟩) ?_; rotate_left; (intro w hSw; (try dsimp only at hSw); go_simp; try (with_reducible rfl)); (try simp only [Act.put, List.setIfInBounds_toArray, List.set_cons_zero, List.set_cons_succ]))
      (refine Ord.takeQ (v := ?_) (Or.inl ⟨rfl, ?_⟩) ?_; rotate_left; (intro w hSw; (try dsimp only at hSw); go_simp; try (with_reducible rfl)); (try simp only [Act.put, List.setIfInBounds_toArray, List.set_cons_zero, List.set_cons_succ]))
      (refine Ord.takeQ (v := ?_) (Or.inl ⟨rfl, ?_⟩) ?_; rotate_left; (intro w hSw; (try dsimp only at hSw); go_simp; try (with_reducible rfl)); (try simp only [Act.put, List.setIfInBounds_toArray, List.set_cons_zero, List.set_cons_succ]))
      (refine Ord.takeQ (v := ?_) (Or.inl ⟨rfl, ?_⟩) ?_; rotate_left; (intro w hSw; (try dsimp only at hSw); go_simp; try (with_reducible rfl)); (try simp only [Act.put, List.setIfInBounds_toArray, List.set_cons_zero, List.set_cons_succ]))
      (refine Ord.takeQ (v := ?_) (Or.inl ⟨rfl, ?_⟩) ?_; rotate_left; (intro w hSw; (try dsimp only at hSw); go_simp; try (with_reducible rfl)); (try simp only [Act.put, List.setIfInBounds_toArray, List.set_cons_zero, List.set_cons_succ]))
      (refine Ord.takeQ (yieldsIf_load_mid rfl _ _ rfl bb 3 rfl _ _ (fun w' h => h.2.2.2.2.2.2.2) Try.underlying43 rfl (info_sti_list _)) ?_; (try simp only [Act.put, List.setIfInBounds_toArray, List.set_cons_zero, List.set_cons_succ]))
      (refine Ord.takeQ (v := ?_) (Or.inl ⟨rfl, ?_⟩) ?_; rotate_left; (intro w hSw; (try dsimp only at hSw); go_simp; try (with_reducible rfl)); (try simp only [Act.put, List.setIfInBounds_toArray, List.set_cons_zero, List.set_cons_succ]))
      (refine Ord.takeQ (yieldsIf_load_mid rfl _ _ rfl bb 3 rfl _ _ (fun w' h => h.2.2.2.2.2.2.2) Try.underlying43 rfl (info_sti_list _)) ?_; (try simp only [Act.put, List.setIfInBounds_toArray, List.set_cons_zero, List.set_cons_succ]))
      refine Ord.aloneQ rfl rfl (fun K hK => ?_)
      go_simp
      refine (text_Width ew eh l A c s 1024 _ hl (hS0.1.2.2.1.more (Nat.le_of_lt hS0.1.1.lt))).mono ?_
      rintro e v1 ⟨rfl, hbq⟩
      have hS1 := hS v1 ⟨hS0.1.1.below hbq hS0.1.1.lt, hS0.1.2.1.below hbq hS0.1.2.1.lt, hS0.1.2.2.1.below (hbq.mono (Nat.le_of_lt hS0.1.1.lt)), hS0.1.2.2.2.on hbq⟩
      have ho1 := own_below (own_drew ho) hbq
      clear hbq
      go_wp2_with fail
      (try simp only [Act.put, List.setIfInBounds_toArray, List.set_cons_zero, List.set_cons_succ])
      refine hK.out _ _ (hS1) (fun _ => ?_)
      clear hK K
      refine Ord.aloneQ rfl rfl (fun K hK => ?_)
      go_simp
      refine (text_Height x.pre _).mono ?_
      rintro e v2 ⟨rfl, hbq⟩
      have hS2 := hS v2 ⟨hS1.1.1.below hbq hS1.1.1.lt, hS1.1.2.1.below hbq hS1.1.2.1.lt, hS1.1.2.2.1.below (hbq.mono (Nat.le_of_lt hS1.1.1.lt)), hS1.1.2.2.2.on hbq⟩
      have ho2 := own_below ho1 hbq
      clear hbq hS1 ho1
      go_wp2_with fail
      (try simp only [Act.put, List.setIfInBounds_toArray, List.set_cons_zero, List.set_cons_succ])
      refine hK.out _ _ (hS2) (fun _ => ?_)
      clear hK K
      (refine Ord.takeQ (v := .agg (pieceF l x k s).arr) (Or.inl ⟨rfl, fun w _ => by kernel_rfl⟩) ?_; (try simp only [Act.put, List.setIfInBounds_toArray, List.set_cons_zero, List.set_cons_succ]))
      refine Ord.aloneQ rfl rfl (fun K hK => ?_)
      refine wp_execT (v := .slice (some ⟨v2.heap.size, 0, none⟩) 1 1) (w' := v2.alloc (.cells (pieceF l x k s).arr 59)) (by kernel_rfl) ?_
      have hba : Below v2.heap.size v2 (v2.alloc (.cells (pieceF l x k s).arr 59)) := (Below.refl _ _).alloc (Nat.le_refl _) _
      have hS3 := hS (v2.alloc (.cells (pieceF l x k s).arr 59)) ⟨hS2.1.1.below hba hS2.1.1.lt, hS2.1.2.1.below hba hS2.1.2.1.lt, hS2.1.2.2.1.below (hba.mono (Nat.le_of_lt hS2.1.1.lt)), hS2.1.2.2.2.on hba⟩
      have hown := ho2.alloc (.cells (pieceF l x k s).arr 59)
      have hk3 := Blk.new v2 59 (pieceF l x k s).arr
      have hz2 := hS2.1.2.2.2.size
      clear hba hS2 ho2
      (try simp only [Act.put, List.setIfInBounds_toArray, List.set_cons_zero, List.set_cons_succ])
      refine hK.out _ _ (hS3) (fun _ => ?_)
      clear hK K
      refine Ord.aloneQ rfl rfl (fun K hK => ?_)
      refine wp_append_own _ _ _ 60 rfl base 59 i0 (.agg zeroP) 57 432 Try.underlying60 hi hz0 hz1 hzb rfl (by decide) ((.slice A0 n0 c0)) _ _ rfl hown ⟨v2.heap.size, 0, none⟩ 1 1 (pieceF l x k s).cells rfl rfl (news_at hk3 rfl) (fun u hu => (Array.all_eq_true_iff_forall_mem.1 (pz_one (pieceF l x k s))) u (by simpa [Pz.cells] using hu)) (by unfold maxLen; omega) (by omega) (by simp; omega) ?_
      intro u4 v4 ho4 hg4 _
      obtain ⟨A4, c4, rfl, -⟩ := own_some ho4
      have hbb4 := own_belowB hown hg4 (by simp; omega)
      have hS4 := hS v4 ⟨hS3.1.1.grown hown hg4 (by decide), hS3.1.2.1.grown hown hg4 (by decide), hS3.1.2.2.1.below (hbb4.mono (Nat.le_of_lt hgb)), hS3.1.2.2.2.trans (CuKeep.grown hown hg4 (by simp; omega))⟩
      clear hS3 hown hk3 hg4 hbb4
      (try simp only [Act.put, List.setIfInBounds_toArray, List.set_cons_zero, List.set_cons_succ])
      (try simp only [Act.put, List.setIfInBounds_toArray, List.set_cons_zero, List.set_cons_succ])
      refine hK.out _ _ (hS4) (fun _ => ?_)
      clear hK K
      (refine Ord.takeQ (v := ?_) (Or.inl ⟨rfl, ?_⟩) ?_; rotate_left; (intro w hSw; (try dsimp only at hSw); go_simp; try (with_reducible rfl)); (try simp only [Act.put, List.setIfInBounds_toArray, List.set_cons_zero, List.set_cons_succ]))
      (refine Ord.takeQ (v := ?_) (Or.inl ⟨rfl, ?_⟩) ?_; rotate_left; (intro w hSw; (try dsimp only at hSw); go_simp; try (with_reducible rfl)); (try simp only [Act.put, List.setIfInBounds_toArray, List.set_cons_zero, List.set_cons_succ]))
      refine Ord.lastQ rfl rfl (fun K hK => ?_)
      have fr : v4.frozen? ⟨g, 3, none⟩ = false := hS4.1.1.free 3
      have fc : v4.cell? ⟨g, 3, none⟩ = some ((.slice A0 n0 c0)) := hS4.1.1.cell 3
      go_simp
      (try simp only [Act.put, List.setIfInBounds_toArray, List.set_cons_zero, List.set_cons_succ])
      refine hK.out _ _ ?_
      clear hK K
      refine Ord.doneQ (NoPanic.normal ?_)
      have hcu : Cu (v4.setCell ⟨g, 3, none⟩ (.slice A4 ((out).length + 1) c4)) g base ew eh l A c (out ++ [(pieceF l x k s)]) (.slice A4 ((out).length + 1) c4) := by
        have h1 : Cu v4 g base ew eh l A c (out ++ [(pieceF l x k s)]) (.slice A4 ((out).length + 1) c4) → _ := fun h => h
        have ho5 : v4.ownsRow base 59 57 (.slice A4 ((out).length + 1) c4) (out ++ [(pieceF l x k s)]).length ((out ++ [(pieceF l x k s)]).flatMap Pz.cells) := by
          have := ho4
          rw [show (out ++ [(pieceF l x k s)]).length = (out).length + 1 by simp, List.flatMap_append]
          simpa using this
        exact ⟨hS4.1.1.put 3 _, own_keep ho5 (fun q hq _ => heap_setCell_other _ _ _ _ (by rintro rfl; exact own_not hS4.1.1 ho5 (by decide) hq.symm)), hS4.1.2.2.1.below ((Chg.setCell v4 ⟨g, 3, none⟩ _).below (Nat.le_refl _)), hgb⟩
      have hkf := hkp.trans (hS4.1.2.2.2.trans (CuKeep.set (i := 3) (u := .slice A4 ((out).length + 1) c4) hS4.1.1))
      clear hS hS0 hS4 ho4 fr fc
      go_wp2_with fail
      exact bodyPost_end (results_none rfl _ _ _) rfl ⟨rfl, ⟨_, by rw [HP.out]; exact hcu⟩, hkf⟩
    · replace HP : Hid (PF = out) := hid (by simpa using HP.out.symm)
      clear c3
      go_wp2_with fail
      first
        | exact bodyPost_end (results_none rfl _ _ _) rfl ⟨rfl, ⟨_, by rw [HP.out]; exact hC⟩, hkp⟩
        | exact bodyPost_ret (results_none rfl _ _ _) rfl ⟨rfl, ⟨_, by rw [HP.out]; exact hC⟩, hkp⟩
end Go.Proofs.Yteghacdpfhohoaa
