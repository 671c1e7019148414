/-
  BookCN at casement/text.Piece: printed off the text at int64 (gen_bookcn.py).
-/
import Derived.Test.YteghacdpfhohoaaBookG
import Derived.Test.YteghacdpfhohoaaSameP
namespace Go.Proofs.Yteghacdpfhohoaa
open Go.RowKit Num Mem Opn
set_option linter.unusedVariables false
set_option linter.unusedSimpArgs false
theorem info_blP : (Try.prog.info? 60).map (fun i => (i.zero, i.size, i.bytes)) = some (some (.slice none 0 0), 1, 24) := by kernel_rfl
theorem info_biP : (Try.prog.info? 59).map (fun i => (i.zero, i.size, i.bytes)) = some (some (.agg zeroP), 57, 432) := by kernel_rfl
set_option maxRecDepth 100000 in
set_option maxHeartbeats 8000000 in
theorem book_Keep_pq (g B S n : Nat) (v : Value) (X : List Pq) (w : World) (hn : n ≤ 3000) (hX : X.length ≤ 1000000) (hXo : ∀ x ∈ X, okP x) (hb : BookAt 56 60 59 57 Pq.cells okP w g B S n) (ho : w.ownsRow S 59 57 v X.length (X.flatMap Pq.cells)) :
    Calls Try.prog 30 #[.pointer (some ⟨g, 0, none⟩), v] w fun e w' =>
      e = .returned (.tuple #[]) ∧ BookAt 56 60 59 57 Pq.cells okP w' g B w.heap.size (n + 1) ∧ BookKeep 60 w w' g B := by
  obtain ⟨i1, hi1, hz1, hs1, hb1⟩ := info_parts info_blP
  obtain ⟨i2, hi2, hz2, hs2, hb2'⟩ := info_parts info_biP
  obtain ⟨Ls, v1, v2, held, hLn, hK⟩ := hb.ex
  obtain ⟨A2, m2, c2, rfl⟩ := hK.was.shape
  have hgB := hK.gB
  have hBS := hK.BS
  have hSw := hK.Sw
  obtain ⟨A, c, rfl, hXc⟩ := own_some ho
  have c0 : w.cell? ⟨g, 0, none⟩ = some v1 := hK.blk.cell 0
  go_enter Try.func30, Try.ntmps30
  have hl1 := hK.lists.alloc (.cells #[.slice A X.length c] 60)
  go_wp2_with (refine stop_append _ _ _ _ rfl ?_)
  refine ⟨?_⟩
  refine wpList_append_off _ rfl _ _ 54 rfl B 60 i1 (.slice none 0 0) 24 Try.underlying54 hi1 hz1 hs1 hb1 rfl v1 (Ls.map (·.v)) rfl hl1 ⟨w.heap.size, 0, none⟩ 1 (.slice A X.length c) rfl ((Blk.new w 60 #[.slice A X.length c]).cell 0) rfl rfl (by unfold maxLen; simp; omega) (by simp; omega) (by simp; omega) ?_
  intro v1' w1 ho1 hg1 hf1
  (try simp only [Act.put, List.setIfInBounds_toArray, List.set_cons_zero, List.set_cons_succ])
  have hba : Below w.heap.size w (w.alloc (.cells #[.slice A X.length c] 60)) := (Below.refl _ _).alloc (Nat.le_refl _) _
  have hKa := hK.below hba
  have kp1 : BookKeep 60 w w1 g B := (BookKeep.of_below hba (by omega)).trans (BookKeep.grown hl1 hg1 (by simp; omega))
  have hw2 : OffRow w1 B 60 (.slice A2 m2 c2) (Ls.map (·.was)) := hKa.was.grown hg1 hKa.ne.symm
  have hne1 : Two (.slice A2 m2 c2) v1' := hKa.was.fresh hf1 hKa.ne.symm
  have hg1b : Blk w1 g 56 #[v1, (.slice A2 m2 c2), .int .i64 held, .bool false] := (hg1.block g hKa.blk.lt (fun e => hl1.not hKa.blk (by decide) e.symm)).trans hKa.blk
  have hrows1 : ∀ t ∈ Ls, KeptAt 59 57 Pq.cells okP w1 B S t := fun t ht => (hK.rows t ht).map fun k hk hl cs hc => kp1.blk hc (by omega) (by decide)
  have hoX1 : w1.ownsRow S 59 57 (.slice A X.length c) X.length (X.flatMap Pq.cells) := own_map ho fun k hk hl cs hc => kp1.blk hc (by have := (ho.lt k hk).1; omega) (by decide)
  have hz1' := kp1.size
  have hgr := hK.lists.lt
  obtain ⟨A1, m1, c1, rfl⟩ := ho1.shape
  have x0 : w1.cell? ⟨g, 0, none⟩ = some v1 := hg1b.cell 0
  have f0 : w1.frozen? ⟨g, 0, none⟩ = false := hg1b.free 0
  have hap := hK.apart
  have hv1g : (Value.slice A1 m1 c1).ownBlock ≠ some g := ho1.not hg1b (by decide)
  have hv2g : (Value.slice A2 m2 c2).ownBlock ≠ some g := hw2.not hg1b (by decide)
  clear hba hKa hl1 hg1 hf1 hK c0
  go_upto_region 1 with fail
  have hb2 : Blk (w1.setCell ⟨g, 0, none⟩ (.slice A1 m1 c1)) g 56 #[(.slice A1 m1 c1), (.slice A2 m2 c2), .int .i64 held, .bool false] := hg1b.put 0 (.slice A1 m1 c1)
  have kp2 : BookKeep 60 w (w1.setCell ⟨g, 0, none⟩ (.slice A1 m1 c1)) g B := kp1.trans (BookKeep.set w1 g B 0 (.slice A1 m1 c1))
  have hL2 := ho1.far (p := ⟨g, 0, none⟩) hv1g (.slice A1 m1 c1)
  have hW2 := hw2.far (p := ⟨g, 0, none⟩) hv2g (.slice A1 m1 c1)
  have kq : BookKeep 60 w1 (w1.setCell ⟨g, 0, none⟩ (.slice A1 m1 c1)) g B := BookKeep.set w1 g B 0 _
  have hrows2 : ∀ t ∈ Ls, KeptAt 59 57 Pq.cells okP (w1.setCell ⟨g, 0, none⟩ (.slice A1 m1 c1)) B S t := fun t ht => (hrows1 t ht).map fun k hk hl cs hc => kq.blk hc (by omega) (by decide)
  have hoX2 : (w1.setCell ⟨g, 0, none⟩ (.slice A1 m1 c1)).ownsRow S 59 57 (.slice A X.length c) X.length (X.flatMap Pq.cells) := own_map hoX1 fun k hk hl cs hc => kq.blk hc (by have := (hoX1.lt k hk).1; omega) (by decide)
  clear kq hg1b hw2 ho1 hrows1 hoX1 kp1 x0 f0 hz1' hv1g hv2g
  generalize w1.setCell ⟨g, 0, none⟩ (.slice A1 m1 c1) = w2 at *
  have hz2' := kp2.size
  have hSQ : (fun Z : World => Z.cell? ⟨g, 1, none⟩ = some (.slice A2 m2 c2) ∧ Z.frozen? ⟨g, 1, none⟩ = false) w2.drew := ⟨hb2.cell 1, hb2.free 1⟩
  refine wp_region_noPanic ?_
  refine Ord.region_Q (S := fun Z : World => Z.cell? ⟨g, 1, none⟩ = some (.slice A2 m2 c2) ∧ Z.frozen? ⟨g, 1, none⟩ = false) 11 (.one 0 true (.one 1 true (.one 2 true (.one 3 true (.one 4 true (.one 5 true (.one 6 false (.one 7 false (.one 8 false (.one 9 true (.one 10 true (.one 11 false .nil)))))))))))) (by kernel_rfl) (by kernel_rfl) (by kernel_rfl) (by decide) (fun _ _ _ _ _ h => h) (hSQ) (fun hS0 => ?_)
  simp only [Ord.layT, List.getElem?_cons_zero, List.getElem?_cons_succ]
  (refine Ord.takeQ (v := ?_) (Or.inl ⟨rfl, ?_⟩) ?_; rotate_left; (intro w hSw; (try dsimp only at hSw); go_simp; try (with_reducible rfl)); (try simp only [Act.put, List.setIfInBounds_toArray, List.set_cons_zero, List.set_cons_succ]))
  (refine Ord.takeQ (v := ?_) (Or.inl ⟨rfl, ?_⟩) ?_; rotate_left; (intro w hSw; (try dsimp only at hSw); go_simp; try (with_reducible rfl)); (try simp only [Act.put, List.setIfInBounds_toArray, List.set_cons_zero, List.set_cons_succ]))
  (refine Ord.takeQ (v := ?_) (Or.inl ⟨rfl, ?_⟩) ?_; rotate_left; (intro w hSw; (try dsimp only at hSw); go_simp; try (with_reducible rfl)); (try simp only [Act.put, List.setIfInBounds_toArray, List.set_cons_zero, List.set_cons_succ]))
  (refine Ord.takeQ (v := ?_) (Or.inl ⟨rfl, ?_⟩) ?_; rotate_left; (intro w hSw; (try dsimp only at hSw); go_simp; try (with_reducible rfl)); (try simp only [Act.put, List.setIfInBounds_toArray, List.set_cons_zero, List.set_cons_succ]))
  (refine Ord.takeQ (v := ?_) (Or.inl ⟨rfl, ?_⟩) ?_; rotate_left; (intro w hSw; (try dsimp only at hSw); go_simp; try (with_reducible rfl)); (try simp only [Act.put, List.setIfInBounds_toArray, List.set_cons_zero, List.set_cons_succ]))
  (refine Ord.takeQ (v := ?_) (Or.inl ⟨rfl, ?_⟩) ?_; rotate_left; (intro w hSw; (try dsimp only at hSw); go_simp; try (with_reducible rfl)); (try simp only [Act.put, List.setIfInBounds_toArray, List.set_cons_zero, List.set_cons_succ]))
  refine Ord.aloneQ rfl rfl (fun K hK => ?_)
  refine wp_append_rowof _ _ _ 60 rfl B 59 i2 (.agg zeroP) 57 432 Try.underlying60 hi2 hz2 hs2 hb2' rfl (by decide) (.slice A X.length c) X.length S _ rfl rfl hoX2 (cells_one_pq X) (by unfold maxLen; omega) (by omega) (by simp; omega) ?_
  intro vq w3 hoq hgq
  obtain ⟨Aq, cq, rfl, hcq⟩ := own_some hoq
  have hb3 : Below w2.heap.size w2 w3 := ⟨hgq.os, hgq.tape, hgq.output, hgq.size, fun k hk => hgq.block k hk (by simp)⟩
  have hk3 := hb2.below hb3 hb2.lt
  have hz3 := hb3.size
  (try simp only [Act.put, List.setIfInBounds_toArray, List.set_cons_zero, List.set_cons_succ])
  refine hK.out _ _ (⟨hk3.cell 1, hk3.free 1⟩) (fun _ => ?_)
  clear hK K
  refine Ord.aloneQ rfl rfl (fun K hK => ?_)
  refine wp_execB (v := (.slice (some ⟨w3.heap.size, 0, none⟩) 1 1)) (w' := (w3.alloc (.cells #[.slice Aq X.length cq] 60))) (by kernel_rfl) ?_
  have hk4 := hk3.alloc (.cells #[.slice Aq X.length cq] 60)
  (try simp only [Act.put, List.setIfInBounds_toArray, List.set_cons_zero, List.set_cons_succ])
  refine hK.out _ _ (⟨hk4.cell 1, hk4.free 1⟩) (fun _ => ?_)
  clear hK K
  refine Ord.aloneQ rfl rfl (fun K hK => ?_)
  have hW4 := (hW2.below hb3).alloc (.cells #[.slice Aq X.length cq] 60)
  refine wp_append_off _ _ _ 54 rfl B 60 i1 (.slice none 0 0) 24 Try.underlying54 hi1 hz1 hs1 hb1 rfl (.slice A2 m2 c2) (Ls.map (·.was)) rfl hW4 ⟨w3.heap.size, 0, none⟩ 1 (.slice Aq X.length cq) rfl ((Blk.new w3 60 #[.slice Aq X.length cq]).cell 0) rfl rfl (by unfold maxLen; simp; omega) (by simp; omega) (by simp; omega) ?_
  intro v2' w4 ho4 hg4 hf4
  obtain ⟨A4, m4, c4, rfl⟩ := ho4.shape
  have hk5 : Blk w4 g 56 #[.slice A1 m1 c1, .slice A2 m2 c2, .int .i64 held, .bool false] := (hg4.block g hk4.lt (fun e => hW4.not hk4 (by decide) e.symm)).trans hk4
  have q1 := hk5.cell 1
  have q2 := hk5.free 1
  (try simp only [Act.put, List.setIfInBounds_toArray, List.set_cons_zero, List.set_cons_succ])
  refine hK.out _ _ (⟨hk5.cell 1, hk5.free 1⟩) (fun _ => ?_)
  clear hK K
  (refine Ord.takeQ (v := ?_) (Or.inl ⟨rfl, ?_⟩) ?_; rotate_left; (intro w hSw; (try dsimp only at hSw); go_simp; try (with_reducible rfl)); (try simp only [Act.put, List.setIfInBounds_toArray, List.set_cons_zero, List.set_cons_succ]))
  (refine Ord.takeQ (v := ?_) (Or.inl ⟨rfl, ?_⟩) ?_; rotate_left; (intro w hSw; (try dsimp only at hSw); go_simp; try (with_reducible rfl)); (try simp only [Act.put, List.setIfInBounds_toArray, List.set_cons_zero, List.set_cons_succ]))
  refine Ord.lastQ rfl rfl (fun K hK => ?_)
  go_simp
  (try simp only [Act.put, List.setIfInBounds_toArray, List.set_cons_zero, List.set_cons_succ])
  refine hK.out _ _ ?_
  clear hK K
  refine Ord.doneQ (NoPanic.normal ?_)
  clear hSQ
  -- the new list is in the book
  have kp34 : BookKeep 60 w3 w4 g B := (BookKeep.of_below ((Below.refl _ _).alloc (Nat.le_refl _) _) (by omega)).trans (BookKeep.grown hW4 hg4 (by simp; omega))
  have kp4 : BookKeep 60 w2 w4 g B := (BookKeep.of_below hb3 (by omega)).trans kp34
  have hq4 : w4.ownsRow B 59 57 (.slice Aq X.length cq) X.length (X.flatMap Pq.cells) := own_map hoq fun k hk hl cs hc => kp34.blk hc (by have := (hoq.lt k hk).1; omega) (by decide)
  have hx4 : w4.ownsRow B 59 57 (.slice A X.length c) X.length (X.flatMap Pq.cells) := own_map (own_base hoX2 hBS) fun k hk hl cs hc => kp4.blk hc (by have := (hoX2.lt k hk).1; omega) (by decide)
  have hL4 : OffRow w4 B 60 (.slice A1 m1 c1) (Ls.map (·.v) ++ [.slice A X.length c]) := ((hL2.below hb3).alloc _).grown hg4 hne1.symm
  have hne4 : Two (.slice A1 m1 c1) (.slice A4 m4 c4) := ((hL2.below hb3).alloc (.cells #[.slice Aq X.length cq] 60)).fresh hf4 hne1.symm
  have hr4 : ∀ t ∈ Ls, KeptAt 59 57 Pq.cells okP w4 B S t := fun t ht => (hrows2 t ht).map fun k hk hl cs hc => kp4.blk hc (by omega) (by decide)
  have kp := kp2.trans kp4
  have hzf : w.heap.size ≤ w4.heap.size := kp.size
  have hB4 : BookOf 56 60 59 57 Pq.cells okP (w4.setCell ⟨g, 1, none⟩ (.slice A4 m4 c4)) g B w.heap.size (Ls ++ [⟨.slice A X.length c, .slice Aq X.length cq, X⟩]) (.slice A1 m1 c1) (.slice A4 m4 c4) held := by
    have ks : BookKeep 60 w4 (w4.setCell ⟨g, 1, none⟩ (.slice A4 m4 c4)) g B := BookKeep.set w4 g B 1 _
    refine ⟨hk5.put 1 _, ?_, ?_, hne4, ?_, ?_, hgB, by omega, by simpa using hzf⟩
    · simpa using hL4.far (p := ⟨g, 1, none⟩) (hL4.not hk5 (by decide)) (.slice A4 m4 c4)
    · simpa using ho4.far (p := ⟨g, 1, none⟩) (ho4.not hk5 (by decide)) (.slice A4 m4 c4)
    · intro t ht
      rcases List.mem_append.1 ht with ht | ht
      · exact ((hr4 t ht).more hSw).map fun k hk hl cs hc => ks.blk hc (by omega) (by decide)
      · obtain rfl : t = ⟨.slice A X.length c, .slice Aq X.length cq, X⟩ := by simpa using ht
        refine ⟨?_, ?_, hX, hXo, fun k hk => (ho.lt k hk).2⟩
        · exact own_map hx4 fun k hk hl cs hc => ks.blk hc (by have := (hx4.lt k hk).1; omega) (by decide)
        · exact own_map hq4 fun k hk hl cs hc => ks.blk hc (by have := (hq4.lt k hk).1; omega) (by decide)
    · refine List.pairwise_append.2 ⟨hap, by simp, fun s hs t ht => ?_⟩
      obtain rfl : t = ⟨.slice A X.length c, .slice Aq X.length cq, X⟩ := by simpa using ht
      show Two s.v (.slice A X.length c)
      unfold Two
      by_cases h0 : s.v.ownBlock = none
      · exact .inl h0
      · obtain ⟨k, hk⟩ := Option.ne_none_iff_exists'.1 h0
        right
        rw [hk]
        intro e
        have e1 := (hr4 s hs).old k hk
        have e2 := (ho.lt k e.symm).1
        omega
  replace kp := kp.trans (BookKeep.set w4 g B 1 (.slice A4 m4 c4))
  clear kp34 kp4 hq4 hx4 hL4 hne4 hr4 hk5 q1 q2 ho4 hg4 hf4 hW4 hk4 hk3 hz3 hoq hgq hcq hb3 hL2 hW2 hrows2 hoX2 kp2 hb2 hzf hne1 hap hb hgr hz2'
  generalize w4.setCell ⟨g, 1, none⟩ (.slice A4 m4 c4) = w5 at *
  have hLn' : (Ls ++ [(⟨.slice A X.length c, .slice Aq X.length cq, X⟩ : Kept Pq)]).length ≤ n + 1 := by simp; omega
  generalize Ls ++ [(⟨.slice A X.length c, .slice Aq X.length cq, X⟩ : Kept Pq)] = L5 at *
  have x2 : w5.cell? ⟨g, 2, none⟩ = some (.int .i64 held) := hB4.blk.cell 2
  have f2 : w5.frozen? ⟨g, 2, none⟩ = false := hB4.blk.free 2
  clear ho
  go_wp2_with fail
  go_loopw [] (fun wr => ∃ (Ls' : List (Kept Pq)) (va vb : Value) (hd : Int), Ls'.length ≤ n + 1 ∧ BookOf 56 60 59 57 Pq.cells okP wr g B w.heap.size Ls' va vb hd ∧ BookKeep 60 w wr g B) (fun wr => match wr.cell? ⟨g, 0, none⟩ with | some (.slice _ m _) => m | _ => 0)
  case atStart =>
    refine ⟨L5, _, _, _, hLn', hB4.boxed (Ls' := L5) ((Boxed.refl g w5).set 2 _) (by simpa using hB4.blk.put 2 _) hB4.lists hB4.was hB4.ne (List.Sublist.refl _), kp.trans (BookKeep.set w5 g B 2 _)⟩
  case round =>
    clear hB4 kp x2 f2 hLn'
    obtain ⟨Ls', va, vb, hd, hn1, hBo, hkp⟩ := hrel
    obtain ⟨N, hN⟩ : ∃ N, Ls'.length = N := ⟨_, rfl⟩
    obtain ⟨Aa, ca, rfl, hca, hca2, hna, hsa⟩ := hBo.lists.segN (N := N) (by simpa using hN)
    obtain ⟨Ab, cb, rfl, hcb, hcb2, hnb, hsb⟩ := hBo.was.segN (N := N) (by simpa using hN)
    have x0 : wr.cell? ⟨g, 0, none⟩ = some (.slice Aa N ca) := hBo.blk.cell 0
    have x2 : wr.cell? ⟨g, 2, none⟩ = some (.int .i64 hd) := hBo.blk.cell 2
    have hNn : N ≤ 3001 := by omega
    have d3 : decide ((4000 : Int) < (N : Int)) = false := decide_eq_false (by omega)
    by_cases hlt : 1 < N
    · have d1 : decide ((1 : Int) < (N : Int)) = true := decide_eq_true (by omega)
      by_cases hh : 1000000 < hd
      · have d2 : decide ((1000000 : Int) < hd) = true := decide_eq_true hh
        cases Ls' with
        | nil => simp at hN; omega
        | cons t L2 =>
        obtain ⟨tv, tw, tr⟩ := t
        have hN2 : N = L2.length + 1 := by rw [← hN]; simp
        have hKt := hBo.rows _ (List.mem_cons_self ..)
        have hfew : tr.length ≤ 1000000 := hKt.few
        obtain ⟨At, ct, hvt, -⟩ := own_some hKt.list
        obtain ⟨Aw, cw, hwt, -⟩ := own_some hKt.copy
        simp only at hvt hwt
        subst hvt hwt
        have hIt := Recs.of_own pq_length (by decide) hKt.list
        have hIw := Recs.of_own pq_length (by decide) hKt.copy
        obtain ⟨g1, o1, rfl, -, hca1, ht1⟩ := hBo.lists.tail
        obtain ⟨g2, o2, rfl, -, hcb1, ht2⟩ := hBo.was.tail
        have y1 : wr.cell? ⟨g1, o1, none⟩ = some (.slice At tr.length ct) := by
          obtain ⟨b, off, e, _, hc⟩ := hsa (by simp)
          injection e with e
          injection e with e1 e2 _
          subst e1 e2
          simpa using hc 0 (by simp)
        have y2 : wr.cell? ⟨g2, o2, none⟩ = some (.slice Aw tr.length cw) := by
          obtain ⟨b, off, e, _, hc⟩ := hsb (by simp)
          injection e with e
          injection e with e1 e2 _
          subst e1 e2
          simpa using hc 0 (by simp)
        have hg1 : g1 ≠ g := by have := (hBo.lists.lt g1 rfl).1; omega
        have hg2 : g2 ≠ g := by have := (hBo.was.lt g2 rfl).1; omega
        have hN0 : 0 < N := by omega
        have h1N : 1 ≤ N := by omega
        have hSQ : (fun Z : World => Z.cell? ⟨g, 3, none⟩ = some (.bool false) ∧ Z.cell? ⟨g, 0, none⟩ = some (.slice (some ⟨g1, o1, none⟩) N ca) ∧ Z.cell? ⟨g1, o1, none⟩ = some (.slice At tr.length ct) ∧ Z.cell? ⟨g, 1, none⟩ = some (.slice (some ⟨g2, o2, none⟩) N cb) ∧ Z.cell? ⟨g2, o2, none⟩ = some (.slice Aw tr.length cw) ∧ Z.frozen? ⟨g, 3, none⟩ = false) wr.drew := ⟨hBo.blk.cell 3, x0, y1, hBo.blk.cell 1, y2, hBo.blk.free 3⟩
        have hSd : ∀ Z, Drawn wr.drew Z → (fun Z : World => Z.cell? ⟨g, 3, none⟩ = some (.bool false) ∧ Z.cell? ⟨g, 0, none⟩ = some (.slice (some ⟨g1, o1, none⟩) N ca) ∧ Z.cell? ⟨g1, o1, none⟩ = some (.slice At tr.length ct) ∧ Z.cell? ⟨g, 1, none⟩ = some (.slice (some ⟨g2, o2, none⟩) N cb) ∧ Z.cell? ⟨g2, o2, none⟩ = some (.slice Aw tr.length cw) ∧ Z.frozen? ⟨g, 3, none⟩ = false) Z := by
          rintro Z ⟨q, rfl⟩
          exact hSQ
        clear hna hnb hsa hsb
        go_upto_region 4 with fail
        refine wp_region_noPanic ?_
        refine Ord.region_Q (S := fun Z : World => Z.cell? ⟨g, 3, none⟩ = some (.bool false) ∧ Z.cell? ⟨g, 0, none⟩ = some (.slice (some ⟨g1, o1, none⟩) N ca) ∧ Z.cell? ⟨g1, o1, none⟩ = some (.slice At tr.length ct) ∧ Z.cell? ⟨g, 1, none⟩ = some (.slice (some ⟨g2, o2, none⟩) N cb) ∧ Z.cell? ⟨g2, o2, none⟩ = some (.slice Aw tr.length cw) ∧ Z.frozen? ⟨g, 3, none⟩ = false) 23 (.one 0 true (.one 1 true (.one 2 true (.one 3 true (.one 4 true (.one 5 true (.one 6 true (.one 7 true (.one 8 true (.one 9 true (.one 10 true (.one 11 true (.one 12 true (.one 13 true (.one 14 true (.one 15 true (.one 16 true (.one 17 true (.one 18 false (.one 19 true (.one 20 true (.one 21 true (.one 22 true (.one 23 false .nil)))))))))))))))))))))))) (by kernel_rfl) (by kernel_rfl) (by kernel_rfl) (by decide) (fun _ _ _ _ _ h => h) (hSQ) (fun hS0 => ?_)
        simp only [Ord.layT, List.getElem?_cons_zero, List.getElem?_cons_succ]
        (refine Ord.takeQ (v := ?_) (Or.inl ⟨rfl, ?_⟩) ?_; rotate_left; (intro w hSw; (try dsimp only at hSw); go_simp; try (with_reducible rfl)); (try simp only [Act.put, List.setIfInBounds_toArray, List.set_cons_zero, List.set_cons_succ]))
        (refine Ord.takeQ (v := ?_) (Or.inl ⟨rfl, ?_⟩) ?_; rotate_left; (intro w hSw; (try dsimp only at hSw); go_simp; try (with_reducible rfl)); (try simp only [Act.put, List.setIfInBounds_toArray, List.set_cons_zero, List.set_cons_succ]))
        (refine Ord.takeQ (v := ?_) (Or.inl ⟨rfl, ?_⟩) ?_; rotate_left; (intro w hSw; (try dsimp only at hSw); go_simp; try (with_reducible rfl)); (try simp only [Act.put, List.setIfInBounds_toArray, List.set_cons_zero, List.set_cons_succ]))
        (refine Ord.takeQ (v := ?_) (Or.inl ⟨rfl, ?_⟩) ?_; rotate_left; (intro w hSw; (try dsimp only at hSw); go_simp; try (with_reducible rfl)); (try simp only [Act.put, List.setIfInBounds_toArray, List.set_cons_zero, List.set_cons_succ]))
        (refine Ord.takeQ (v := ?_) (Or.inl ⟨rfl, ?_⟩) ?_; rotate_left; (intro w hSw; (try dsimp only at hSw); go_simp; try (with_reducible rfl)); (try simp only [Act.put, List.setIfInBounds_toArray, List.set_cons_zero, List.set_cons_succ]))
        (refine Ord.takeQ (v := ?_) (Or.inl ⟨rfl, ?_⟩) ?_; rotate_left; (intro w hSw; (try dsimp only at hSw); go_simp; try (with_reducible rfl)); (try simp only [Act.put, List.setIfInBounds_toArray, List.set_cons_zero, List.set_cons_succ]))
        (refine Ord.takeQ (v := ?_) (Or.inl ⟨rfl, ?_⟩) ?_; rotate_left; (intro w hSw; (try dsimp only at hSw); go_simp; try (with_reducible rfl)); (try simp only [Act.put, List.setIfInBounds_toArray, List.set_cons_zero, List.set_cons_succ]))
        (refine Ord.takeQ (v := ?_) (Or.inl ⟨rfl, ?_⟩) ?_; rotate_left; (intro w hSw; (try dsimp only at hSw); go_simp; try (with_reducible rfl)); (try simp only [Act.put, List.setIfInBounds_toArray, List.set_cons_zero, List.set_cons_succ]))
        (refine Ord.takeQ (v := ?_) (Or.inl ⟨rfl, ?_⟩) ?_; rotate_left; (intro w hSw; (try dsimp only at hSw); go_simp; try (with_reducible rfl)); (try simp only [Act.put, List.setIfInBounds_toArray, List.set_cons_zero, List.set_cons_succ]))
        (refine Ord.takeQ (v := ?_) (Or.inl ⟨rfl, ?_⟩) ?_; rotate_left; (intro w hSw; (try dsimp only at hSw); go_simp; try (with_reducible rfl)); (try simp only [Act.put, List.setIfInBounds_toArray, List.set_cons_zero, List.set_cons_succ]))
        (refine Ord.takeQ (v := ?_) (Or.inl ⟨rfl, ?_⟩) ?_; rotate_left; (intro w hSw; (try dsimp only at hSw); go_simp; try (with_reducible rfl)); (try simp only [Act.put, List.setIfInBounds_toArray, List.set_cons_zero, List.set_cons_succ]))
        (refine Ord.takeQ (v := ?_) (Or.inl ⟨rfl, ?_⟩) ?_; rotate_left; (intro w hSw; (try dsimp only at hSw); go_simp; try (with_reducible rfl)); (try simp only [Act.put, List.setIfInBounds_toArray, List.set_cons_zero, List.set_cons_succ]))
        (refine Ord.takeQ (v := ?_) (Or.inl ⟨rfl, ?_⟩) ?_; rotate_left; (intro w hSw; (try dsimp only at hSw); go_simp; try (with_reducible rfl)); (try simp only [Act.put, List.setIfInBounds_toArray, List.set_cons_zero, List.set_cons_succ]))
        (refine Ord.takeQ (v := ?_) (Or.inl ⟨rfl, ?_⟩) ?_; rotate_left; (intro w hSw; (try dsimp only at hSw); go_simp; try (with_reducible rfl)); (try simp only [Act.put, List.setIfInBounds_toArray, List.set_cons_zero, List.set_cons_succ]))
        (refine Ord.takeQ (v := ?_) (Or.inl ⟨rfl, ?_⟩) ?_; rotate_left; (intro w hSw; (try dsimp only at hSw); go_simp; try (with_reducible rfl)); (try simp only [Act.put, List.setIfInBounds_toArray, List.set_cons_zero, List.set_cons_succ]))
        (refine Ord.takeQ (v := ?_) (Or.inl ⟨rfl, ?_⟩) ?_; rotate_left; (intro w hSw; (try dsimp only at hSw); go_simp; try (with_reducible rfl)); (try simp only [Act.put, List.setIfInBounds_toArray, List.set_cons_zero, List.set_cons_succ]))
        (refine Ord.takeQ (v := ?_) (Or.inl ⟨rfl, ?_⟩) ?_; rotate_left; (intro w hSw; (try dsimp only at hSw); go_simp; try (with_reducible rfl)); (try simp only [Act.put, List.setIfInBounds_toArray, List.set_cons_zero, List.set_cons_succ]))
        (refine Ord.takeQ (v := ?_) (Or.inl ⟨rfl, ?_⟩) ?_; rotate_left; (intro w hSw; (try dsimp only at hSw); go_simp; try (with_reducible rfl)); (try simp only [Act.put, List.setIfInBounds_toArray, List.set_cons_zero, List.set_cons_succ]))
        refine Ord.aloneQ rfl rfl (fun K hK => ?_)
        go_simp
        refine (pq_Same tr At Aw ct cw wr.heap.size wr.heap.size wr.drew (by omega) hKt.ok hIt hIw).mono ?_
        rintro e w9 ⟨rfl, hd9⟩
        go_wp2_with fail
        (try simp only [Act.put, List.setIfInBounds_toArray, List.set_cons_zero, List.set_cons_succ])
        refine hK.out _ _ (hSd _ hd9) (fun _ => ?_)
        clear hK K
        (refine Ord.takeQ (v := ?_) (Or.inl ⟨rfl, ?_⟩) ?_; rotate_left; (intro w hSw; (try dsimp only at hSw); go_simp; try (with_reducible rfl)); (try simp only [Act.put, List.setIfInBounds_toArray, List.set_cons_zero, List.set_cons_succ]))
        (refine Ord.takeQ (v := ?_) (Or.inl ⟨rfl, ?_⟩) ?_; rotate_left; (intro w hSw; (try dsimp only at hSw); go_simp; try (with_reducible rfl)); (try simp only [Act.put, List.setIfInBounds_toArray, List.set_cons_zero, List.set_cons_succ]))
        (refine Ord.takeQ (v := ?_) (Or.inl ⟨rfl, ?_⟩) ?_; rotate_left; (intro w hSw; (try dsimp only at hSw); go_simp; try (with_reducible rfl)); (try simp only [Act.put, List.setIfInBounds_toArray, List.set_cons_zero, List.set_cons_succ]))
        (refine Ord.takeQ (v := ?_) (Or.inl ⟨rfl, ?_⟩) ?_; rotate_left; (intro w hSw; (try dsimp only at hSw); go_simp; try (with_reducible rfl)); (try simp only [Act.put, List.setIfInBounds_toArray, List.set_cons_zero, List.set_cons_succ]))
        refine Ord.lastQ rfl rfl (fun K hK => ?_)
        obtain ⟨q1, q2, q3, q4, q5, q6⟩ := hSd _ hd9
        go_simp
        (try simp only [Act.put, List.setIfInBounds_toArray, List.set_cons_zero, List.set_cons_succ])
        refine hK.out _ _ ?_
        clear hK K
        refine Ord.doneQ (NoPanic.normal ?_)
        clear hSQ hSd
        have hb4 : Blk (w9.setCell ⟨g, 3, none⟩ (.bool false)) g 56 #[.slice (some ⟨g1, o1, none⟩) N ca, .slice (some ⟨g2, o2, none⟩) N cb, .int .i64 hd, .bool false] := by
          simpa using (hBo.blk.drew.drawn hd9).put 3 (.bool false)
        have hx4 : Boxed g wr (w9.setCell ⟨g, 3, none⟩ (.bool false)) := (((Boxed.refl g wr).drew).drawn hd9).set 3 _
        generalize w9.setCell ⟨g, 3, none⟩ (.bool false) = wa at *
        clear hd9
        have z1 : wa.cell? ⟨g1, o1, none⟩ = some (.slice At tr.length ct) := (World.cell?_of_block (a := ⟨g1, o1, none⟩) (hx4.block g1 hg1)).trans y1
        have z0 : wa.cell? ⟨g, 0, none⟩ = some (.slice (some ⟨g1, o1, none⟩) N ca) := hb4.cell 0
        have z2 : wa.cell? ⟨g, 1, none⟩ = some (.slice (some ⟨g2, o2, none⟩) N cb) := hb4.cell 1
        have k0 : wa.frozen? ⟨g, 0, none⟩ = false := hb4.free 0
        have k1 : wa.frozen? ⟨g, 1, none⟩ = false := hb4.free 1
        have hSQ : (fun Z : World => Z.cell? ⟨g, 2, none⟩ = some (.int .i64 hd) ∧ Z.cell? ⟨g, 0, none⟩ = some (.slice (some ⟨g1, o1, none⟩) N ca) ∧ Z.cell? ⟨g1, o1, none⟩ = some (.slice At tr.length ct) ∧ Z.frozen? ⟨g, 2, none⟩ = false) wa.drew := ⟨hb4.cell 2, z0, z1, hb4.free 2⟩
        go_upto_region 5 with fail
        refine wp_region_noPanic ?_
        refine Ord.region_Q (S := fun Z : World => Z.cell? ⟨g, 2, none⟩ = some (.int .i64 hd) ∧ Z.cell? ⟨g, 0, none⟩ = some (.slice (some ⟨g1, o1, none⟩) N ca) ∧ Z.cell? ⟨g1, o1, none⟩ = some (.slice At tr.length ct) ∧ Z.frozen? ⟨g, 2, none⟩ = false) 16 (.one 0 true (.one 1 true (.one 2 true (.one 3 true (.one 4 true (.one 5 true (.one 6 true (.one 7 true (.one 8 true (.one 9 true (.one 10 true (.one 11 true (.one 12 true (.one 13 true (.one 14 true (.one 15 true (.one 16 false .nil))))))))))))))))) (by kernel_rfl) (by kernel_rfl) (by kernel_rfl) (by decide) (fun _ _ _ _ _ h => h) (hSQ) (fun hS0 => ?_)
        simp only [Ord.layT, List.getElem?_cons_zero, List.getElem?_cons_succ]
        (refine Ord.takeQ (v := ?_) (Or.inl ⟨rfl, ?_⟩) ?_; rotate_left; (intro w hSw; (try dsimp only at hSw); go_simp; try (with_reducible rfl)); (try simp only [Act.put, List.setIfInBounds_toArray, List.set_cons_zero, List.set_cons_succ]))
        (refine Ord.takeQ (v := ?_) (Or.inl ⟨rfl, ?_⟩) ?_; rotate_left; (intro w hSw; (try dsimp only at hSw); go_simp; try (with_reducible rfl)); (try simp only [Act.put, List.setIfInBounds_toArray, List.set_cons_zero, List.set_cons_succ]))
        (refine Ord.takeQ (v := ?_) (Or.inl ⟨rfl, ?_⟩) ?_; rotate_left; (intro w hSw; (try dsimp only at hSw); go_simp; try (with_reducible rfl)); (try simp only [Act.put, List.setIfInBounds_toArray, List.set_cons_zero, List.set_cons_succ]))
        (refine Ord.takeQ (v := ?_) (Or.inl ⟨rfl, ?_⟩) ?_; rotate_left; (intro w hSw; (try dsimp only at hSw); go_simp; try (with_reducible rfl)); (try simp only [Act.put, List.setIfInBounds_toArray, List.set_cons_zero, List.set_cons_succ]))
        (refine Ord.takeQ (v := ?_) (Or.inl ⟨rfl, ?_⟩) ?_; rotate_left; (intro w hSw; (try dsimp only at hSw); go_simp; try (with_reducible rfl)); (try simp only [Act.put, List.setIfInBounds_toArray, List.set_cons_zero, List.set_cons_succ]))
        (refine Ord.takeQ (v := ?_) (Or.inl ⟨rfl, ?_⟩) ?_; rotate_left; (intro w hSw; (try dsimp only at hSw); go_simp; try (with_reducible rfl)); (try simp only [Act.put, List.setIfInBounds_toArray, List.set_cons_zero, List.set_cons_succ]))
        (refine Ord.takeQ (v := ?_) (Or.inl ⟨rfl, ?_⟩) ?_; rotate_left; (intro w hSw; (try dsimp only at hSw); go_simp; try (with_reducible rfl)); (try simp only [Act.put, List.setIfInBounds_toArray, List.set_cons_zero, List.set_cons_succ]))
        (refine Ord.takeQ (v := ?_) (Or.inl ⟨rfl, ?_⟩) ?_; rotate_left; (intro w hSw; (try dsimp only at hSw); go_simp; try (with_reducible rfl)); (try simp only [Act.put, List.setIfInBounds_toArray, List.set_cons_zero, List.set_cons_succ]))
        (refine Ord.takeQ (v := ?_) (Or.inl ⟨rfl, ?_⟩) ?_; rotate_left; (intro w hSw; (try dsimp only at hSw); go_simp; try (with_reducible rfl)); (try simp only [Act.put, List.setIfInBounds_toArray, List.set_cons_zero, List.set_cons_succ]))
        (refine Ord.takeQ (v := ?_) (Or.inl ⟨rfl, ?_⟩) ?_; rotate_left; (intro w hSw; (try dsimp only at hSw); go_simp; try (with_reducible rfl)); (try simp only [Act.put, List.setIfInBounds_toArray, List.set_cons_zero, List.set_cons_succ]))
        (refine Ord.takeQ (v := ?_) (Or.inl ⟨rfl, ?_⟩) ?_; rotate_left; (intro w hSw; (try dsimp only at hSw); go_simp; try (with_reducible rfl)); (try simp only [Act.put, List.setIfInBounds_toArray, List.set_cons_zero, List.set_cons_succ]))
        (refine Ord.takeQ (v := ?_) (Or.inl ⟨rfl, ?_⟩) ?_; rotate_left; (intro w hSw; (try dsimp only at hSw); go_simp; try (with_reducible rfl)); (try simp only [Act.put, List.setIfInBounds_toArray, List.set_cons_zero, List.set_cons_succ]))
        (refine Ord.takeQ (v := ?_) (Or.inl ⟨rfl, ?_⟩) ?_; rotate_left; (intro w hSw; (try dsimp only at hSw); go_simp; try (with_reducible rfl)); (try simp only [Act.put, List.setIfInBounds_toArray, List.set_cons_zero, List.set_cons_succ]))
        (refine Ord.takeQ (v := ?_) (Or.inl ⟨rfl, ?_⟩) ?_; rotate_left; (intro w hSw; (try dsimp only at hSw); go_simp; try (with_reducible rfl)); (try simp only [Act.put, List.setIfInBounds_toArray, List.set_cons_zero, List.set_cons_succ]))
        (refine Ord.takeQ (v := ?_) (Or.inl ⟨rfl, ?_⟩) ?_; rotate_left; (intro w hSw; (try dsimp only at hSw); go_simp; try (with_reducible rfl)); (try simp only [Act.put, List.setIfInBounds_toArray, List.set_cons_zero, List.set_cons_succ]))
        (refine Ord.takeQ (v := ?_) (Or.inl ⟨rfl, ?_⟩) ?_; rotate_left; (intro w hSw; (try dsimp only at hSw); go_simp; try (with_reducible rfl)); (try simp only [Act.put, List.setIfInBounds_toArray, List.set_cons_zero, List.set_cons_succ]))
        refine Ord.lastQ rfl rfl (fun K hK => ?_)
        obtain ⟨q1, q2, q3, q4⟩ := hSQ
        go_simp
        (try simp only [Act.put, List.setIfInBounds_toArray, List.set_cons_zero, List.set_cons_succ])
        refine hK.out _ _ ?_
        clear hK K
        refine Ord.doneQ (NoPanic.normal ?_)
        have hbf := ((hb4.put 2 (.int .i64 (wrap64 (wrap64 (hd - (ct : Int)) - 1)))).put 0 (.slice (some ⟨g1, o1 + 1, none⟩) L2.length (ca - 1))).put 1 (.slice (some ⟨g2, o2 + 1, none⟩) L2.length (cb - 1))
        have hxf : Boxed g wr ((((wa.setCell ⟨g, 2, none⟩ (.int .i64 (wrap64 (wrap64 (hd - (ct : Int)) - 1)))).setCell ⟨g, 0, none⟩ (.slice (some ⟨g1, o1 + 1, none⟩) L2.length (ca - 1))).setCell ⟨g, 1, none⟩ (.slice (some ⟨g2, o2 + 1, none⟩) L2.length (cb - 1))).drew) := (((hx4.set 2 _).set 0 _).set 1 _).drew
        have hl2 : L2.length ≤ n + 1 := by simp at hn1; omega
        have hne2 : Two (.slice (some ⟨g1, o1 + 1, none⟩) L2.length (ca - 1)) (.slice (some ⟨g2, o2 + 1, none⟩) L2.length (cb - 1)) := by simpa [Two, Value.ownBlock] using hBo.ne
        rw [List.length_map] at ht1 ht2
        have hBf := hBo.boxed (Ls' := L2) hxf (by simpa using hbf.drew) ht1 ht2 hne2 (List.sublist_cons_self ..)
        clear hb4 hx4 ht1 ht2 hne2 hKt hIt hIw y1 y2
        go_wp2_with fail
        refine ⟨⟨L2, _, _, _, hl2, hBf, hkp.trans hxf.keep⟩, ?_⟩
        rw [hBf.blk.cell 0, x0]
        show L2.length < N
        omega
      · have d2 : decide ((1000000 : Int) < hd) = false := decide_eq_false hh
        go_wp2_with fail
        exact bodyPost_end (results_none rfl _ _ _) rfl ⟨rfl, ⟨Ls', _, _, hd, hn1, hBo⟩, hkp⟩
    · have d1 : decide ((1 : Int) < (N : Int)) = false := decide_eq_false (by omega)
      go_wp2_with fail
      exact bodyPost_end (results_none rfl _ _ _) rfl ⟨rfl, ⟨Ls', _, _, hd, hn1, hBo⟩, hkp⟩
end Go.Proofs.Yteghacdpfhohoaa
