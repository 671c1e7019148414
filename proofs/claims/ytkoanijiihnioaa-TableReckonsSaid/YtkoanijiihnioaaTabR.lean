/-
  The walks of casementref19: up, Columns, Rows.
-/
import Derived.Test.YtkoanijiihnioaaTabE
import Derived.Test.YtkoanijiihnioaaFresh
import Derived.Test.YtkoanijiihnioaaShareRef
import Derived.Deep.CutBlock
namespace Go.Proofs.Ytkoanijiihnioaa
open Go.RowKit Num Mem Opn
set_option linter.unusedVariables false
set_option linter.unusedSimpArgs false
theorem ref19_up (n : Int) (w : World) : Calls Try.prog 62 #[.int .i64 n] w fun e w' => e = .returned (.int .i64 (max n 0)) ∧ w = w' := by
  by_cases h : n < 0
  · have HZ : Hid (max n 0 = 0) := hid (by omega)
    have d1 : decide (n < 0) = true := decide_eq_true h
    go_enter Try.func62, Try.ntmps62
    go_wp2_with fail
    go_ret
    exact ⟨ret_int HZ.out.symm, rfl⟩
  · have HZ : Hid (max n 0 = n) := hid (by omega)
    have d1 : decide (n < 0) = false := decide_eq_false h
    go_enter Try.func62, Try.ntmps62
    go_wp2_with fail
    go_ret
    exact ⟨ret_int HZ.out.symm, rfl⟩
theorem info_rneed2 : (Try.prog.info? 73).map (fun i => (i.zero, i.size, i.bytes)) = some (some (.agg #[.int .i64 0, .int .i64 0]), 2, 16) := info_rneed
set_option maxRecDepth 100000 in
set_option maxHeartbeats 8000000 in
theorem ref19_Columns (ls : List (List Nd)) (vs : List Value) (A : Option Addr) (c : Nat) (w : World) (hl : ls.length ≤ 4611686018427387904) (hA : Rows2 w w.heap.size A 2 Nd.cells vs ls) (hw : ∀ r ∈ ls, r.length ≤ 1000 ∧ ∀ x ∈ r, sat x.least = x.least ∧ sat x.most = x.most) :
    Calls Try.prog 39 #[.slice A ls.length c] w fun e w' => ∃ v, e = .returned v ∧ Below w.heap.size w w' ∧ w'.ownsRow w.heap.size 73 2 v (cols ls).length ((cols ls).flatMap Nd.cells) := by
  obtain ⟨i1, hi1, hz1, hs1, hb1⟩ := info_parts info_rneed2
  obtain ⟨T, hT⟩ : ∃ T, mrows [] ls = T := ⟨_, rfl⟩
  have HT := hid hT
  have hTC : cols ls = T.map fin := by rw [← hT]; rfl
  rw [hTC]
  clear hT hTC
  replace hw := hid hw
  go_enter Try.func39, Try.ntmps39
  go_wp2_with fail
  go_loopw [3, 4] (fun s3 s4 wr => ∃ (k : Nat) (D : List Nd), k ≤ ls.length ∧ s4 = .int .i64 k ∧ D.length ≤ 1000 ∧ Hid (mrows D (ls.drop k) = T) ∧ wr.ownsRow w.heap.size 73 2 s3 D.length (D.flatMap Nd.cells) ∧ Below w.heap.size w wr) (fun _ i _ => ls.length - (intOf i).toNat)
  case atStart => exact ⟨0, [], Nat.zero_le _, rfl, by simp, HT, own_nil _ _ _ _, Below.refl _ _⟩
  case round =>
    obtain ⟨k, D, hk, rfl, hDl, HD, ho, hB⟩ := hrel
    by_cases hlt : k < ls.length
    · obtain ⟨b, off, A', c', r, rfl, hb, HR, cr, hrc, hRr⟩ := Rows2.at_ hA hlt
      obtain ⟨hrl, hrs⟩ := hw.out r (List.mem_of_getElem? HR.out)
      have HD2 : Hid (mrows (mrow 0 D r) (ls.drop (k + 1)) = T) := hid (by rw [← HD.out, drop_more HR.out]; rfl)
      obtain ⟨M, hM⟩ : ∃ M, mrow 0 D r = M := ⟨_, rfl⟩
      rw [hM] at HD2
      have HM := hid hM
      have hML : M.length ≤ 1000 := by rw [← hM, mrow_length (Nat.zero_le _)]; omega
      have hcr : ∀ Z, Below w.heap.size w Z → Z.cell? ⟨b, off + k, none⟩ = some (.slice A' r.length c') := fun Z h => (h.cell (p := ⟨b, off + k, none⟩) hb).trans cr
      replace hrs := hid hrs
      clear hM HD cr
      go_wp2_with fail
      go_loopw [3, 5] (fun s3 s5 wr => ∃ (j : Nat) (E : List Nd), j ≤ r.length ∧ s5 = .int .i64 j ∧ j ≤ E.length ∧ E.length ≤ 1000 ∧ Hid (mrow j E (r.drop j) = M) ∧ wr.ownsRow w.heap.size 73 2 s3 E.length (E.flatMap Nd.cells) ∧ Below w.heap.size w wr) (fun _ i _ => r.length - (intOf i).toNat)
      case atStart => exact ⟨0, D, Nat.zero_le _, rfl, Nat.zero_le _, hDl, HM, ho, hB⟩
      case round =>
        clear ho hB hDl
        obtain ⟨j, E, hj, rfl, hjE, hEl, HE, ho, hB⟩ := hrel
        have hz := hB.size
        obtain ⟨A3, c3, rfl, hc3⟩ := own_some ho
        have cr := hcr wr hB
        by_cases hlt2 : j < r.length
        · obtain ⟨bi, oi, x, rfl, hbi, HX, -⟩ := hRr.at_ hlt2
          have hxs := hrs.out x (List.mem_of_getElem? HX.out)
          have hxx : ∀ Z, Below w.heap.size w Z → Z.cell? ⟨bi, oi + j * 2, none⟩ = some (.int .i64 x.least) ∧ Z.cell? ⟨bi, oi + j * 2 + 1, none⟩ = some (.int .i64 x.most) := fun Z h => need_at (hRr.below h) HX.out
          have HE2 : Hid (mrow (j + 1) (put1 E j x) (r.drop (j + 1)) = M) := hid (by rw [← HE.out, drop_more HX.out]; rfl)
          clear HE
          obtain ⟨qb, hqb⟩ : ∃ qb, (j == E.length) = qb := ⟨_, rfl⟩
          have hqb' : ((j : Int) == (E.length : Int)) = qb := by rw [← hqb, Bool.eq_iff_iff, beq_iff_eq, beq_iff_eq]; omega
          go_upto_if 25 with fail
          go_cut [3] (fun s3 wx => ∃ v, v = s3 ∧ wx.ownsRow w.heap.size 73 2 v (ext E j).length ((ext E j).flatMap Nd.cells) ∧ Below w.heap.size w wx)
          case first =>
            by_cases hjl : j = E.length
            · have HXT : Hid (ext E j = E ++ [nd0]) := hid (by unfold ext; rw [if_pos hjl])
              have hqt : qb = true := by rw [← hqb]; simpa using hjl
              subst hqt
              have hown := ho.alloc (.cells #[.int .i64 0, .int .i64 0] 73)
              have hba : Below w.heap.size w (wr.alloc (.cells #[.int .i64 0, .int .i64 0] 73)) := hB.alloc hz _
              replace hjl := hid hjl
              go_wp2_with (refine stop_append _ _ _ _ rfl ?_)
              refine ⟨?_⟩
              refine wpList_append_own _ rfl _ _ 71 rfl w.heap.size 73 i1 (.agg #[.int .i64 0, .int .i64 0]) 2 16 Try.underlying71 hi1 hz1 hs1 hb1 rfl (by decide) (.slice A3 E.length c3) _ _ rfl hown ⟨wr.heap.size, 0, none⟩ 1 1 [.int .i64 0, .int .i64 0] rfl rfl (news19 (Blk.new wr 73 #[.int .i64 0, .int .i64 0]) rfl) (by simp [Value.oneCell']) (by unfold maxLen; omega) (by omega) (by simp; omega) ?_
              intro v4 w4 ho4 hg4 _
              (try simp only [Act.put, List.setIfInBounds_toArray, List.set_cons_zero, List.set_cons_succ])
              have ho5 : w4.ownsRow w.heap.size 73 2 v4 (ext E j).length ((ext E j).flatMap Nd.cells) := by
                rw [HXT.out]
                simpa [Nd.cells, nd0] using ho4
              have hB4 := hba.trans (own_belowB hown hg4 (by simp; omega))
              clear hown hba hg4 ho4 ho hB
              go_wp2_with fail
              go_meet
              exact ⟨_, rfl, ho5, hB4⟩
            · have HXT : Hid (ext E j = E) := hid (by unfold ext; rw [if_neg hjl])
              have hqt : qb = false := by rw [← hqb]; simpa using hjl
              subst hqt
              go_wp2_with fail
              go_meet
              exact ⟨_, rfl, by rw [HXT.out]; exact ho, hB⟩
          case rest =>
          clear ho hB hqb hqb' cr
          obtain ⟨v, hvs, ho, hB⟩ := hcut
          have hxl := ext_length hjE
          have hpl := put1_length (n := x) hjE
          have HPX := hid (put1_ext (n := x) hjE)
          obtain ⟨g, cap, rfl, hbg, hnc, hgl⟩ := own_block ho (by omega)
          subst hvs
          generalize ext E j = X at *
          obtain ⟨f1, f2⟩ := flat_at hxl
          obtain ⟨o, hoe⟩ : ∃ o, X.getD j nd0 = o := ⟨_, rfl⟩
          rw [hoe] at f1 f2 HPX
          have c0 : wc.cell? ⟨g, j * 2, none⟩ = some (.int .i64 o.least) := (ho.cellAt (j * 2) (by omega)).trans f1
          have z0 := ho.frozenAt (j * 2)
          have HFX : Hid ((put1 E j x).flatMap Nd.cells = ((X.flatMap Nd.cells).set (j * 2) (.int .i64 (max o.least x.least))).set (j * 2 + 1) (.int .i64 (max o.most x.most))) := hid (by rw [HPX.out, flat_set2 X hxl, merge, hxs.1, hxs.2])
          have HXL : Hid ((put1 E j x).length = X.length) := hid (by rw [HPX.out, List.length_set])
          replace hpl := hid hpl
          have hSQ : (fun Z : World => Z.cell? ⟨b, off + k, none⟩ = some (.slice (some ⟨bi, oi, none⟩) r.length c') ∧ Z.cell? ⟨bi, oi + j * 2, none⟩ = some (.int .i64 x.least) ∧ Z.cell? ⟨g, j * 2, none⟩ = some (.int .i64 o.least)) wc.drew := ⟨hcr _ hB.drew, (hxx _ hB.drew).1, c0⟩
          clear hoe
          go_upto_region 10 with fail
          refine wp_region_noPanic ?_
          refine Ord.region_Q (S := fun Z : World => Z.cell? ⟨b, off + k, none⟩ = some (.slice (some ⟨bi, oi, none⟩) r.length c') ∧ Z.cell? ⟨bi, oi + j * 2, none⟩ = some (.int .i64 x.least) ∧ Z.cell? ⟨g, j * 2, none⟩ = some (.int .i64 o.least)) 999 (.one 0 true (.one 1 true (.one 2 true (.one 3 true (.one 4 true (.one 5 true (.one 6 true (.one 7 true (.one 8 true (.one 9 true (.one 10 true (.one 11 true (.one 12 true (.one 13 true .nil)))))))))))))) (by kernel_rfl) (by kernel_rfl) (by kernel_rfl) (by decide) (fun _ _ _ _ _ h => h) (hSQ) (fun hS0 => ?_)
          simp only [Ord.layT, List.getElem?_cons_zero, List.getElem?_cons_succ]
          (refine Ord.takeQ (v := ?_) (Or.inl ⟨rfl, ?_⟩) ?_; rotate_left; (intro w hSw; (try dsimp only at hSw); go_simp; try (with_reducible rfl)); (try simp only [Act.put, List.setIfInBounds_toArray, List.set_cons_zero, List.set_cons_succ]))
          (refine Ord.takeQ (v := ?_) (Or.inl ⟨rfl, ?_⟩) ?_; rotate_left; (intro w hSw; (try dsimp only at hSw); go_simp; try (with_reducible rfl)); (try simp only [Act.put, List.setIfInBounds_toArray, List.set_cons_zero, List.set_cons_succ]))
          (refine Ord.takeQ (v := ?_) (Or.inl ⟨rfl, ?_⟩) ?_; rotate_left; (intro w hSw; (try dsimp only at hSw); go_simp; try (with_reducible rfl)); (try simp only [Act.put, List.setIfInBounds_toArray, List.set_cons_zero, List.set_cons_succ]))
          (refine Ord.takeQ (v := ?_) (Or.inl ⟨rfl, ?_⟩) ?_; rotate_left; (intro w hSw; (try dsimp only at hSw); go_simp; try (with_reducible rfl)); (try simp only [Act.put, List.setIfInBounds_toArray, List.set_cons_zero, List.set_cons_succ]))
          (refine Ord.takeQ (v := ?_) (Or.inl ⟨rfl, ?_⟩) ?_; rotate_left; (intro w hSw; (try dsimp only at hSw); go_simp; try (with_reducible rfl)); (try simp only [Act.put, List.setIfInBounds_toArray, List.set_cons_zero, List.set_cons_succ]))
          (refine Ord.takeQ (v := ?_) (Or.inl ⟨rfl, ?_⟩) ?_; rotate_left; (intro w hSw; (try dsimp only at hSw); go_simp; try (with_reducible rfl)); (try simp only [Act.put, List.setIfInBounds_toArray, List.set_cons_zero, List.set_cons_succ]))
          (refine Ord.takeQ (v := ?_) (Or.inl ⟨rfl, ?_⟩) ?_; rotate_left; (intro w hSw; (try dsimp only at hSw); go_simp; try (with_reducible rfl)); (try simp only [Act.put, List.setIfInBounds_toArray, List.set_cons_zero, List.set_cons_succ]))
          (refine Ord.takeQ (v := ?_) (Or.inl ⟨rfl, ?_⟩) ?_; rotate_left; (intro w hSw; (try dsimp only at hSw); go_simp; try (with_reducible rfl)); (try simp only [Act.put, List.setIfInBounds_toArray, List.set_cons_zero, List.set_cons_succ]))
          (refine Ord.takeQ (v := ?_) (Or.inl ⟨rfl, ?_⟩) ?_; rotate_left; (intro w hSw; (try dsimp only at hSw); go_simp; try (with_reducible rfl)); (try simp only [Act.put, List.setIfInBounds_toArray, List.set_cons_zero, List.set_cons_succ]))
          (refine Ord.takeQ (v := ?_) (Or.inl ⟨rfl, ?_⟩) ?_; rotate_left; (intro w hSw; (try dsimp only at hSw); go_simp; try (with_reducible rfl)); (try simp only [Act.put, List.setIfInBounds_toArray, List.set_cons_zero, List.set_cons_succ]))
          (refine Ord.takeQ (v := ?_) (Or.inl ⟨rfl, ?_⟩) ?_; rotate_left; (intro w hSw; (try dsimp only at hSw); go_simp; try (with_reducible rfl)); (try simp only [Act.put, List.setIfInBounds_toArray, List.set_cons_zero, List.set_cons_succ]))
          (refine Ord.takeQ (v := ?_) (Or.inl ⟨rfl, ?_⟩) ?_; rotate_left; (intro w hSw; (try dsimp only at hSw); go_simp; try (with_reducible rfl)); (try simp only [Act.put, List.setIfInBounds_toArray, List.set_cons_zero, List.set_cons_succ]))
          (refine Ord.takeQ (v := ?_) (Or.inl ⟨rfl, ?_⟩) ?_; rotate_left; (intro w hSw; (try dsimp only at hSw); go_simp; try (with_reducible rfl)); (try simp only [Act.put, List.setIfInBounds_toArray, List.set_cons_zero, List.set_cons_succ]))
          (refine Ord.takeQ (v := ?_) (Or.inl ⟨rfl, ?_⟩) ?_; rotate_left; (intro w hSw; (try dsimp only at hSw); go_simp; try (with_reducible rfl)); (try simp only [Act.put, List.setIfInBounds_toArray, List.set_cons_zero, List.set_cons_succ]))
          refine Ord.doneQ (NoPanic.normal ?_)
          clear hSQ
          have hod := own_drew ho
          have hBd := hB.drew
          have c0' : wc.drew.cell? ⟨g, j * 2, none⟩ = some (.int .i64 o.least) := c0
          have z0' : wc.drew.frozen? ⟨g, j * 2, none⟩ = false := z0
          have cr' := hcr _ hBd
          have x0' := (hxx _ hBd).1
          clear c0 z0 ho hB
          go_upto_if 43 with fail
          go_cut [] (fun wx => wx.ownsRow w.heap.size 73 2 (.slice (some ⟨g, 0, none⟩) X.length cap) X.length ((X.flatMap Nd.cells).set (j * 2) (.int .i64 (max o.least x.least))) ∧ Below w.heap.size w wx)
          case first =>
            by_cases hc : o.least < x.least
            · have d1 : decide (o.least < x.least) = true := decide_eq_true hc
              have hm : Hid (max o.least x.least = x.least) := hid (by omega)
              have hst := hod.stored (j * 2) (.int .i64 x.least)
              have hB3 := hBd.setCell (p := ⟨g, j * 2, none⟩) hbg (.int .i64 x.least)
              go_wp2_with fail
              go_meet
              exact ⟨by rw [hm.out]; exact hst.1, hB3⟩
            · have d1 : decide (o.least < x.least) = false := decide_eq_false hc
              have hm : Hid (max o.least x.least = o.least) := hid (by omega)
              go_wp2_with fail
              go_meet
              exact ⟨by rw [hm.out, set_same f1]; exact hod, hBd⟩
          case rest =>
          clear hod hBd c0' z0' cr' x0'
          obtain ⟨ho, hB⟩ := hcut
          obtain ⟨wd, rfl⟩ : ∃ wd : World, wd = wc := ⟨_, rfl⟩
          have f3 : ((X.flatMap Nd.cells).set (j * 2) (.int .i64 (max o.least x.least)))[j * 2 + 1]? = some (.int .i64 o.most) := by
            rw [List.getElem?_set_ne (by omega)]
            exact f2
          have c1 : wd.cell? ⟨g, j * 2 + 1, none⟩ = some (.int .i64 o.most) := (ho.cellAt (j * 2 + 1) (by omega)).trans f3
          have z1 := ho.frozenAt (j * 2 + 1)
          have hSQ : (fun Z : World => Z.cell? ⟨b, off + k, none⟩ = some (.slice (some ⟨bi, oi, none⟩) r.length c') ∧ Z.cell? ⟨bi, oi + j * 2 + 1, none⟩ = some (.int .i64 x.most) ∧ Z.cell? ⟨g, j * 2 + 1, none⟩ = some (.int .i64 o.most)) wd.drew := ⟨hcr _ hB.drew, (hxx _ hB.drew).2, c1⟩
          go_upto_region 12 with fail
          refine wp_region_noPanic ?_
          refine Ord.region_Q (S := fun Z : World => Z.cell? ⟨b, off + k, none⟩ = some (.slice (some ⟨bi, oi, none⟩) r.length c') ∧ Z.cell? ⟨bi, oi + j * 2 + 1, none⟩ = some (.int .i64 x.most) ∧ Z.cell? ⟨g, j * 2 + 1, none⟩ = some (.int .i64 o.most)) 999 (.one 0 true (.one 1 true (.one 2 true (.one 3 true (.one 4 true (.one 5 true (.one 6 true (.one 7 true (.one 8 true (.one 9 true (.one 10 true (.one 11 true (.one 12 true (.one 13 true .nil)))))))))))))) (by kernel_rfl) (by kernel_rfl) (by kernel_rfl) (by decide) (fun _ _ _ _ _ h => h) (hSQ) (fun hS0 => ?_)
          simp only [Ord.layT, List.getElem?_cons_zero, List.getElem?_cons_succ]
          (refine Ord.takeQ (v := ?_) (Or.inl ⟨rfl, ?_⟩) ?_; rotate_left; (intro w hSw; (try dsimp only at hSw); go_simp; try (with_reducible rfl)); (try simp only [Act.put, List.setIfInBounds_toArray, List.set_cons_zero, List.set_cons_succ]))
          (refine Ord.takeQ (v := ?_) (Or.inl ⟨rfl, ?_⟩) ?_; rotate_left; (intro w hSw; (try dsimp only at hSw); go_simp; try (with_reducible rfl)); (try simp only [Act.put, List.setIfInBounds_toArray, List.set_cons_zero, List.set_cons_succ]))
          (refine Ord.takeQ (v := ?_) (Or.inl ⟨rfl, ?_⟩) ?_; rotate_left; (intro w hSw; (try dsimp only at hSw); go_simp; try (with_reducible rfl)); (try simp only [Act.put, List.setIfInBounds_toArray, List.set_cons_zero, List.set_cons_succ]))
          (refine Ord.takeQ (v := ?_) (Or.inl ⟨rfl, ?_⟩) ?_; rotate_left; (intro w hSw; (try dsimp only at hSw); go_simp; try (with_reducible rfl)); (try simp only [Act.put, List.setIfInBounds_toArray, List.set_cons_zero, List.set_cons_succ]))
          (refine Ord.takeQ (v := ?_) (Or.inl ⟨rfl, ?_⟩) ?_; rotate_left; (intro w hSw; (try dsimp only at hSw); go_simp; try (with_reducible rfl)); (try simp only [Act.put, List.setIfInBounds_toArray, List.set_cons_zero, List.set_cons_succ]))
          (refine Ord.takeQ (v := ?_) (Or.inl ⟨rfl, ?_⟩) ?_; rotate_left; (intro w hSw; (try dsimp only at hSw); go_simp; try (with_reducible rfl)); (try simp only [Act.put, List.setIfInBounds_toArray, List.set_cons_zero, List.set_cons_succ]))
          (refine Ord.takeQ (v := ?_) (Or.inl ⟨rfl, ?_⟩) ?_; rotate_left; (intro w hSw; (try dsimp only at hSw); go_simp; try (with_reducible rfl)); (try simp only [Act.put, List.setIfInBounds_toArray, List.set_cons_zero, List.set_cons_succ]))
          (refine Ord.takeQ (v := ?_) (Or.inl ⟨rfl, ?_⟩) ?_; rotate_left; (intro w hSw; (try dsimp only at hSw); go_simp; try (with_reducible rfl)); (try simp only [Act.put, List.setIfInBounds_toArray, List.set_cons_zero, List.set_cons_succ]))
          (refine Ord.takeQ (v := ?_) (Or.inl ⟨rfl, ?_⟩) ?_; rotate_left; (intro w hSw; (try dsimp only at hSw); go_simp; try (with_reducible rfl)); (try simp only [Act.put, List.setIfInBounds_toArray, List.set_cons_zero, List.set_cons_succ]))
          (refine Ord.takeQ (v := ?_) (Or.inl ⟨rfl, ?_⟩) ?_; rotate_left; (intro w hSw; (try dsimp only at hSw); go_simp; try (with_reducible rfl)); (try simp only [Act.put, List.setIfInBounds_toArray, List.set_cons_zero, List.set_cons_succ]))
          (refine Ord.takeQ (v := ?_) (Or.inl ⟨rfl, ?_⟩) ?_; rotate_left; (intro w hSw; (try dsimp only at hSw); go_simp; try (with_reducible rfl)); (try simp only [Act.put, List.setIfInBounds_toArray, List.set_cons_zero, List.set_cons_succ]))
          (refine Ord.takeQ (v := ?_) (Or.inl ⟨rfl, ?_⟩) ?_; rotate_left; (intro w hSw; (try dsimp only at hSw); go_simp; try (with_reducible rfl)); (try simp only [Act.put, List.setIfInBounds_toArray, List.set_cons_zero, List.set_cons_succ]))
          (refine Ord.takeQ (v := ?_) (Or.inl ⟨rfl, ?_⟩) ?_; rotate_left; (intro w hSw; (try dsimp only at hSw); go_simp; try (with_reducible rfl)); (try simp only [Act.put, List.setIfInBounds_toArray, List.set_cons_zero, List.set_cons_succ]))
          (refine Ord.takeQ (v := ?_) (Or.inl ⟨rfl, ?_⟩) ?_; rotate_left; (intro w hSw; (try dsimp only at hSw); go_simp; try (with_reducible rfl)); (try simp only [Act.put, List.setIfInBounds_toArray, List.set_cons_zero, List.set_cons_succ]))
          refine Ord.doneQ (NoPanic.normal ?_)
          clear hSQ
          have hod := own_drew ho
          have hBd := hB.drew
          have c1' : wd.drew.cell? ⟨g, j * 2 + 1, none⟩ = some (.int .i64 o.most) := c1
          have z1' : wd.drew.frozen? ⟨g, j * 2 + 1, none⟩ = false := z1
          have cr' := hcr _ hBd
          have x1' := (hxx _ hBd).2
          clear c1 z1 ho hB
          have hp := hpl.out
          by_cases hc : o.most < x.most
          · have d1 : decide (o.most < x.most) = true := decide_eq_true hc
            have hm : Hid (max o.most x.most = x.most) := hid (by omega)
            have hst := hod.stored (j * 2 + 1) (.int .i64 x.most)
            have hB3 := hBd.setCell (p := ⟨g, j * 2 + 1, none⟩) hbg (.int .i64 x.most)
            go_wp2_with fail
            go_roundw
            case rel =>
              refine ⟨j + 1, put1 E j x, by omega, by go_num, by omega, by omega, HE2, ?_, hB3⟩
              rw [HFX.out, HXL.out, hm.out]
              exact hst.1
            case measure => simp [intOf]; omega
          · have d1 : decide (o.most < x.most) = false := decide_eq_false hc
            have hm : Hid (max o.most x.most = o.most) := hid (by omega)
            go_wp2_with fail
            go_roundw
            case rel =>
              refine ⟨j + 1, put1 E j x, by omega, by go_num, by omega, by omega, HE2, ?_, hBd⟩
              rw [HFX.out, HXL.out, hm.out, set_same f3]
              exact hod
            case measure => simp [intOf]; omega
        · obtain rfl : j = r.length := by omega
          have HEM : Hid (E = M) := hid (by have := HE.out; rw [List.drop_length] at this; exact this)
          go_wp2_with fail
          go_roundw
          case rel => exact ⟨k + 1, E, by omega, by go_num, hEl, by rw [HEM.out]; exact HD2, ho, hB⟩
          case measure => simp [intOf]; omega
    · obtain rfl : k = ls.length := by omega
      have HDT : D = T := by have := HD.out; rw [List.drop_length] at this; exact this
      subst HDT
      have HFA := hid (finK_all D)
      obtain ⟨A3, c3, rfl, hc3⟩ := own_some ho
      have ho2 : wr.ownsRow w.heap.size 73 2 (.slice A3 D.length c3) D.length ((finK D 0).flatMap Nd.cells) := by simpa [finK] using ho
      clear ho HD
      go_wp2_with fail
      go_loopw [6] (fun s6 wr => ∃ j : Nat, j ≤ D.length ∧ s6 = .int .i64 j ∧ wr.ownsRow w.heap.size 73 2 (.slice A3 D.length c3) D.length ((finK D j).flatMap Nd.cells) ∧ Below w.heap.size w wr) (fun i _ => D.length - (intOf i).toNat)
      case atStart => exact ⟨0, Nat.zero_le _, rfl, ho2, hB⟩
      case round =>
        clear ho2 hB
        obtain ⟨j, hj, rfl, ho, hB⟩ := hrel
        by_cases hlt2 : j < D.length
        · obtain ⟨g, cap, hv, hbg, hnc, hgl⟩ := own_block ho (by omega)
          injection hv with a1 a2 a3
          subst a1 a3
          have hxl : j < (finK D j).length := by rw [finK_length]; exact hlt2
          obtain ⟨f1, f2⟩ := flat_at hxl
          rw [finK_get hlt2] at f1 f2
          obtain ⟨o, hoe⟩ : ∃ o, D.getD j nd0 = o := ⟨_, rfl⟩
          rw [hoe] at f1 f2
          have c0 : wr.cell? ⟨g, j * 2, none⟩ = some (.int .i64 o.least) := (ho.cellAt (j * 2) (by omega)).trans f1
          have c1 : wr.cell? ⟨g, j * 2 + 1, none⟩ = some (.int .i64 o.most) := (ho.cellAt (j * 2 + 1) (by omega)).trans f2
          have z1 := ho.frozenAt (j * 2 + 1)
          have HFX : Hid ((finK D (j + 1)).flatMap Nd.cells = ((finK D j).flatMap Nd.cells).set (j * 2 + 1) (.int .i64 (max o.most o.least))) := hid (by
            rw [← finK_set hlt2, hoe, flat_set2 _ hxl]
            show ((List.flatMap Nd.cells (finK D j)).set (j * 2) (.int .i64 o.least)).set (j * 2 + 1) (.int .i64 (max o.most o.least)) = _
            congr 1
            exact set_same f1)
          have hSQ : (fun Z : World => Z.cell? ⟨g, j * 2, none⟩ = some (.int .i64 o.least) ∧ Z.cell? ⟨g, j * 2 + 1, none⟩ = some (.int .i64 o.most)) wr.drew := ⟨c0, c1⟩
          go_upto_region 17 with fail
          refine wp_region_noPanic ?_
          refine Ord.region_Q (S := fun Z : World => Z.cell? ⟨g, j * 2, none⟩ = some (.int .i64 o.least) ∧ Z.cell? ⟨g, j * 2 + 1, none⟩ = some (.int .i64 o.most)) 999 (.one 0 true (.one 1 true (.one 2 true (.one 3 true (.one 4 true (.one 5 true (.one 6 true (.one 7 true (.one 8 true (.one 9 true (.one 10 true .nil))))))))))) (by kernel_rfl) (by kernel_rfl) (by kernel_rfl) (by decide) (fun _ _ _ _ _ h => h) (hSQ) (fun hS0 => ?_)
          simp only [Ord.layT, List.getElem?_cons_zero, List.getElem?_cons_succ]
          (refine Ord.takeQ (v := ?_) (Or.inl ⟨rfl, ?_⟩) ?_; rotate_left; (intro w hSw; (try dsimp only at hSw); go_simp; try (with_reducible rfl)); (try simp only [Act.put, List.setIfInBounds_toArray, List.set_cons_zero, List.set_cons_succ]))
          (refine Ord.takeQ (v := ?_) (Or.inl ⟨rfl, ?_⟩) ?_; rotate_left; (intro w hSw; (try dsimp only at hSw); go_simp; try (with_reducible rfl)); (try simp only [Act.put, List.setIfInBounds_toArray, List.set_cons_zero, List.set_cons_succ]))
          (refine Ord.takeQ (v := ?_) (Or.inl ⟨rfl, ?_⟩) ?_; rotate_left; (intro w hSw; (try dsimp only at hSw); go_simp; try (with_reducible rfl)); (try simp only [Act.put, List.setIfInBounds_toArray, List.set_cons_zero, List.set_cons_succ]))
          (refine Ord.takeQ (v := ?_) (Or.inl ⟨rfl, ?_⟩) ?_; rotate_left; (intro w hSw; (try dsimp only at hSw); go_simp; try (with_reducible rfl)); (try simp only [Act.put, List.setIfInBounds_toArray, List.set_cons_zero, List.set_cons_succ]))
          (refine Ord.takeQ (v := ?_) (Or.inl ⟨rfl, ?_⟩) ?_; rotate_left; (intro w hSw; (try dsimp only at hSw); go_simp; try (with_reducible rfl)); (try simp only [Act.put, List.setIfInBounds_toArray, List.set_cons_zero, List.set_cons_succ]))
          (refine Ord.takeQ (v := ?_) (Or.inl ⟨rfl, ?_⟩) ?_; rotate_left; (intro w hSw; (try dsimp only at hSw); go_simp; try (with_reducible rfl)); (try simp only [Act.put, List.setIfInBounds_toArray, List.set_cons_zero, List.set_cons_succ]))
          (refine Ord.takeQ (v := ?_) (Or.inl ⟨rfl, ?_⟩) ?_; rotate_left; (intro w hSw; (try dsimp only at hSw); go_simp; try (with_reducible rfl)); (try simp only [Act.put, List.setIfInBounds_toArray, List.set_cons_zero, List.set_cons_succ]))
          (refine Ord.takeQ (v := ?_) (Or.inl ⟨rfl, ?_⟩) ?_; rotate_left; (intro w hSw; (try dsimp only at hSw); go_simp; try (with_reducible rfl)); (try simp only [Act.put, List.setIfInBounds_toArray, List.set_cons_zero, List.set_cons_succ]))
          (refine Ord.takeQ (v := ?_) (Or.inl ⟨rfl, ?_⟩) ?_; rotate_left; (intro w hSw; (try dsimp only at hSw); go_simp; try (with_reducible rfl)); (try simp only [Act.put, List.setIfInBounds_toArray, List.set_cons_zero, List.set_cons_succ]))
          (refine Ord.takeQ (v := ?_) (Or.inl ⟨rfl, ?_⟩) ?_; rotate_left; (intro w hSw; (try dsimp only at hSw); go_simp; try (with_reducible rfl)); (try simp only [Act.put, List.setIfInBounds_toArray, List.set_cons_zero, List.set_cons_succ]))
          (refine Ord.takeQ (v := ?_) (Or.inl ⟨rfl, ?_⟩) ?_; rotate_left; (intro w hSw; (try dsimp only at hSw); go_simp; try (with_reducible rfl)); (try simp only [Act.put, List.setIfInBounds_toArray, List.set_cons_zero, List.set_cons_succ]))
          refine Ord.doneQ (NoPanic.normal ?_)
          clear hSQ
          have hod := own_drew ho
          have hBd := hB.drew
          have c0' : wr.drew.cell? ⟨g, j * 2, none⟩ = some (.int .i64 o.least) := c0
          have c1' : wr.drew.cell? ⟨g, j * 2 + 1, none⟩ = some (.int .i64 o.most) := c1
          have z1' : wr.drew.frozen? ⟨g, j * 2 + 1, none⟩ = false := z1
          clear c0 c1 z1 ho hB hoe
          by_cases hc : o.most < o.least
          · have d1 : decide (o.most < o.least) = true := decide_eq_true hc
            have hm : Hid (max o.most o.least = o.least) := hid (by omega)
            have hst := hod.stored (j * 2 + 1) (.int .i64 o.least)
            have hB3 := hBd.setCell (p := ⟨g, j * 2 + 1, none⟩) hbg (.int .i64 o.least)
            go_wp2_with fail
            go_roundw
            case rel => exact ⟨j + 1, by omega, by go_num, by rw [HFX.out, hm.out]; exact hst.1, hB3⟩
            case measure => simp [intOf]; omega
          · have d1 : decide (o.most < o.least) = false := decide_eq_false hc
            have hm : Hid (max o.most o.least = o.most) := hid (by omega)
            go_wp2_with fail
            go_roundw
            case rel => exact ⟨j + 1, by omega, by go_num, by rw [HFX.out, hm.out, set_same f2]; exact hod, hBd⟩
            case measure => simp [intOf]; omega
        · obtain rfl : j = D.length := by omega
          go_wp2_with fail
          go_ret
          rw [HFA.out] at ho
          exact ⟨_, rfl, hB, by rw [List.length_map]; exact ho⟩
set_option maxRecDepth 100000 in
set_option maxHeartbeats 4000000 in
theorem ref19_Rows (ls : List (List Int)) (vs : List Value) (A : Option Addr) (c : Nat) (w : World) (hl : ls.length ≤ 1000) (hA : Rows2 w w.heap.size A 1 fl1 vs ls) (hw : ∀ r ∈ ls, r.length ≤ 4611686018427387904 ∧ ∀ x ∈ r, I64 x) :
    Calls Try.prog 41 #[.slice A ls.length c] w fun e w' => ∃ v, e = .returned v ∧ Below w.heap.size w w' ∧ w'.ownsRow w.heap.size 2 1 v ls.length ((rowsM ls).map (Value.int .i64)) := by
  obtain ⟨i1, hi1, hz1, hs1, hb1⟩ := info_parts info_i64
  replace hw := hid hw
  go_enter Try.func41, Try.ntmps41
  go_wp2_with fail
  go_loopw [3, 4] (fun s3 s4 wr => ∃ (k : Nat), k ≤ ls.length ∧ s4 = .int .i64 k ∧ wr.ownsRow w.heap.size 2 1 s3 k ((rowsM (ls.take k)).map (Value.int .i64)) ∧ Below w.heap.size w wr) (fun _ i _ => ls.length - (intOf i).toNat)
  case atStart => exact ⟨0, Nat.zero_le _, rfl, own_nil _ _ _ _, Below.refl _ _⟩
  case round =>
    obtain ⟨k, hk, rfl, ho, hB⟩ := hrel
    have hz := hB.size
    by_cases hlt : k < ls.length
    · obtain ⟨b, off, A', c', r, rfl, hb, HR, cr, hrc, hRr⟩ := Rows2.at_ (hA.below hB) hlt
      obtain ⟨hrl, hrk⟩ := hw.out r (List.mem_of_getElem? HR.out)
      have hI := ints_of_recs hRr
      have HU : Hid ((rowsM (ls.take (k + 1))).map (Value.int .i64) = (rowsM (ls.take k)).map (Value.int .i64) ++ [.int .i64 (mx r r.length)]) := hid (by rw [take_more HR.out]; simp [rowsM])
      replace hrk := hid hrk
      go_wp2_with fail
      go_loop [5, 6] (fun s5 s6 => ∃ j : Nat, j ≤ r.length ∧ s6 = .int .i64 j ∧ s5 = .int .i64 (mx r j)) (fun _ i => r.length - (intOf i).toNat)
      case atStart => exact ⟨0, Nat.zero_le _, rfl, rfl⟩
      case round =>
        obtain ⟨j, hj, rfl, rfl⟩ := hrel
        by_cases hlt2 : j < r.length
        · obtain ⟨bi, oi, x, rfl, hbi, hc, HX⟩ := hI.at_ hlt2
          have HM : Hid (mx r (j + 1) = max (mx r j) x) := hid (by show max _ _ = _; rw [HX.out])
          generalize mx r j = m at *
          by_cases hc : m < x
          · have d1 : decide (m < x) = true := decide_eq_true hc
            have hm : Hid (max m x = x) := hid (by omega)
            go_wp2_with fail
            go_round
            case rel => exact ⟨j + 1, by omega, by go_num, by rw [HM.out, hm.out]⟩
            case measure => simp [intOf]; omega
          · have d1 : decide (m < x) = false := decide_eq_false hc
            have hm : Hid (max m x = m) := hid (by omega)
            go_wp2_with fail
            go_round
            case rel => exact ⟨j + 1, by omega, by go_num, by rw [HM.out, hm.out]⟩
            case measure => simp [intOf]; omega
        · obtain rfl : j = r.length := by omega
          obtain ⟨A3, c3, rfl, hc3⟩ := own_some ho
          generalize mx r r.length = m at *
          have hown := ho.alloc (.cells #[.int .i64 m] 2)
          have hba : Below w.heap.size w (wr.alloc (.cells #[.int .i64 m] 2)) := hB.alloc hz _
          clear hI hRr
          go_wp2_with (refine stop_append _ _ _ _ rfl ?_)
          refine ⟨?_⟩
          refine wpList_append_own _ rfl _ _ 55 rfl w.heap.size 2 i1 (.int .i64 0) 1 8 Try.underlying55 hi1 hz1 hs1 hb1 rfl (by decide) (.slice A3 k c3) _ _ rfl hown ⟨wr.heap.size, 0, none⟩ 1 1 [.int .i64 m] rfl rfl (news19 (Blk.new wr 2 #[.int .i64 m]) rfl) (by simp [Value.oneCell']) (by unfold maxLen; omega) (by omega) (by simp; omega) ?_
          intro v4 w4 ho4 hg4 _
          (try simp only [Act.put, List.setIfInBounds_toArray, List.set_cons_zero, List.set_cons_succ])
          have hB4 := hba.trans (own_belowB hown hg4 (by simp; omega))
          obtain ⟨A4, c4, rfl, -⟩ := own_some ho4
          clear hown hba hg4 ho hB cr
          go_wp2_with fail
          go_roundw
          case rel => exact ⟨k + 1, by omega, by go_num, by rw [HU.out]; exact ho4, hB4⟩
          case measure => simp [intOf]; omega
    · obtain rfl : k = ls.length := by omega
      obtain ⟨A3, c3, rfl, hc3⟩ := own_some ho
      go_wp2_with fail
      go_ret
      rw [List.take_length] at ho
      exact ⟨_, rfl, hB, ho⟩
end Go.Proofs.Ytkoanijiihnioaa
