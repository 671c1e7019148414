/-
  casementbook.Book[int64].Stays.
-/
import Derived.Test.YteghacdpfhohoaaBookC
namespace Go.Proofs.Yteghacdpfhohoaa
open Go.RowKit Num Mem
set_option linter.unusedVariables false
set_option linter.unusedSimpArgs false
set_option maxRecDepth 100000 in
set_option maxHeartbeats 8000000 in
theorem book_Stays_int64 (g B S : Nat) (Ls : List (Kept Int)) (v1 v2 : Value) (held : Int) (w : World) (hn : Ls.length ≤ 3001) (hb : BookOf 80 27 2 1 flI (fun _ => True) w g B S Ls v1 v2 held) :
    Calls Try.prog 62 #[.pointer (some ⟨g, 0, none⟩)] w fun e w' =>
      e = .returned (.bool true) ∧ BookOf 80 27 2 1 flI (fun _ => True) w' g B S Ls v1 v2 held ∧ Boxed g w w' := by
  have hgB := hb.gB
  obtain ⟨N, hN⟩ : ∃ N, Ls.length = N := ⟨_, rfl⟩
  obtain ⟨Aa, ca, rfl, hca, hca2, hna, -⟩ := hb.lists.segN (N := N) (by simpa using hN)
  obtain ⟨Ab, cb, rfl, hcb, hcb2, hnb, -⟩ := hb.was.segN (N := N) (by simpa using hN)
  go_enter Try.func62, Try.ntmps62
  go_wp2_with fail
  go_loopw [3] (fun s3 wr => ∃ k : Nat, k ≤ N ∧ s3 = .int .i64 k ∧ BookOf 80 27 2 1 flI (fun _ => True) wr g B S Ls (.slice Aa N ca) (.slice Ab N cb) held ∧ Boxed g w wr) (fun i _ => N - (intOf i).toNat)
  case atStart => exact ⟨0, Nat.zero_le _, rfl, hb, Boxed.refl g w⟩
  case round =>
    clear hb hna hnb
    obtain ⟨k, hk, rfl, hBo, hbx⟩ := hrel
    obtain ⟨Aa', ca', hva, -, -, -, hsa⟩ := hBo.lists.segN (N := N) (by simpa using hN)
    obtain ⟨Ab', cb', hvb, -, -, -, hsb⟩ := hBo.was.segN (N := N) (by simpa using hN)
    injection hva with a1 _ a3
    injection hvb with b1 _ b3
    subst a1 a3 b1 b3
    have x0 : wr.cell? ⟨g, 0, none⟩ = some (.slice Aa N ca) := hBo.blk.cell 0
    have x3 : wr.cell? ⟨g, 3, none⟩ = some (.bool false) := hBo.blk.cell 3
    by_cases hlt : k < N
    · obtain ⟨t, ht⟩ : ∃ t, Ls[k]? = some t := ⟨_, List.getElem?_eq_getElem (by omega)⟩
      obtain ⟨tv, tw, tr⟩ := t
      have hKt := hBo.rows _ (List.mem_of_getElem? ht)
      have hfew : tr.length ≤ 1000000 := hKt.few
      obtain ⟨At, ct, hvt, hIt⟩ := own_seg hKt.list
      obtain ⟨Aw, cw, hwt, hIw⟩ := own_seg hKt.copy
      simp only at hvt hwt
      subst hvt hwt
      simp only [flI_flat] at hIt hIw
      obtain ⟨g1, o1, rfl, hl1, hc1⟩ := hsa.at_ (k := k) (by simp; omega)
      obtain ⟨g2, o2, rfl, hl2, hc2⟩ := hsb.at_ (k := k) (by simp; omega)
      have y1 : wr.cell? ⟨g1, o1 + k, none⟩ = some (.slice At tr.length ct) := by rw [hc1]; simp [ht]
      have y2 : wr.cell? ⟨g2, o2 + k, none⟩ = some (.slice Aw tr.length cw) := by rw [hc2]; simp [ht]
      have hSQ : (fun Z : World => Z.cell? ⟨g, 3, none⟩ = some (.bool false) ∧ Z.cell? ⟨g, 0, none⟩ = some (.slice (some ⟨g1, o1, none⟩) N ca) ∧ Z.cell? ⟨g1, o1 + k, none⟩ = some (.slice At tr.length ct) ∧ Z.cell? ⟨g, 1, none⟩ = some (.slice (some ⟨g2, o2, none⟩) N cb) ∧ Z.cell? ⟨g2, o2 + k, none⟩ = some (.slice Aw tr.length cw) ∧ Z.frozen? ⟨g, 3, none⟩ = false) wr.drew := ⟨x3, x0, y1, hBo.blk.cell 1, y2, hBo.blk.free 3⟩
      have hSd : ∀ Z, Drawn wr.drew Z → (fun Z : World => Z.cell? ⟨g, 3, none⟩ = some (.bool false) ∧ Z.cell? ⟨g, 0, none⟩ = some (.slice (some ⟨g1, o1, none⟩) N ca) ∧ Z.cell? ⟨g1, o1 + k, none⟩ = some (.slice At tr.length ct) ∧ Z.cell? ⟨g, 1, none⟩ = some (.slice (some ⟨g2, o2, none⟩) N cb) ∧ Z.cell? ⟨g2, o2 + k, none⟩ = some (.slice Aw tr.length cw) ∧ Z.frozen? ⟨g, 3, none⟩ = false) Z := by
        rintro Z ⟨q, rfl⟩
        exact hSQ
      clear hsa hsb hc1 hc2
      go_upto_region 4 with fail
      refine wp_region_noPanic ?_
      refine Ord.region_Q (S := fun Z : World => Z.cell? ⟨g, 3, none⟩ = some (.bool false) ∧ Z.cell? ⟨g, 0, none⟩ = some (.slice (some ⟨g1, o1, none⟩) N ca) ∧ Z.cell? ⟨g1, o1 + k, none⟩ = some (.slice At tr.length ct) ∧ Z.cell? ⟨g, 1, none⟩ = some (.slice (some ⟨g2, o2, none⟩) N cb) ∧ Z.cell? ⟨g2, o2 + k, none⟩ = some (.slice Aw tr.length cw) ∧ Z.frozen? ⟨g, 3, none⟩ = false) 25 (.one 0 true (.one 1 true (.one 2 true (.one 3 true (.one 4 true (.one 5 true (.one 6 true (.one 7 true (.one 8 true (.one 9 true (.one 10 true (.one 11 true (.one 12 true (.one 13 true (.one 14 true (.one 15 true (.one 16 true (.one 17 true (.one 18 true (.one 19 true (.one 20 false (.one 21 true (.one 22 true (.one 23 true (.one 24 true (.one 25 false .nil)))))))))))))))))))))))))) (by kernel_rfl) (by kernel_rfl) (by kernel_rfl) (by decide) (fun _ _ _ _ _ h => h) (hSQ) (fun hS0 => ?_)
      simp only [Ord.layT, List.getElem?_cons_zero, List.getElem?_cons_succ]
      (refine Ord.takeQ (v := ?_) (Or.inl ⟨rfl, ?_⟩) ?_; rotate_left; (intro w hSw; (try dsimp only at hSw); go_simp; try (with_reducible rfl)); (try simp only [Act.put, List.setIfInBounds_toArray, List.set_cons_zero, List.set_cons_succ]))
      (refine Ord.takeQ (v := ?_) (Or.inl ⟨rfl, ?_⟩) ?_; rotate_left; (intro w hSw; (try dsimp only at hSw); go_simp; try (with_reducible rfl)); (try simp only [Act.put, List.setIfInBounds_toArray, List.set_cons_zero, List.set_cons_succ]))
      (refine Ord.takeQ (v := ?_) (Or.inl ⟨rfl, ?_⟩) ?_; rotate_left; (intro w hSw; (try dsimp only at hSw); go_simp; try (with_reducible rfl)); (try simp only [Act.put, List.setIfInBounds_toArray, List.set_cons_zero, List.set_cons_succ]))
      (refine Ord.takeQ (v := ?_) (Or.inl ⟨rfl, ?_⟩) ?_; rotate_left; (intro w hSw; (try dsimp only at hSw); go_simp; try (with_reducible rfl)); (try simp only [Act.put, List.setIfInBounds_toArray, List.set_cons_zero, List.set_cons_succ]))
      (refine Ord.takeQ (v := ?_) (Or.inl ⟨rfl, ?_⟩) ?_; rotate_left; (intro w hSw; (try dsimp only at hSw); go_simp; try (with_reducible rfl)); (try simp only [Act.put, List.setIfInBounds_toArray, List.set_cons_zero, List.set_cons_succ]))
      (refine Ord.takeQ (v := ?_) (Or.inl ⟨rfl, ?_⟩) ?_; rotate_left; (intro w hSw; (try dsimp only at hSw); go_simp; try (with_reducible rfl)); (try simp only [Act.put, List.setIfInBounds_toArray, List.set_cons_zero, List.set_cons_succ]))
      (refine Ord.takeQ (v := ?_) (Or.inl ⟨rfl, ?_⟩) ?_; rotate_left; (intro w hSw; (try dsimp only at hSw); go_simp; try (with_reducible rfl)); (try simp only [Act.put, List.setIfInBounds_toArray, List.set_cons_zero, List.set_cons_succ]))
      (refine Ord.takeQ (v := ?_) (Or.inl ⟨rfl, ?_⟩) ?_; rotate_left; (intro w hSw; (try dsimp only at hSw); go_simp; try (with_reducible rfl)); (try simp only [Act.put, List.setIfInBounds_toArray, List.set_cons_zero, List.set_cons_succ]))
      (refine Ord.takeQ (v := ?_) (Or.inl ⟨rfl, ?_⟩) ?_; rotate_left; (intro w hSw; (try dsimp only at hSw); go_simp; try (with_reducible rfl)); (try simp only [Act.put, List.setIfInBounds_toArray, List.set_cons_zero, List.set_cons_succ]))
      (refine Ord.takeQ (v := ?_) (Or.inl ⟨rfl, ?_⟩) ?_; rotate_left; (intro w hSw; (try dsimp only at hSw); go_simp; try (with_reducible rfl)); (try simp only [Act.put, List.setIfInBounds_toArray, List.set_cons_zero, List.set_cons_succ]))
      (refine Ord.takeQ (v := ?_) (Or.inl ⟨rfl, ?_⟩) ?_; rotate_left; (intro w hSw; (try dsimp only at hSw); go_simp; try (with_reducible rfl)); (try simp only [Act.put, List.setIfInBounds_toArray, List.set_cons_zero, List.set_cons_succ]))
      (refine Ord.takeQ (v := ?_) (Or.inl ⟨rfl, ?_⟩) ?_; rotate_left; (intro w hSw; (try dsimp only at hSw); go_simp; try (with_reducible rfl)); (try simp only [Act.put, List.setIfInBounds_toArray, List.set_cons_zero, List.set_cons_succ]))
      (refine Ord.takeQ (v := ?_) (Or.inl ⟨rfl, ?_⟩) ?_; rotate_left; (intro w hSw; (try dsimp only at hSw); go_simp; try (with_reducible rfl)); (try simp only [Act.put, List.setIfInBounds_toArray, List.set_cons_zero, List.set_cons_succ]))
      (refine Ord.takeQ (v := ?_) (Or.inl ⟨rfl, ?_⟩) ?_; rotate_left; (intro w hSw; (try dsimp only at hSw); go_simp; try (with_reducible rfl)); (try simp only [Act.put, List.setIfInBounds_toArray, List.set_cons_zero, List.set_cons_succ]))
      (refine Ord.takeQ (v := ?_) (Or.inl ⟨rfl, ?_⟩) ?_; rotate_left; (intro w hSw; (try dsimp only at hSw); go_simp; try (with_reducible rfl)); (try simp only [Act.put, List.setIfInBounds_toArray, List.set_cons_zero, List.set_cons_succ]))
      (refine Ord.takeQ (v := ?_) (Or.inl ⟨rfl, ?_⟩) ?_; rotate_left; (intro w hSw; (try dsimp only at hSw); go_simp; try (with_reducible rfl)); (try simp only [Act.put, List.setIfInBounds_toArray, List.set_cons_zero, List.set_cons_succ]))
      (refine Ord.takeQ (v := ?_) (Or.inl ⟨rfl, ?_⟩) ?_; rotate_left; (intro w hSw; (try dsimp only at hSw); go_simp; try (with_reducible rfl)); (try simp only [Act.put, List.setIfInBounds_toArray, List.set_cons_zero, List.set_cons_succ]))
      (refine Ord.takeQ (v := ?_) (Or.inl ⟨rfl, ?_⟩) ?_; rotate_left; (intro w hSw; (try dsimp only at hSw); go_simp; try (with_reducible rfl)); (try simp only [Act.put, List.setIfInBounds_toArray, List.set_cons_zero, List.set_cons_succ]))
      (refine Ord.takeQ (v := ?_) (Or.inl ⟨rfl, ?_⟩) ?_; rotate_left; (intro w hSw; (try dsimp only at hSw); go_simp; try (with_reducible rfl)); (try simp only [Act.put, List.setIfInBounds_toArray, List.set_cons_zero, List.set_cons_succ]))
      (refine Ord.takeQ (v := ?_) (Or.inl ⟨rfl, ?_⟩) ?_; rotate_left; (intro w hSw; (try dsimp only at hSw); go_simp; try (with_reducible rfl)); (try simp only [Act.put, List.setIfInBounds_toArray, List.set_cons_zero, List.set_cons_succ]))
      refine Ord.aloneQ rfl rfl (fun K hK => ?_)
      go_simp
      refine (book_Same tr At Aw ct cw wr.heap.size wr.heap.size wr.drew (by omega) hIt hIw).mono ?_
      rintro e w9 ⟨rfl, hd9⟩
      go_wp2_with fail
      (try simp only [Act.put, List.setIfInBounds_toArray, List.set_cons_zero, List.set_cons_succ])
      refine hK.out _ _ (hSd _ hd9) (fun _ => ?_)
      clear hK K
      (refine Ord.takeQ (v := ?_) (Or.inl ⟨rfl, ?_⟩) ?_; rotate_left; (intro w hSw; (try dsimp only at hSw); go_simp; try (with_reducible rfl)); (try simp only [Act.put, List.setIfInBounds_toArray, List.set_cons_zero, List.set_cons_succ]))
      (refine Ord.takeQ (v := ?_) (Or.inl ⟨rfl, ?_⟩) ?_; rotate_left; (intro w hSw; (try dsimp only at hSw); go_simp; try (with_reducible rfl)); (try simp only [Act.put, List.setIfInBounds_toArray, List.set_cons_zero, List.set_cons_succ]))
      (refine Ord.takeQ (v := ?_) (Or.inl ⟨rfl, ?_⟩) ?_; rotate_left; (intro w hSw; (try dsimp only at hSw); go_simp; try (with_reducible rfl)); (try simp only [Act.put, List.setIfInBounds_toArray, List.set_cons_zero, List.set_cons_succ]))
      (refine Ord.takeQ (v := ?_) (Or.inl ⟨rfl, ?_⟩) ?_; rotate_left; (intro w hSw; (try dsimp only at hSw); go_simp; try (with_reducible rfl)); (try simp only [Act.put, List.setIfInBounds_toArray, List.set_cons_zero, List.set_cons_succ]))
      refine Ord.lastQ rfl rfl (fun K hK => ?_)
      obtain ⟨q1, q2, q3, q4, q5, q6⟩ := hSd _ hd9
      go_simp
      (try simp only [Act.put, List.setIfInBounds_toArray, List.set_cons_zero, List.set_cons_succ])
      refine hK.out _ _ ?_
      clear hK K
      refine Ord.doneQ (NoPanic.normal ?_)
      clear hSQ hSd
      have hb4 : Blk (w9.setCell ⟨g, 3, none⟩ (.bool false)) g 80 #[.slice (some ⟨g1, o1, none⟩) N ca, .slice (some ⟨g2, o2, none⟩) N cb, .int .i64 held, .bool false] := by
        simpa using (hBo.blk.drew.drawn hd9).put 3 (.bool false)
      have hx4 : Boxed g wr (w9.setCell ⟨g, 3, none⟩ (.bool false)) := (((Boxed.refl g wr).drew).drawn hd9).set 3 _
      have hx5 : Boxed g w (w9.setCell ⟨g, 3, none⟩ (.bool false)) := ((hbx.drew).drawn hd9).set 3 _
      have hB9 := hBo.boxed (Ls' := Ls) hx4 hb4 hBo.lists hBo.was hBo.ne (List.Sublist.refl _)
      generalize w9.setCell ⟨g, 3, none⟩ (.bool false) = wa at *
      clear hd9
      go_wp2_with fail
      go_roundw
      case rel => exact ⟨k + 1, by omega, by go_num, hB9, hx5⟩
      case measure => simp [intOf]; omega
    · obtain rfl : k = N := by omega
      go_wp2_with fail
      go_ret
      exact ⟨rfl, hBo, hbx⟩
end Go.Proofs.Yteghacdpfhohoaa
