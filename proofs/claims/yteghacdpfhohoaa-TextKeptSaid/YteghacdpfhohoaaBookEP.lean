/-
  casementbook.Book[casement/text.Piece].Apart: printed off the text at int64 (gen_booken.py).
-/
import Derived.Test.YteghacdpfhohoaaBookDP
namespace Go.Proofs.Yteghacdpfhohoaa
open Go.RowKit Num Mem Opn
set_option linter.unusedVariables false
set_option linter.unusedSimpArgs false
set_option maxRecDepth 100000 in
set_option maxHeartbeats 8000000 in
theorem book_Apart_pq (g B S n f : Nat) (mk : Nat → Nat → Pq) (hmo : ∀ i j, i ≤ 3001 → j ≤ maxLen → okP (mk i j)) (w : World) (hn : n ≤ 3001) (hcf : ∀ (args : Array Value) (w : World), (callFunc f args).run Try.prog w = .ok (.enter f args) w) (hm : ∀ (i j : Nat) (w : World), i ≤ 3001 → j ≤ maxLen → Calls Try.prog f #[.int .i64 i, .int .i64 j] w fun e w' => e = .returned (.agg (mk i j).arr) ∧ Below w.heap.size w w')
    (hb : BookAt 56 60 59 57 Pq.cells okP w g B S n) :
    Calls Try.prog 33 #[.pointer (some ⟨g, 0, none⟩), .func (.func f) #[] #[]] w fun e w' => e = .returned (.bool true) ∧ BookKeep 59 w w' g B := by
  obtain ⟨Ls, v1, v2, held, hLn, hK⟩ := hb.ex
  clear hb
  have hgB := hK.gB
  obtain ⟨N, hN⟩ : ∃ N, Ls.length = N := ⟨_, rfl⟩
  go_enter Try.func33, Try.ntmps33
  go_wp2_with fail
  refine (book_Stays_pq g B S Ls v1 v2 held w (by omega) hK).mono ?_
  rintro e w1 ⟨rfl, hB1, hx1⟩
  clear hK
  obtain ⟨vs, hvs⟩ : ∃ vs, Ls.map (·.v) = vs := ⟨_, rfl⟩
  have hvN : vs.length = N := by rw [← hvs]; simpa using hN
  have hap : vs.Pairwise Two := by
    rw [← hvs, List.pairwise_map]
    exact hB1.apart
  have hF0 : ∀ i v, vs[i]? = some v → FilledC 59 57 B w1 v (fun _ => i < 0) (fun j => (mk i j).cells) := by
    intro i v hv
    rw [← hvs, List.getElem?_map] at hv
    cases ht : Ls[i]? with
    | none => rw [ht] at hv; simp at hv
    | some t =>
      rw [ht] at hv
      have : t.v = v := by simpa using hv
      subst this
      exact (filledC_own (hB1.rows t (List.mem_of_getElem? ht)).list).map (fun _ _ _ _ hc => hc) (fun j hj => absurd hj (Nat.not_lt_zero _))
  have hL0 := hB1.lists
  rw [hvs] at hL0
  have hbox0 := hB1.blk
  have hk0 : BookKeep 59 w w1 g B := hx1.keep
  obtain ⟨Aa, ca, rfl, hca, hca2, hna, -⟩ := hL0.segN hvN
  have hNn : N ≤ 3001 := by omega
  have hML : maxLen = 9223372036854775807 := by decide
  replace hML := hid hML
  clear hB1 hx1 hvs hna hN
  replace hap := hid hap
  replace hm := hid hm
  go_wp2_with fail
  go_loopw [5, 6, 7] (fun s5 s6 s7 wr => ∃ k : Nat, k ≤ N ∧ s5 = .int .i64 k ∧ BookKeep 59 w wr g B ∧ Blk wr g 56 #[.slice Aa N ca, v2, .int .i64 held, .bool false] ∧ OffRow wr B 60 (.slice Aa N ca) vs ∧ Hid (∀ i v, vs[i]? = some v → FilledC 59 57 B wr v (fun _ => i < k) (fun j => (mk i j).cells))) (fun i _ _ _ => N - (intOf i).toNat)
  case atStart => exact ⟨0, Nat.zero_le _, rfl, hk0, hbox0, hL0, hid hF0⟩
  case round =>
    clear hF0 hL0 hbox0 hk0
    obtain ⟨k, hk, rfl, hkp, hbox, hL, hF⟩ := hrel
    obtain ⟨Aa', ca', hva, -, -, -, hsa⟩ := hL.segN hvN
    injection hva with a1 _ a3
    subst a1 a3
    have x0 : wr.cell? ⟨g, 0, none⟩ = some (.slice Aa N ca) := hbox.cell 0
    by_cases hlt : k < N
    · obtain ⟨lv, hlv⟩ : ∃ lv, vs[k]? = some lv := ⟨_, List.getElem?_eq_getElem (by omega)⟩
      obtain ⟨A, m, c, rfl, hmc, hcm, hor⟩ := hF.out k lv hlv
      obtain ⟨g1, o1, rfl, hl1, hc1⟩ := hsa.at_ (k := k) (by omega)
      have y1 : wr.cell? ⟨g1, o1 + k, none⟩ = some (.slice A m c) := by rw [hc1, hlv]
      have hsl : (A = none ∧ m = 0 ∧ c = 0) ∨ ∃ b, A = some ⟨b, 0, none⟩ := hor.imp id fun ⟨b, _, e, _⟩ => ⟨b, e⟩
      replace hsl := hid hsl
      have hSQ : (fun Z : World => Z.cell? ⟨g, 0, none⟩ = some (.slice (some ⟨g1, o1, none⟩) N ca) ∧ Z.cell? ⟨g1, o1 + k, none⟩ = some (.slice A m c)) wr.drew := ⟨x0, y1⟩
      clear hsa hc1 hor
      go_upto_region 6 with fail
      refine wp_region_noPanic ?_
      refine Ord.region_Q (S := fun Z : World => Z.cell? ⟨g, 0, none⟩ = some (.slice (some ⟨g1, o1, none⟩) N ca) ∧ Z.cell? ⟨g1, o1 + k, none⟩ = some (.slice A m c)) 999 (.one 0 true (.one 1 true (.one 2 true (.one 3 true (.one 4 true (.one 5 true (.one 6 true (.one 7 true (.one 8 true (.one 9 true (.one 10 true (.one 11 true (.one 12 true (.one 13 true (.one 14 true (.one 15 true (.one 16 true .nil))))))))))))))))) (by kernel_rfl) (by kernel_rfl) (by kernel_rfl) (by decide) (fun _ _ _ _ _ h => h) (hSQ) (fun hS0 => ?_)
      simp only [Ord.layT, List.getElem?_cons_zero, List.getElem?_cons_succ]
      (refine Ord.takeQ (v := ?_) (Or.inl ⟨rfl, ?_⟩) ?_; rotate_left; (intro w hSw; (try dsimp only at hSw); go_simp; try (with_reducible rfl)); (try simp only [Act.put, List.setIfInBounds_toArray, List.set_cons_zero, List.set_cons_succ]))
      (refine Ord.takeQ (v := ?_) (Or.inl ⟨rfl, ?_⟩) ?_; rotate_left; (intro w hSw; (try dsimp only at hSw); go_simp; try (with_reducible rfl)); (try simp only [Act.put, List.setIfInBounds_toArray, List.set_cons_zero, List.set_cons_succ]))
      (refine Ord.takeQ (v := ?_) (Or.inl ⟨rfl, ?_⟩) ?_; rotate_left; (intro w hSw; (try dsimp only at hSw); go_simp; try (with_reducible rfl)); (try simp only [Act.put, List.setIfInBounds_toArray, List.set_cons_zero, List.set_cons_succ]))
      (refine Ord.takeQ (v := ?_) (Or.inl ⟨rfl, ?_⟩) ?_; rotate_left; (intro w hSw; (try dsimp only at hSw); go_simp; try (with_reducible rfl)); (try simp only [Act.put, List.setIfInBounds_toArray, List.set_cons_zero, List.set_cons_succ]))
      (refine Ord.takeQ (v := ?_) (Or.inl ⟨rfl, ?_⟩) ?_; rotate_left; (intro w hSw; (try dsimp only at hSw); go_simp; try (with_reducible rfl)); (try simp only [Act.put, List.setIfInBounds_toArray, List.set_cons_zero, List.set_cons_succ]))
      (refine Ord.takeQ (v := ?_) (Or.inl ⟨rfl, ?_⟩) ?_; rotate_left; (intro w hSw; (try dsimp only at hSw); go_simp; try (with_reducible rfl)); (try simp only [Act.put, List.setIfInBounds_toArray, List.set_cons_zero, List.set_cons_succ]))
      (refine Ord.takeQ (v := ?_) (Or.inl ⟨rfl, ?_⟩) ?_; rotate_left; (intro w hSw; (try dsimp only at hSw); go_simp; try (with_reducible rfl)); (try simp only [Act.put, List.setIfInBounds_toArray, List.set_cons_zero, List.set_cons_succ]))
      (refine Ord.takeQ (v := ?_) (Or.inl ⟨rfl, ?_⟩) ?_; rotate_left; (intro w hSw; (try dsimp only at hSw); go_simp; try (with_reducible rfl)); (try simp only [Act.put, List.setIfInBounds_toArray, List.set_cons_zero, List.set_cons_succ]))
      (refine Ord.takeQ (v := ?_) (Or.inl ⟨rfl, ?_⟩) ?_; rotate_left; (intro w hSw; (try dsimp only at hSw); go_simp; try (with_reducible rfl)); (try simp only [Act.put, List.setIfInBounds_toArray, List.set_cons_zero, List.set_cons_succ]))
      (refine Ord.takeQ (v := ?_) (Or.inl ⟨rfl, ?_⟩) ?_; rotate_left; (intro w hSw; (try dsimp only at hSw); go_simp; try (with_reducible rfl)); (try simp only [Act.put, List.setIfInBounds_toArray, List.set_cons_zero, List.set_cons_succ]))
      (refine Ord.takeQ (v := ?_) (Or.inl ⟨rfl, ?_⟩) ?_; rotate_left; (intro w hSw; (try dsimp only at hSw); go_simp; try (with_reducible rfl)); (try simp only [Act.put, List.setIfInBounds_toArray, List.set_cons_zero, List.set_cons_succ]))
      (refine Ord.takeQ (v := ?_) (Or.inl ⟨rfl, ?_⟩) ?_; rotate_left; (intro w hSw; (try dsimp only at hSw); go_simp; try (with_reducible rfl)); (try simp only [Act.put, List.setIfInBounds_toArray, List.set_cons_zero, List.set_cons_succ]))
      (refine Ord.takeQ (v := ?_) (Or.inl ⟨rfl, ?_⟩) ?_; rotate_left; (intro w hSw; (try dsimp only at hSw); go_simp; try (with_reducible rfl)); (try simp only [Act.put, List.setIfInBounds_toArray, List.set_cons_zero, List.set_cons_succ]))
      (refine Ord.takeQ (v := ?_) (Or.inl ⟨rfl, ?_⟩) ?_; rotate_left; (intro w hSw; (try dsimp only at hSw); go_simp; try (with_reducible rfl)); (try simp only [Act.put, List.setIfInBounds_toArray, List.set_cons_zero, List.set_cons_succ]))
      (refine Ord.takeQ (v := ?_) (Or.inl ⟨rfl, ?_⟩) ?_; rotate_left; (intro w hSw; (try dsimp only at hSw); go_simp; try (with_reducible rfl)); (try simp only [Act.put, List.setIfInBounds_toArray, List.set_cons_zero, List.set_cons_succ]))
      (refine Ord.takeQ (v := .slice A c c) (Or.inl ⟨rfl, by (intro w hSw; rcases hsl.out with ⟨rfl, rfl, rfl⟩ | ⟨b, rfl⟩ <;> (go_simp; try (with_reducible rfl)))⟩) ?_; (try simp only [Act.put, List.setIfInBounds_toArray, List.set_cons_zero, List.set_cons_succ]))
      (refine Ord.takeQ (v := ?_) (Or.inl ⟨rfl, ?_⟩) ?_; rotate_left; (intro w hSw; (try dsimp only at hSw); go_simp; try (with_reducible rfl)); (try simp only [Act.put, List.setIfInBounds_toArray, List.set_cons_zero, List.set_cons_succ]))
      refine Ord.doneQ (NoPanic.normal ?_)
      clear hSQ
      go_wp2_with fail
      have hFi : Hid (∀ i v, vs[i]? = some v → FilledC 59 57 B wr v (fun j => i < k ∨ (i = k ∧ j < 0)) (fun j => (mk i j).cells)) := hid fun i v hv => (hF.out i v hv).map (fun _ _ _ _ hc => hc) (fun j hj => by omega)
      go_loopw [7] (fun s7 wz => ∃ q : Nat, q ≤ c ∧ s7 = .int .i64 q ∧ BookKeep 59 w wz g B ∧ Blk wz g 56 #[.slice (some ⟨g1, o1, none⟩) N ca, v2, .int .i64 held, .bool false] ∧ OffRow wz B 60 (.slice (some ⟨g1, o1, none⟩) N ca) vs ∧ Hid (∀ i v, vs[i]? = some v → FilledC 59 57 B wz v (fun j => i < k ∨ (i = k ∧ j < q)) (fun j => (mk i j).cells))) (fun i _ => c - (intOf i).toNat)
      case atStart => exact ⟨0, Nat.zero_le _, rfl, hkp.drawn ⟨1, rfl⟩, hbox.drew, hL.drew, hFi⟩
      case round =>
        clear hkp hbox hL hF hFi x0 y1
        obtain ⟨q, hq, rfl, hkp, hbox, hL, hF⟩ := hrel
        by_cases hqc : q < c
        · obtain ⟨A', m', c', e, _, _, hor⟩ := hF.out k _ hlv
          injection e with e1 e2 e3
          subst e1 e2 e3
          rcases hor with ⟨_, _, h0⟩ | ⟨b, cur, rfl, hbB, hblk, hsz, -⟩
          · omega
          have hq9 : q + 1 ≤ 9223372036854775807 := by have := hML.out; omega
          have hcl : cur.toList.length = c * 57 := by simpa using hsz
          have hsplit : (cur.toList.take (q * 57) ++ (cur.toList.drop (q * 57)).take 57 ++ cur.toList.drop (q * 57 + 57)).toArray = cur := by
            apply Array.ext'
            rw [← List.drop_drop, List.append_assoc, List.take_append_drop, List.take_append_drop]
          go_wp2_with fail
          refine (hm.out k q _ (by omega) (by have := hML.out; omega)).mono ?_
          rintro e w8 ⟨rfl, hb8⟩
          have hblk8 := hblk.below hb8 hblk.lt
          have hbox8 := hbox.below hb8 hbox.lt
          have hL8 := hL.below hb8
          have hF8 : Hid (∀ i v, vs[i]? = some v → FilledC 59 57 B w8 v (fun j => i < k ∨ (i = k ∧ j < q)) (fun j => (mk i j).cells)) := hid fun i v hv => (hF.out i v hv).map (fun b hb _ cs hc => hc.below hb8 hc.lt) (fun j hj => hj)
          have hkp8 : BookKeep 59 w w8 g B := hkp.trans (BookKeep.of_below hb8 (by have := hbox.lt; omega))
          clear hF hkp hbox hL hblk hb8
          go_wp2_with (refine stop_store _ _ _ rfl rfl ?_)
          refine ⟨?_⟩
          refine wl_store_at rfl 59 _ _ rfl b (q * 57) (mk k q).arr rfl rfl 59 (cur.toList.take (q * 57)) ((cur.toList.drop (q * 57)).take 57) (cur.toList.drop (q * 57 + 57)) (by rw [hsplit]; exact hblk8) (by simp; omega) (by show _ = 57; simp; omega) (info_pq_arr _) (pq_one _) ?_
          intro w9 hb9 hc9
          (try simp only [Act.put, List.setIfInBounds_toArray, List.set_cons_zero, List.set_cons_succ])
          have hF' := hid (fill_stepC (mk := fun i j => (mk i j).cells) (fun _ _ => rfl) hap.out hlv hqc hblk8 hb9 hc9 hF8.out)
          have hkp' := hkp8.trans (keep_chg hblk8 hbB hc9)
          have hbox' := hbox8.chg hc9 (by omega)
          have hL' := hL8.map (w' := w9) fun k' hq' _ cs hc => hc.chg hc9 (fun e => hL8.not hblk8 (by decide) (by rw [hq', e]))
          clear hF8 hkp8 hbox8 hL8 hblk8 hb9 hc9
          go_wp2_with fail
          go_roundw
          case rel => exact ⟨q + 1, by omega, by go_num, hkp', hbox', hL', hF'⟩
          case measure => simp [intOf]; omega
        · obtain rfl : q = c := by omega
          go_wp2_with fail
          go_roundw
          case rel => exact ⟨k + 1, by omega, by go_num, hkp, hbox, hL, hid (fill_doneC (mk := fun i j => (mk i j).cells) hlv hF.out)⟩
          case measure => simp [intOf]; omega
    · obtain rfl : k = N := by omega
      clear hsa
      obtain ⟨wx, hwx⟩ : ∃ wx, wx = wr := ⟨_, rfl⟩
      subst hwx
      go_wp2_with fail
      go_loopw [8, 9, 10] (fun s8 s9 s10 wz => ∃ i : Nat, i ≤ k ∧ s8 = .int .i64 i ∧ Below wx.heap.size wx wz) (fun i _ _ _ => k - (intOf i).toNat)
      case atStart => exact ⟨0, Nat.zero_le _, rfl, Below.refl _ _⟩
      case round =>
        obtain ⟨i, hi, rfl, hd⟩ := hrel
        obtain ⟨Aa', ca', hva, -, -, -, hsa⟩ := hL.segN hvN
        injection hva with a1 _ a3
        subst a1 a3
        have x0' : wr.cell? ⟨g, 0, none⟩ = some (.slice Aa k ca) := (hbox.below hd hbox.lt).cell 0
        by_cases hlt : i < k
        · obtain ⟨lv, hlv⟩ : ∃ lv, vs[i]? = some lv := ⟨_, List.getElem?_eq_getElem (by omega)⟩
          obtain ⟨A, m, c, rfl, hmc, hcm, hor⟩ := hF.out i lv hlv
          obtain ⟨g1, o1, rfl, hl1, hc1⟩ := (hsa.below hd).at_ (k := i) (by omega)
          have y1 : wr.cell? ⟨g1, o1 + i, none⟩ = some (.slice A m c) := by rw [hc1, hlv]
          have hsl : (A = none ∧ m = 0 ∧ c = 0) ∨ ∃ b, A = some ⟨b, 0, none⟩ := hor.imp id fun ⟨b, _, e, _⟩ => ⟨b, e⟩
          replace hsl := hid hsl
          have hSQ : (fun Z : World => Z.cell? ⟨g, 0, none⟩ = some (.slice (some ⟨g1, o1, none⟩) k ca) ∧ Z.cell? ⟨g1, o1 + i, none⟩ = some (.slice A m c)) wr.drew := ⟨x0', y1⟩
          clear hsa hc1
          replace hor := hid hor
          go_upto_region 14 with fail
          refine wp_region_noPanic ?_
          refine Ord.region_Q (S := fun Z : World => Z.cell? ⟨g, 0, none⟩ = some (.slice (some ⟨g1, o1, none⟩) k ca) ∧ Z.cell? ⟨g1, o1 + i, none⟩ = some (.slice A m c)) 999 (.one 0 true (.one 1 true (.one 2 true (.one 3 true (.one 4 true (.one 5 true (.one 6 true (.one 7 true (.one 8 true (.one 9 true (.one 10 true (.one 11 true (.one 12 true (.one 13 true (.one 14 true (.one 15 true (.one 16 true .nil))))))))))))))))) (by kernel_rfl) (by kernel_rfl) (by kernel_rfl) (by decide) (fun _ _ _ _ _ h => h) (hSQ) (fun hS0 => ?_)
          simp only [Ord.layT, List.getElem?_cons_zero, List.getElem?_cons_succ]
          (refine Ord.takeQ (v := ?_) (Or.inl ⟨rfl, ?_⟩) ?_; rotate_left; (intro w hSw; (try dsimp only at hSw); go_simp; try (with_reducible rfl)); (try simp only [Act.put, List.setIfInBounds_toArray, List.set_cons_zero, List.set_cons_succ]))
          (refine Ord.takeQ (v := ?_) (Or.inl ⟨rfl, ?_⟩) ?_; rotate_left; (intro w hSw; (try dsimp only at hSw); go_simp; try (with_reducible rfl)); (try simp only [Act.put, List.setIfInBounds_toArray, List.set_cons_zero, List.set_cons_succ]))
          (refine Ord.takeQ (v := ?_) (Or.inl ⟨rfl, ?_⟩) ?_; rotate_left; (intro w hSw; (try dsimp only at hSw); go_simp; try (with_reducible rfl)); (try simp only [Act.put, List.setIfInBounds_toArray, List.set_cons_zero, List.set_cons_succ]))
          (refine Ord.takeQ (v := ?_) (Or.inl ⟨rfl, ?_⟩) ?_; rotate_left; (intro w hSw; (try dsimp only at hSw); go_simp; try (with_reducible rfl)); (try simp only [Act.put, List.setIfInBounds_toArray, List.set_cons_zero, List.set_cons_succ]))
          (refine Ord.takeQ (v := ?_) (Or.inl ⟨rfl, ?_⟩) ?_; rotate_left; (intro w hSw; (try dsimp only at hSw); go_simp; try (with_reducible rfl)); (try simp only [Act.put, List.setIfInBounds_toArray, List.set_cons_zero, List.set_cons_succ]))
          (refine Ord.takeQ (v := ?_) (Or.inl ⟨rfl, ?_⟩) ?_; rotate_left; (intro w hSw; (try dsimp only at hSw); go_simp; try (with_reducible rfl)); (try simp only [Act.put, List.setIfInBounds_toArray, List.set_cons_zero, List.set_cons_succ]))
          (refine Ord.takeQ (v := ?_) (Or.inl ⟨rfl, ?_⟩) ?_; rotate_left; (intro w hSw; (try dsimp only at hSw); go_simp; try (with_reducible rfl)); (try simp only [Act.put, List.setIfInBounds_toArray, List.set_cons_zero, List.set_cons_succ]))
          (refine Ord.takeQ (v := ?_) (Or.inl ⟨rfl, ?_⟩) ?_; rotate_left; (intro w hSw; (try dsimp only at hSw); go_simp; try (with_reducible rfl)); (try simp only [Act.put, List.setIfInBounds_toArray, List.set_cons_zero, List.set_cons_succ]))
          (refine Ord.takeQ (v := ?_) (Or.inl ⟨rfl, ?_⟩) ?_; rotate_left; (intro w hSw; (try dsimp only at hSw); go_simp; try (with_reducible rfl)); (try simp only [Act.put, List.setIfInBounds_toArray, List.set_cons_zero, List.set_cons_succ]))
          (refine Ord.takeQ (v := ?_) (Or.inl ⟨rfl, ?_⟩) ?_; rotate_left; (intro w hSw; (try dsimp only at hSw); go_simp; try (with_reducible rfl)); (try simp only [Act.put, List.setIfInBounds_toArray, List.set_cons_zero, List.set_cons_succ]))
          (refine Ord.takeQ (v := ?_) (Or.inl ⟨rfl, ?_⟩) ?_; rotate_left; (intro w hSw; (try dsimp only at hSw); go_simp; try (with_reducible rfl)); (try simp only [Act.put, List.setIfInBounds_toArray, List.set_cons_zero, List.set_cons_succ]))
          (refine Ord.takeQ (v := ?_) (Or.inl ⟨rfl, ?_⟩) ?_; rotate_left; (intro w hSw; (try dsimp only at hSw); go_simp; try (with_reducible rfl)); (try simp only [Act.put, List.setIfInBounds_toArray, List.set_cons_zero, List.set_cons_succ]))
          (refine Ord.takeQ (v := ?_) (Or.inl ⟨rfl, ?_⟩) ?_; rotate_left; (intro w hSw; (try dsimp only at hSw); go_simp; try (with_reducible rfl)); (try simp only [Act.put, List.setIfInBounds_toArray, List.set_cons_zero, List.set_cons_succ]))
          (refine Ord.takeQ (v := ?_) (Or.inl ⟨rfl, ?_⟩) ?_; rotate_left; (intro w hSw; (try dsimp only at hSw); go_simp; try (with_reducible rfl)); (try simp only [Act.put, List.setIfInBounds_toArray, List.set_cons_zero, List.set_cons_succ]))
          (refine Ord.takeQ (v := ?_) (Or.inl ⟨rfl, ?_⟩) ?_; rotate_left; (intro w hSw; (try dsimp only at hSw); go_simp; try (with_reducible rfl)); (try simp only [Act.put, List.setIfInBounds_toArray, List.set_cons_zero, List.set_cons_succ]))
          (refine Ord.takeQ (v := .slice A c c) (Or.inl ⟨rfl, by (intro w hSw; rcases hsl.out with ⟨rfl, rfl, rfl⟩ | ⟨b, rfl⟩ <;> (go_simp; try (with_reducible rfl)))⟩) ?_; (try simp only [Act.put, List.setIfInBounds_toArray, List.set_cons_zero, List.set_cons_succ]))
          (refine Ord.takeQ (v := ?_) (Or.inl ⟨rfl, ?_⟩) ?_; rotate_left; (intro w hSw; (try dsimp only at hSw); go_simp; try (with_reducible rfl)); (try simp only [Act.put, List.setIfInBounds_toArray, List.set_cons_zero, List.set_cons_succ]))
          refine Ord.doneQ (NoPanic.normal ?_)
          clear hSQ
          go_wp2_with fail
          go_loopw [10] (fun s10 wz => ∃ q : Nat, q ≤ c ∧ s10 = .int .i64 q ∧ Below wx.heap.size wx wz) (fun i _ => c - (intOf i).toNat)
          case atStart => exact ⟨0, Nat.zero_le _, rfl, hd.drew⟩
          case round =>
            clear hd x0' y1
            obtain ⟨q, hq, rfl, hd⟩ := hrel
            by_cases hqc : q < c
            · rcases hor.out with ⟨_, _, h0⟩ | ⟨b, cur, rfl, hbB, hblk, hsz, hmk⟩
              · omega
              have hrng : ∀ Z : World, Blk Z b 59 cur → (fun Z : World => Z.rangeAt b (q * 57) (mk i q).arr.toList) Z := by
                intro Z hZ j v hj
                rw [hZ.cell]
                exact hmk q hlt hqc j v hj
              have hq9 : q + 1 ≤ 9223372036854775807 := by have := hML.out; omega
              have hoo := hmo i q (by omega) (by omega)
              have hneq : ∀ w, (binOp .neq 59 (.agg (mk i q).arr) (.agg (mk i q).arr)).run Try.prog w = .ok (.bool false) w := neq_pq _ hoo
              have hneq2 : ∀ w, (binOp .neq 59 (.agg (mk i q).arr) (.agg (mk i q).arr)).run Try.prog w = .ok (.bool false) w := hneq
              have hneq3 : ∀ w, (binOp .neq 59 (.agg (mk i q).arr) (.agg (mk i q).arr)).run Try.prog w = .ok (.bool false) w := hneq
              have hSQ : (fun Z : World => Z.rangeAt b (q * 57) (mk i q).arr.toList) wr.drew := hrng _ (hblk.below hd.drew hblk.lt)
              go_upto_region 18 with fail
              refine wp_region_noPanic ?_
              refine Ord.region_Q (S := fun Z : World => Z.rangeAt b (q * 57) (mk i q).arr.toList) 999 (.one 0 true (.one 1 true (.one 2 true (.one 3 true (.one 4 true (.one 5 true (.one 6 true (.one 7 false (.one 8 true .nil))))))))) (by kernel_rfl) (by kernel_rfl) (by kernel_rfl) (by decide) (fun _ _ _ _ _ h => h) (hSQ) (fun hS0 => ?_)
              simp only [Ord.layT, List.getElem?_cons_zero, List.getElem?_cons_succ]
              (refine Ord.takeQ (v := ?_) (Or.inl ⟨rfl, ?_⟩) ?_; rotate_left; (intro w hSw; (try dsimp only at hSw); go_simp; try (with_reducible rfl)); (try simp only [Act.put, List.setIfInBounds_toArray, List.set_cons_zero, List.set_cons_succ]))
              (refine Ord.takeQ (v := ?_) (Or.inl ⟨rfl, ?_⟩) ?_; rotate_left; (intro w hSw; (try dsimp only at hSw); go_simp; try (with_reducible rfl)); (try simp only [Act.put, List.setIfInBounds_toArray, List.set_cons_zero, List.set_cons_succ]))
              (refine Ord.takeQ (v := ?_) (Or.inl ⟨rfl, ?_⟩) ?_; rotate_left; (intro w hSw; (try dsimp only at hSw); go_simp; try (with_reducible rfl)); (try simp only [Act.put, List.setIfInBounds_toArray, List.set_cons_zero, List.set_cons_succ]))
              (refine Ord.takeQ (yieldsIf_load_mid rfl _ _ rfl b (q * 57) rfl _ _ (fun w' h => h) Try.underlying59 rfl (info_pq_list _)) ?_; (try simp only [Act.put, List.setIfInBounds_toArray, List.set_cons_zero, List.set_cons_succ]))
              (refine Ord.takeQ (v := ?_) (Or.inl ⟨rfl, ?_⟩) ?_; rotate_left; (intro w hSw; (try dsimp only at hSw); go_simp; try (with_reducible rfl)); (try simp only [Act.put, List.setIfInBounds_toArray, List.set_cons_zero, List.set_cons_succ]))
              (refine Ord.takeQ (v := ?_) (Or.inl ⟨rfl, ?_⟩) ?_; rotate_left; (intro w hSw; (try dsimp only at hSw); go_simp; try (with_reducible rfl)); (try simp only [Act.put, List.setIfInBounds_toArray, List.set_cons_zero, List.set_cons_succ]))
              (refine Ord.takeQ (v := ?_) (Or.inl ⟨rfl, ?_⟩) ?_; rotate_left; (intro w hSw; (try dsimp only at hSw); go_simp; try (with_reducible rfl)); (try simp only [Act.put, List.setIfInBounds_toArray, List.set_cons_zero, List.set_cons_succ]))
              refine Ord.aloneQ rfl rfl (fun K hK => ?_)
              go_simp
              refine (hm.out i q _ (by omega) (by omega)).mono ?_
              rintro e w8 ⟨rfl, hb8⟩
              have hd8 : Below wx.heap.size wx w8 := (hd.drew).trans (hb8.mono hd.drew.size)
              go_wp2_with fail
              (try simp only [Act.put, List.setIfInBounds_toArray, List.set_cons_zero, List.set_cons_succ])
              refine hK.out _ _ (hrng _ (hblk.below hd8 hblk.lt)) (fun _ => ?_)
              clear hK K
              (refine Ord.takeQ (v := ?_) (Or.inl ⟨rfl, ?_⟩) ?_; rotate_left; (intro w hSw; (try dsimp only at hSw); go_simp; try (with_reducible rfl)); (try simp only [Act.put, List.setIfInBounds_toArray, List.set_cons_zero, List.set_cons_succ]))
              refine Ord.doneQ (NoPanic.normal ?_)
              clear hSQ
              go_wp2_with fail
              go_roundw
              case rel => exact ⟨q + 1, by omega, by go_num, hd8⟩
              case measure => simp [intOf]; omega
            · obtain rfl : q = c := by omega
              go_wp2_with fail
              go_roundw
              case rel => exact ⟨i + 1, by omega, by go_num, hd⟩
              case measure => simp [intOf]; omega
        · obtain rfl : i = k := by omega
          have hbd := hbox.below hd hbox.lt
          have f0 : wr.frozen? ⟨g, 0, none⟩ = false := hbd.free 0
          have f1 : wr.frozen? ⟨g, 1, none⟩ = false := hbd.free 1
          have f2 : wr.frozen? ⟨g, 2, none⟩ = false := hbd.free 2
          have c1 : wr.cell? ⟨g, 1, none⟩ = some v2 := hbd.cell 1
          have c2 : wr.cell? ⟨g, 2, none⟩ = some (.int .i64 held) := hbd.cell 2
          have hkf := hkp.trans (BookKeep.of_below hd (by have := hbox.lt; omega))
          clear hsa
          go_wp2_with fail
          go_ret
          exact ⟨rfl, ((hkf.trans (BookKeep.set _ g B 0 _)).trans (BookKeep.set _ g B 1 _)).trans (BookKeep.set _ g B 2 _)⟩
end Go.Proofs.Yteghacdpfhohoaa
