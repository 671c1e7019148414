/-
  casementbook.Book[int64].Apart.
-/
import Derived.Test.YteghacdpfhohoaaBookD
namespace Go.Proofs.Yteghacdpfhohoaa
open Go.RowKit Num Mem
set_option linter.unusedVariables false
set_option linter.unusedSimpArgs false
namespace Mem
/-- the room of v, where p says so, holds marks. -/
def Filled (ty : TypeId) (B : Nat) (w : World) (v : Value) (p : Nat → Prop) (mk : Nat → Value) : Prop :=
  ∃ A n c, v = .slice A n c ∧ n ≤ c ∧ c ≤ maxLen ∧ ((A = none ∧ n = 0 ∧ c = 0) ∨ ∃ b cur, A = some ⟨b, 0, none⟩ ∧ B ≤ b ∧ Blk w b ty cur ∧ cur.size = c ∧ ∀ j, p j → j < c → cur[j]? = some (mk j))
theorem Filled.map {ty : TypeId} {B : Nat} {w w' : World} {v : Value} {p p' : Nat → Prop} {mk : Nat → Value} (h : Filled ty B w v p mk) (hk : ∀ b, v.ownBlock = some b → B ≤ b → ∀ cs, Blk w b ty cs → Blk w' b ty cs) (hp : ∀ j, p' j → p j) : Filled ty B w' v p' mk := by
  obtain ⟨A, n, c, rfl, h1, h2, h3⟩ := h
  refine ⟨A, n, c, rfl, h1, h2, h3.imp id fun ⟨b, cur, e, hb, hc, hs, hm⟩ => ⟨b, cur, e, hb, hk b (by rw [e]; rfl) hb _ hc, hs, fun j hj => hm j (hp j hj)⟩⟩
theorem filled_own {ty : TypeId} {B n : Nat} {w : World} {v : Value} {xs : List Value} {mk : Nat → Value} (h : w.ownsRow B ty 1 v n xs) : Filled ty B w v (fun _ => False) mk := by
  rcases h.2 with ⟨rfl, h0⟩ | ⟨g, cap, cur, rfl, hg, hh, hnc, hcm, hcs, _⟩
  · exact ⟨none, 0, 0, rfl, Nat.le_refl _, Nat.zero_le _, .inl ⟨rfl, rfl, rfl⟩⟩
  · exact ⟨_, n, cap, rfl, hnc, hcm, .inr ⟨g, cur, rfl, hg, hh, by simpa using hcs, fun j hj => hj.elim⟩⟩
theorem fill_step {ty : TypeId} {B k q b n c : Nat} {w : World} {vs : List Value} {mk : Nat → Nat → Value} (hap : vs.Pairwise Two) (hk : vs[k]? = some (.slice (some ⟨b, 0, none⟩) n c)) (hq : q < c)
    (h : ∀ i v, vs[i]? = some v → Filled ty B w v (fun j => i < k ∨ (i = k ∧ j < q)) (mk i)) :
    ∀ i v, vs[i]? = some v → Filled ty B (w.setCell ⟨b, q, none⟩ (mk k q)) v (fun j => i < k ∨ (i = k ∧ j < q + 1)) (mk i) := by
  intro i v hv
  by_cases hi : i = k
  · subst hi
    rw [hk] at hv
    injection hv with hv
    subst hv
    obtain ⟨A, n', c', e, h1, h2, h3⟩ := h i _ hk
    injection e with e1 e2 e3
    subst e1 e2 e3
    refine ⟨_, _, _, rfl, h1, h2, .inr ?_⟩
    rcases h3 with ⟨h3, _⟩ | ⟨b', cur, e, hb, hc, hs, hm⟩
    · cases h3
    · injection e with e
      injection e with e _ _
      subst e
      refine ⟨b, _, rfl, hb, hc.put q _, by simpa using hs, fun j hj hjc => ?_⟩
      by_cases hjq : j = q
      · subst hjq
        simp [hs, hq]
      · rw [Array.getElem?_setIfInBounds, if_neg (by omega)]
        exact hm j (by omega) hjc
  · refine (h i v hv).map (fun b' hb' _ cs hc => hc.far ?_ _) (fun j hj => by omega)
    intro e
    simp only at e
    subst e
    have h1 := (List.getElem?_eq_some_iff.1 hv).1
    have h2 := (List.getElem?_eq_some_iff.1 hk).1
    have e1 : vs[i] = v := (List.getElem?_eq_some_iff.1 hv).2
    have e2 : vs[k] = .slice (some ⟨b', 0, none⟩) n c := (List.getElem?_eq_some_iff.1 hk).2
    rw [List.pairwise_iff_getElem] at hap
    rcases Nat.lt_or_gt_of_ne hi with hlt | hlt
    · have := hap i k h1 h2 hlt
      rw [e1, e2] at this
      rcases this with ht | ht
      · rw [hb'] at ht; cases ht
      · exact ht (by rw [hb']; rfl)
    · have := (hap k i h2 h1 hlt).symm
      rw [e1, e2] at this
      rcases this with ht | ht
      · rw [hb'] at ht; cases ht
      · exact ht (by rw [hb']; rfl)
theorem fill_done {ty : TypeId} {B k m c : Nat} {w : World} {A : Option Addr} {vs : List Value} {mk : Nat → Nat → Value} (hk : vs[k]? = some (.slice A m c))
    (h : ∀ i v, vs[i]? = some v → Filled ty B w v (fun j => i < k ∨ (i = k ∧ j < c)) (mk i)) : ∀ i v, vs[i]? = some v → Filled ty B w v (fun _ => i < k + 1) (mk i) := by
  intro i v hv
  obtain ⟨A', n', c', e, h1, h2, h3⟩ := h i v hv
  refine ⟨A', n', c', e, h1, h2, h3.imp id fun ⟨b, cur, e2, hb, hc, hs, hm⟩ => ⟨b, cur, e2, hb, hc, hs, fun j hj hjc => hm j ?_ hjc⟩⟩
  by_cases hi : i = k
  · subst hi
    rw [hk] at hv
    injection hv with hv
    rw [e] at hv
    injection hv with _ _ e3
    exact .inr ⟨rfl, by omega⟩
  · exact .inl (by omega)
theorem keep_set {ty : TypeId} {w : World} {g B b i : Nat} {cs : Array Value} {u : Value} (hc : Blk w b ty cs) (hb : B ≤ b) : BookKeep ty w (w.setCell ⟨b, i, none⟩ u) g B :=
  ⟨fun D _ h2 => (Below.refl _ _).setCell (by show D ≤ b; omega) u, fun {k t cs'} hk _ ht => hk.far (by
    rintro rfl
    unfold Blk at hk hc
    rw [hc] at hk
    simp only [Option.some.injEq, Obj.cells.injEq] at hk
    exact ht hk.2.1.symm) u, by simp⟩
theorem OffRow.keep {ty e : TypeId} {w w' : World} {g B : Nat} {v : Value} {xs : List Value} (h : OffRow w B e v xs) (hk : BookKeep ty w w' g B) (hg : g < B) (ht : e ≠ ty) : OffRow w' B e v xs :=
  h.map fun k hq _ cs hc => hk.blk hc (by have := (h.lt k hq).1; omega) ht
theorem BookKeep.drawn {ty : TypeId} {w a b : World} {g B : Nat} (h : BookKeep ty w a g B) (hd : Drawn a b) : BookKeep ty w b g B := by
  obtain ⟨n, rfl⟩ := hd
  exact ⟨fun D h1 h2 => ⟨(h.below D h1 h2).os, (h.below D h1 h2).tape, (h.below D h1 h2).output, (h.below D h1 h2).size, (h.below D h1 h2).block⟩, fun hb h1 h2 => h.blk hb h1 h2, h.size⟩
end Mem
set_option maxRecDepth 100000 in
set_option maxHeartbeats 8000000 in
theorem book_Apart_int64 (g B S n f : Nat) (mk : Nat → Nat → Int) (w : World) (hn : n ≤ 3001) (hcf : ∀ (args : Array Value) (w : World), (callFunc f args).run Try.prog w = .ok (.enter f args) w) (hm : ∀ (i j : Nat) (w : World), i ≤ 3001 → j ≤ maxLen → Calls Try.prog f #[.int .i64 i, .int .i64 j] w fun e w' => e = .returned (.int .i64 (mk i j)) ∧ w = w')
    (hb : BookAt 80 27 2 1 flI (fun _ => True) w g B S n) :
    Calls Try.prog 43 #[.pointer (some ⟨g, 0, none⟩), .func (.func f) #[] #[]] w fun e w' => e = .returned (.bool true) ∧ BookKeep 2 w w' g B := by
  obtain ⟨Ls, v1, v2, held, hLn, hK⟩ := hb.ex
  clear hb
  have hgB := hK.gB
  obtain ⟨N, hN⟩ : ∃ N, Ls.length = N := ⟨_, rfl⟩
  go_enter Try.func43, Try.ntmps43
  go_wp2_with fail
  refine (book_Stays_int64 g B S Ls v1 v2 held w (by omega) hK).mono ?_
  rintro e w1 ⟨rfl, hB1, hx1⟩
  clear hK
  obtain ⟨vs, hvs⟩ : ∃ vs, Ls.map (·.v) = vs := ⟨_, rfl⟩
  have hvN : vs.length = N := by rw [← hvs]; simpa using hN
  have hap : vs.Pairwise Two := by
    rw [← hvs, List.pairwise_map]
    exact hB1.apart
  have hF0 : ∀ i v, vs[i]? = some v → Filled 2 B w1 v (fun _ => i < 0) (fun j => .int .i64 (mk i j)) := by
    intro i v hv
    rw [← hvs, List.getElem?_map] at hv
    cases ht : Ls[i]? with
    | none => rw [ht] at hv; simp at hv
    | some t =>
      rw [ht] at hv
      have : t.v = v := by simpa using hv
      subst this
      exact (filled_own (hB1.rows t (List.mem_of_getElem? ht)).list).map (fun _ _ _ _ hc => hc) (fun j hj => absurd hj (Nat.not_lt_zero _))
  have hL0 := hB1.lists
  rw [hvs] at hL0
  have hbox0 := hB1.blk
  have hk0 : BookKeep 2 w w1 g B := hx1.keep
  obtain ⟨Aa, ca, rfl, hca, hca2, hna, -⟩ := hL0.segN hvN
  have hNn : N ≤ 3001 := by omega
  have hML : maxLen = 9223372036854775807 := by decide
  replace hML := hid hML
  clear hB1 hx1 hvs hna hN
  replace hap := hid hap
  replace hm := hid hm
  go_wp2_with fail
  go_loopw [5, 6, 7] (fun s5 s6 s7 wr => ∃ k : Nat, k ≤ N ∧ s5 = .int .i64 k ∧ BookKeep 2 w wr g B ∧ Blk wr g 80 #[.slice Aa N ca, v2, .int .i64 held, .bool false] ∧ OffRow wr B 27 (.slice Aa N ca) vs ∧ Hid (∀ i v, vs[i]? = some v → Filled 2 B wr v (fun _ => i < k) (fun j => .int .i64 (mk i j)))) (fun i _ _ _ => N - (intOf i).toNat)
  case atStart => exact ⟨0, Nat.zero_le _, rfl, hk0, hbox0, hL0, hid hF0⟩
  case round =>
    clear hF0 hL0 hbox0 hk0
    obtain ⟨k, hk, rfl, hkp, hbox, hL, hF⟩ := hrel
    obtain ⟨Aa', ca', hva, -, -, -, hsa⟩ := hL.segN hvN
    injection hva with a1 _ a3
    subst a1 a3
    have x0 : wr.cell? ⟨g, 0, none⟩ = some (.slice Aa N ca) := hbox.cell 0
    by_cases hlt : k < N
    · obtain ⟨lv, hlv⟩ : ∃ lv, vs[k]? = some lv := ⟨_, List.getElem?_eq_getElem (by omega)⟩
      obtain ⟨A, m, c, rfl, hmc, hcm, hor⟩ := hF.out k lv hlv
      obtain ⟨g1, o1, rfl, hl1, hc1⟩ := hsa.at_ (k := k) (by omega)
      have y1 : wr.cell? ⟨g1, o1 + k, none⟩ = some (.slice A m c) := by rw [hc1, hlv]
      have hsl : (A = none ∧ m = 0 ∧ c = 0) ∨ ∃ b, A = some ⟨b, 0, none⟩ := hor.imp id fun ⟨b, _, e, _⟩ => ⟨b, e⟩
      replace hsl := hid hsl
      have hSQ : (fun Z : World => Z.cell? ⟨g, 0, none⟩ = some (.slice (some ⟨g1, o1, none⟩) N ca) ∧ Z.cell? ⟨g1, o1 + k, none⟩ = some (.slice A m c)) wr.drew := ⟨x0, y1⟩
      clear hsa hc1 hor
      go_upto_region 6 with fail
      refine wp_region_noPanic ?_
      refine Ord.region_Q (S := fun Z : World => Z.cell? ⟨g, 0, none⟩ = some (.slice (some ⟨g1, o1, none⟩) N ca) ∧ Z.cell? ⟨g1, o1 + k, none⟩ = some (.slice A m c)) 999 (.one 0 true (.one 1 true (.one 2 true (.one 3 true (.one 4 true (.one 5 true (.one 6 true (.one 7 true (.one 8 true (.one 9 true (.one 10 true (.one 11 true (.one 12 true (.one 13 true (.one 14 true (.one 15 true (.one 16 true .nil))))))))))))))))) (by kernel_rfl) (by kernel_rfl) (by kernel_rfl) (by decide) (fun _ _ _ _ _ h => h) (hSQ) (fun hS0 => ?_)
      simp only [Ord.layT, List.getElem?_cons_zero, List.getElem?_cons_succ]
      (refine Ord.takeQ (v := ?_) (Or.inl ⟨rfl, ?_⟩) ?_; rotate_left; (intro w hSw; (try dsimp only at hSw); go_simp; try (with_reducible rfl)); (try simp only [Act.put, List.setIfInBounds_toArray, List.set_cons_zero, List.set_cons_succ]))
      (refine Ord.takeQ (v := ?_) (Or.inl ⟨rfl, ?_⟩) ?_; rotate_left; (intro w hSw; (try dsimp only at hSw); go_simp; try (with_reducible rfl)); (try simp only [Act.put, List.setIfInBounds_toArray, List.set_cons_zero, List.set_cons_succ]))
      (refine Ord.takeQ (v := ?_) (Or.inl ⟨rfl, ?_⟩) ?_; rotate_left; (intro w hSw; (try dsimp only at hSw); go_simp; try (with_reducible rfl)); (try simp only [Act.put, List.setIfInBounds_toArray, List.set_cons_zero, List.set_cons_succ]))
      (refine Ord.takeQ (v := ?_) (Or.inl ⟨rfl, ?_⟩) ?_; rotate_left; (intro w hSw; (try dsimp only at hSw); go_simp; try (with_reducible rfl)); (try simp only [Act.put, List.setIfInBounds_toArray, List.set_cons_zero, List.set_cons_succ]))
      (refine Ord.takeQ (v := ?_) (Or.inl ⟨rfl, ?_⟩) ?_; rotate_left; (intro w hSw; (try dsimp only at hSw); go_simp; try (with_reducible rfl)); (try simp only [Act.put, List.setIfInBounds_toArray, List.set_cons_zero, List.set_cons_succ]))
      (refine Ord.takeQ (v := ?_) (Or.inl ⟨rfl, ?_⟩) ?_; rotate_left; (intro w hSw; (try dsimp only at hSw); go_simp; try (with_reducible rfl)); (try simp only [Act.put, List.setIfInBounds_toArray, List.set_cons_zero, List.set_cons_succ]))
      (refine Ord.takeQ (v := ?_) (Or.inl ⟨rfl, ?_⟩) ?_; rotate_left; (intro w hSw; (try dsimp only at hSw); go_simp; try (with_reducible rfl)); (try simp only [Act.put, List.setIfInBounds_toArray, List.set_cons_zero, List.set_cons_succ]))
      (refine Ord.takeQ (v := ?_) (Or.inl ⟨rfl, ?_⟩) ?_; rotate_left; (intro w hSw; (try dsimp only at hSw); go_simp; try (with_reducible rfl)); (try simp only [Act.put, List.setIfInBounds_toArray, List.set_cons_zero, List.set_cons_succ]))
      (refine Ord.takeQ (v := ?_) (Or.inl ⟨rfl, ?_⟩) ?_; rotate_left; (intro w hSw; (try dsimp only at hSw); go_simp; try (with_reducible rfl)); (try simp only [Act.put, List.setIfInBounds_toArray, List.set_cons_zero, List.set_cons_succ]))
      (refine Ord.takeQ (v := ?_) (Or.inl ⟨rfl, ?_⟩) ?_; rotate_left; (intro w hSw; (try dsimp only at hSw); go_simp; try (with_reducible rfl)); (try simp only [Act.put, List.setIfInBounds_toArray, List.set_cons_zero, List.set_cons_succ]))
      (refine Ord.takeQ (v := ?_) (Or.inl ⟨rfl, ?_⟩) ?_; rotate_left; (intro w hSw; (try dsimp only at hSw); go_simp; try (with_reducible rfl)); (try simp only [Act.put, List.setIfInBounds_toArray, List.set_cons_zero, List.set_cons_succ]))
      (refine Ord.takeQ (v := ?_) (Or.inl ⟨rfl, ?_⟩) ?_; rotate_left; (intro w hSw; (try dsimp only at hSw); go_simp; try (with_reducible rfl)); (try simp only [Act.put, List.setIfInBounds_toArray, List.set_cons_zero, List.set_cons_succ]))
      (refine Ord.takeQ (v := ?_) (Or.inl ⟨rfl, ?_⟩) ?_; rotate_left; (intro w hSw; (try dsimp only at hSw); go_simp; try (with_reducible rfl)); (try simp only [Act.put, List.setIfInBounds_toArray, List.set_cons_zero, List.set_cons_succ]))
      (refine Ord.takeQ (v := ?_) (Or.inl ⟨rfl, ?_⟩) ?_; rotate_left; (intro w hSw; (try dsimp only at hSw); go_simp; try (with_reducible rfl)); (try simp only [Act.put, List.setIfInBounds_toArray, List.set_cons_zero, List.set_cons_succ]))
      (refine Ord.takeQ (v := ?_) (Or.inl ⟨rfl, ?_⟩) ?_; rotate_left; (intro w hSw; (try dsimp only at hSw); go_simp; try (with_reducible rfl)); (try simp only [Act.put, List.setIfInBounds_toArray, List.set_cons_zero, List.set_cons_succ]))
      (refine Ord.takeQ (v := .slice A c c) (Or.inl ⟨rfl, by (intro w hSw; rcases hsl.out with ⟨rfl, rfl, rfl⟩ | ⟨b, rfl⟩ <;> (go_simp; try (with_reducible rfl)))⟩) ?_; (try simp only [Act.put, List.setIfInBounds_toArray, List.set_cons_zero, List.set_cons_succ]))
      (refine Ord.takeQ (v := ?_) (Or.inl ⟨rfl, ?_⟩) ?_; rotate_left; (intro w hSw; (try dsimp only at hSw); go_simp; try (with_reducible rfl)); (try simp only [Act.put, List.setIfInBounds_toArray, List.set_cons_zero, List.set_cons_succ]))
      refine Ord.doneQ (NoPanic.normal ?_)
      clear hSQ
      go_wp2_with fail
      have hFi : Hid (∀ i v, vs[i]? = some v → Filled 2 B wr v (fun j => i < k ∨ (i = k ∧ j < 0)) (fun j => .int .i64 (mk i j))) := hid fun i v hv => (hF.out i v hv).map (fun _ _ _ _ hc => hc) (fun j hj => by omega)
      go_loopw [7] (fun s7 wz => ∃ q : Nat, q ≤ c ∧ s7 = .int .i64 q ∧ BookKeep 2 w wz g B ∧ Blk wz g 80 #[.slice (some ⟨g1, o1, none⟩) N ca, v2, .int .i64 held, .bool false] ∧ OffRow wz B 27 (.slice (some ⟨g1, o1, none⟩) N ca) vs ∧ Hid (∀ i v, vs[i]? = some v → Filled 2 B wz v (fun j => i < k ∨ (i = k ∧ j < q)) (fun j => .int .i64 (mk i j)))) (fun i _ => c - (intOf i).toNat)
      case atStart => exact ⟨0, Nat.zero_le _, rfl, hkp.drawn ⟨1, rfl⟩, hbox.drew, hL.drew, hFi⟩
      case round =>
        clear hkp hbox hL hF hFi x0 y1
        obtain ⟨q, hq, rfl, hkp, hbox, hL, hF⟩ := hrel
        by_cases hqc : q < c
        · obtain ⟨A', m', c', e, _, _, hor⟩ := hF.out k _ hlv
          injection e with e1 e2 e3
          subst e1 e2 e3
          rcases hor with ⟨_, _, h0⟩ | ⟨b, cur, rfl, hbB, hblk, hsz, -⟩
          · omega
          obtain ⟨u0, hu0⟩ : ∃ u0, cur[q]? = some u0 := ⟨_, Array.getElem?_eq_getElem (by omega)⟩
          have z0 : wr.cell? ⟨b, q, none⟩ = some u0 := (hblk.cell q).trans hu0
          have zf : wr.frozen? ⟨b, q, none⟩ = false := hblk.free q
          have hF' := hid (fill_step (mk := fun i j => .int .i64 (mk i j)) hap.out hlv hqc hF.out)
          have hkp' : BookKeep 2 w (wr.setCell ⟨b, q, none⟩ (.int .i64 (mk k q))) g B := hkp.trans (keep_set hblk hbB)
          have hbox' := hbox.far (p := ⟨b, q, none⟩) (by show g ≠ b; omega) (.int .i64 (mk k q))
          have hL' := hL.far (p := ⟨b, q, none⟩) (hL.not hblk (by decide)) (.int .i64 (mk k q))
          clear hF hkp hbox hL hblk
          have hq9 : q + 1 ≤ 9223372036854775807 := by have := hML.out; omega
          go_wp2_with fail
          refine (hm.out k q _ (by omega) (by omega)).mono ?_
          rintro e w' ⟨rfl, rfl⟩
          go_wp2_with fail
          go_roundw
          case rel => exact ⟨q + 1, by omega, by go_num, hkp', hbox', hL', hF'⟩
          case measure => simp [intOf]; omega
        · obtain rfl : q = c := by omega
          go_wp2_with fail
          go_roundw
          case rel => exact ⟨k + 1, by omega, by go_num, hkp, hbox, hL, hid (fill_done hlv hF.out)⟩
          case measure => simp [intOf]; omega
    · obtain rfl : k = N := by omega
      clear hsa
      obtain ⟨wx, hwx⟩ : ∃ wx, wx = wr := ⟨_, rfl⟩
      subst hwx
      go_wp2_with fail
      go_loopw [8, 9, 10] (fun s8 s9 s10 wz => ∃ i : Nat, i ≤ k ∧ s8 = .int .i64 i ∧ Drawn wx wz) (fun i _ _ _ => k - (intOf i).toNat)
      case atStart => exact ⟨0, Nat.zero_le _, rfl, Drawn.refl _⟩
      case round =>
        obtain ⟨i, hi, rfl, hd⟩ := hrel
        obtain ⟨Aa', ca', hva, -, -, -, hsa⟩ := hL.segN hvN
        injection hva with a1 _ a3
        subst a1 a3
        have x0' : wr.cell? ⟨g, 0, none⟩ = some (.slice Aa k ca) := (hbox.drawn hd).cell 0
        by_cases hlt : i < k
        · obtain ⟨lv, hlv⟩ : ∃ lv, vs[i]? = some lv := ⟨_, List.getElem?_eq_getElem (by omega)⟩
          obtain ⟨A, m, c, rfl, hmc, hcm, hor⟩ := hF.out i lv hlv
          obtain ⟨g1, o1, rfl, hl1, hc1⟩ := (hsa.drawn hd).at_ (k := i) (by omega)
          have y1 : wr.cell? ⟨g1, o1 + i, none⟩ = some (.slice A m c) := by rw [hc1, hlv]
          have hsl : (A = none ∧ m = 0 ∧ c = 0) ∨ ∃ b, A = some ⟨b, 0, none⟩ := hor.imp id fun ⟨b, _, e, _⟩ => ⟨b, e⟩
          replace hsl := hid hsl
          have hSQ : (fun Z : World => Z.cell? ⟨g, 0, none⟩ = some (.slice (some ⟨g1, o1, none⟩) k ca) ∧ Z.cell? ⟨g1, o1 + i, none⟩ = some (.slice A m c)) wr.drew := ⟨x0', y1⟩
          clear hsa hc1
          replace hor := hid hor
          go_upto_region 14 with fail
          refine wp_region_noPanic ?_
          refine Ord.region_Q (S := fun Z : World => Z.cell? ⟨g, 0, none⟩ = some (.slice (some ⟨g1, o1, none⟩) k ca) ∧ Z.cell? ⟨g1, o1 + i, none⟩ = some (.slice A m c)) 999 (.one 0 true (.one 1 true (.one 2 true (.one 3 true (.one 4 true (.one 5 true (.one 6 true (.one 7 true (.one 8 true (.one 9 true (.one 10 true (.one 11 true (.one 12 true (.one 13 true (.one 14 true (.one 15 true (.one 16 true .nil))))))))))))))))) (by kernel_rfl) (by kernel_rfl) (by kernel_rfl) (by decide) (fun _ _ _ _ _ h => h) (hSQ) (fun hS0 => ?_)
          simp only [Ord.layT, List.getElem?_cons_zero, List.getElem?_cons_succ]
          (refine Ord.takeQ (v := ?_) (Or.inl ⟨rfl, ?_⟩) ?_; rotate_left; (intro w hSw; (try dsimp only at hSw); go_simp; try (with_reducible rfl)); (try simp only [Act.put, List.setIfInBounds_toArray, List.set_cons_zero, List.set_cons_succ]))
          (refine Ord.takeQ (v := ?_) (Or.inl ⟨rfl, ?_⟩) ?_; rotate_left; (intro w hSw; (try dsimp only at hSw); go_simp; try (with_reducible rfl)); (try simp only [Act.put, List.setIfInBounds_toArray, List.set_cons_zero, List.set_cons_succ]))
          (refine Ord.takeQ (v := ?_) (Or.inl ⟨rfl, ?_⟩) ?_; rotate_left; (intro w hSw; (try dsimp only at hSw); go_simp; try (with_reducible rfl)); (try simp only [Act.put, List.setIfInBounds_toArray, List.set_cons_zero, List.set_cons_succ]))
          (refine Ord.takeQ (v := ?_) (Or.inl ⟨rfl, ?_⟩) ?_; rotate_left; (intro w hSw; (try dsimp only at hSw); go_simp; try (with_reducible rfl)); (try simp only [Act.put, List.setIfInBounds_toArray, List.set_cons_zero, List.set_cons_succ]))
          (refine Ord.takeQ (v := ?_) (Or.inl ⟨rfl, ?_⟩) ?_; rotate_left; (intro w hSw; (try dsimp only at hSw); go_simp; try (with_reducible rfl)); (try simp only [Act.put, List.setIfInBounds_toArray, List.set_cons_zero, List.set_cons_succ]))
          (refine Ord.takeQ (v := ?_) (Or.inl ⟨rfl, ?_⟩) ?_; rotate_left; (intro w hSw; (try dsimp only at hSw); go_simp; try (with_reducible rfl)); (try simp only [Act.put, List.setIfInBounds_toArray, List.set_cons_zero, List.set_cons_succ]))
          (refine Ord.takeQ (v := ?_) (Or.inl ⟨rfl, ?_⟩) ?_; rotate_left; (intro w hSw; (try dsimp only at hSw); go_simp; try (with_reducible rfl)); (try simp only [Act.put, List.setIfInBounds_toArray, List.set_cons_zero, List.set_cons_succ]))
          (refine Ord.takeQ (v := ?_) (Or.inl ⟨rfl, ?_⟩) ?_; rotate_left; (intro w hSw; (try dsimp only at hSw); go_simp; try (with_reducible rfl)); (try simp only [Act.put, List.setIfInBounds_toArray, List.set_cons_zero, List.set_cons_succ]))
          (refine Ord.takeQ (v := ?_) (Or.inl ⟨rfl, ?_⟩) ?_; rotate_left; (intro w hSw; (try dsimp only at hSw); go_simp; try (with_reducible rfl)); (try simp only [Act.put, List.setIfInBounds_toArray, List.set_cons_zero, List.set_cons_succ]))
          (refine Ord.takeQ (v := ?_) (Or.inl ⟨rfl, ?_⟩) ?_; rotate_left; (intro w hSw; (try dsimp only at hSw); go_simp; try (with_reducible rfl)); (try simp only [Act.put, List.setIfInBounds_toArray, List.set_cons_zero, List.set_cons_succ]))
          (refine Ord.takeQ (v := ?_) (Or.inl ⟨rfl, ?_⟩) ?_; rotate_left; (intro w hSw; (try dsimp only at hSw); go_simp; try (with_reducible rfl)); (try simp only [Act.put, List.setIfInBounds_toArray, List.set_cons_zero, List.set_cons_succ]))
          (refine Ord.takeQ (v := ?_) (Or.inl ⟨rfl, ?_⟩) ?_; rotate_left; (intro w hSw; (try dsimp only at hSw); go_simp; try (with_reducible rfl)); (try simp only [Act.put, List.setIfInBounds_toArray, List.set_cons_zero, List.set_cons_succ]))
          (refine Ord.takeQ (v := ?_) (Or.inl ⟨rfl, ?_⟩) ?_; rotate_left; (intro w hSw; (try dsimp only at hSw); go_simp; try (with_reducible rfl)); (try simp only [Act.put, List.setIfInBounds_toArray, List.set_cons_zero, List.set_cons_succ]))
          (refine Ord.takeQ (v := ?_) (Or.inl ⟨rfl, ?_⟩) ?_; rotate_left; (intro w hSw; (try dsimp only at hSw); go_simp; try (with_reducible rfl)); (try simp only [Act.put, List.setIfInBounds_toArray, List.set_cons_zero, List.set_cons_succ]))
          (refine Ord.takeQ (v := ?_) (Or.inl ⟨rfl, ?_⟩) ?_; rotate_left; (intro w hSw; (try dsimp only at hSw); go_simp; try (with_reducible rfl)); (try simp only [Act.put, List.setIfInBounds_toArray, List.set_cons_zero, List.set_cons_succ]))
          (refine Ord.takeQ (v := .slice A c c) (Or.inl ⟨rfl, by (intro w hSw; rcases hsl.out with ⟨rfl, rfl, rfl⟩ | ⟨b, rfl⟩ <;> (go_simp; try (with_reducible rfl)))⟩) ?_; (try simp only [Act.put, List.setIfInBounds_toArray, List.set_cons_zero, List.set_cons_succ]))
          (refine Ord.takeQ (v := ?_) (Or.inl ⟨rfl, ?_⟩) ?_; rotate_left; (intro w hSw; (try dsimp only at hSw); go_simp; try (with_reducible rfl)); (try simp only [Act.put, List.setIfInBounds_toArray, List.set_cons_zero, List.set_cons_succ]))
          refine Ord.doneQ (NoPanic.normal ?_)
          clear hSQ
          go_wp2_with fail
          go_loopw [10] (fun s10 wz => ∃ q : Nat, q ≤ c ∧ s10 = .int .i64 q ∧ Drawn wx wz) (fun i _ => c - (intOf i).toNat)
          case atStart => exact ⟨0, Nat.zero_le _, rfl, hd.drew⟩
          case round =>
            clear hd x0' y1
            obtain ⟨q, hq, rfl, hd⟩ := hrel
            by_cases hqc : q < c
            · rcases hor.out with ⟨_, _, h0⟩ | ⟨b, cur, rfl, hbB, hblk, hsz, hmk⟩
              · omega
              have z0 : wr.cell? ⟨b, q, none⟩ = some (.int .i64 (mk i q)) := ((hblk.drawn hd).cell q).trans (hmk q hlt hqc)
              have hSQ : (fun Z : World => Z.cell? ⟨b, q, none⟩ = some (.int .i64 (mk i q))) wr.drew := z0
              clear hblk hmk
              have hq9 : q + 1 ≤ 9223372036854775807 := by have := hML.out; omega
              go_upto_region 18 with fail
              refine wp_region_noPanic ?_
              refine Ord.region_Q (S := fun Z : World => Z.cell? ⟨b, q, none⟩ = some (.int .i64 (mk i q))) 999 (.one 0 true (.one 1 true (.one 2 true (.one 3 true (.one 4 true (.one 5 true (.one 6 true (.one 7 true (.one 8 true .nil))))))))) (by kernel_rfl) (by kernel_rfl) (by kernel_rfl) (by decide) (fun _ _ _ _ _ h => h) (hSQ) (fun hS0 => ?_)
              simp only [Ord.layT, List.getElem?_cons_zero, List.getElem?_cons_succ]
              (refine Ord.takeQ (v := ?_) (Or.inl ⟨rfl, ?_⟩) ?_; rotate_left; (intro w hSw; (try dsimp only at hSw); go_simp; try (with_reducible rfl)); (try simp only [Act.put, List.setIfInBounds_toArray, List.set_cons_zero, List.set_cons_succ]))
              (refine Ord.takeQ (v := ?_) (Or.inl ⟨rfl, ?_⟩) ?_; rotate_left; (intro w hSw; (try dsimp only at hSw); go_simp; try (with_reducible rfl)); (try simp only [Act.put, List.setIfInBounds_toArray, List.set_cons_zero, List.set_cons_succ]))
              (refine Ord.takeQ (v := ?_) (Or.inl ⟨rfl, ?_⟩) ?_; rotate_left; (intro w hSw; (try dsimp only at hSw); go_simp; try (with_reducible rfl)); (try simp only [Act.put, List.setIfInBounds_toArray, List.set_cons_zero, List.set_cons_succ]))
              (refine Ord.takeQ (v := ?_) (Or.inl ⟨rfl, ?_⟩) ?_; rotate_left; (intro w hSw; (try dsimp only at hSw); go_simp; try (with_reducible rfl)); (try simp only [Act.put, List.setIfInBounds_toArray, List.set_cons_zero, List.set_cons_succ]))
              (refine Ord.takeQ (v := ?_) (Or.inl ⟨rfl, ?_⟩) ?_; rotate_left; (intro w hSw; (try dsimp only at hSw); go_simp; try (with_reducible rfl)); (try simp only [Act.put, List.setIfInBounds_toArray, List.set_cons_zero, List.set_cons_succ]))
              (refine Ord.takeQ (v := ?_) (Or.inl ⟨rfl, ?_⟩) ?_; rotate_left; (intro w hSw; (try dsimp only at hSw); go_simp; try (with_reducible rfl)); (try simp only [Act.put, List.setIfInBounds_toArray, List.set_cons_zero, List.set_cons_succ]))
              (refine Ord.takeQ (v := ?_) (Or.inl ⟨rfl, ?_⟩) ?_; rotate_left; (intro w hSw; (try dsimp only at hSw); go_simp; try (with_reducible rfl)); (try simp only [Act.put, List.setIfInBounds_toArray, List.set_cons_zero, List.set_cons_succ]))
              (refine Ord.takeC f #[.int .i64 i, .int .i64 q] rfl (fun w _ => by first | (go_simp; done) | (simp [execOp, resolve, hcf]; done) | (simp [execOp, resolve]; rw [hcf]; rfl)) (fun w hSw => hm.out i q w (by omega) (by omega)) ?_; (try simp only [Act.put, List.setIfInBounds_toArray, List.set_cons_zero, List.set_cons_succ]))
              (refine Ord.takeQ (v := ?_) (Or.inl ⟨rfl, ?_⟩) ?_; rotate_left; (intro w hSw; (try dsimp only at hSw); go_simp; try (with_reducible rfl)); (try simp only [Act.put, List.setIfInBounds_toArray, List.set_cons_zero, List.set_cons_succ]))
              refine Ord.doneQ (NoPanic.normal ?_)
              clear hSQ
              go_wp2_with fail
              go_roundw
              case rel => exact ⟨q + 1, by omega, by go_num, hd.drew⟩
              case measure => simp [intOf]; omega
            · obtain rfl : q = c := by omega
              go_wp2_with fail
              go_roundw
              case rel => exact ⟨i + 1, by omega, by go_num, hd⟩
              case measure => simp [intOf]; omega
        · obtain rfl : i = k := by omega
          have hbd := hbox.drawn hd
          have f0 : wr.frozen? ⟨g, 0, none⟩ = false := hbd.free 0
          have f1 : wr.frozen? ⟨g, 1, none⟩ = false := hbd.free 1
          have f2 : wr.frozen? ⟨g, 2, none⟩ = false := hbd.free 2
          have c1 : wr.cell? ⟨g, 1, none⟩ = some v2 := hbd.cell 1
          have c2 : wr.cell? ⟨g, 2, none⟩ = some (.int .i64 held) := hbd.cell 2
          have hkf := hkp.drawn hd
          clear hsa
          go_wp2_with fail
          go_ret
          exact ⟨rfl, ((hkf.trans (BookKeep.set _ g B 0 _)).trans (BookKeep.set _ g B 1 _)).trans (BookKeep.set _ g B 2 _)⟩
end Go.Proofs.Yteghacdpfhohoaa
