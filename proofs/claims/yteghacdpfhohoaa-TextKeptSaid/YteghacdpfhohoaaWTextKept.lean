/-
  The walk of TextKept.
-/
import Derived.Test.YteghacdpfhohoaaTextQ
import Derived.Test.YteghacdpfhohoaaBookEP
import Derived.Test.YteghacdpfhohoaaBookG
namespace Go.Proofs.Yteghacdpfhohoaa
open Go.RowKit Num Mem Opn Go.Deep
set_option linter.unusedVariables false
set_option linter.unusedSimpArgs false
set_option linter.unusedSimpArgs false
set_option maxRecDepth 100000 in
set_option maxHeartbeats 4000000 in
theorem walk_TextKept (s : ByteArray) (ew eh : Int) (A : Option Addr) (l : List Int) (c : Nat) (w : World) (hs : s.size ≤ maxLen) (hew : I64 ew) (heh : I64 eh) (hr : Row64 w A l c) :
    Calls Try.prog 7 #[.string s, .agg #[.int .i64 ew, .int .i64 eh, .slice A l.length c]] w fun e w' => e = .returned (.bool true) ∧ Below w.heap.size w w' := by
    obtain ⟨hA, hlc, hcp, hi⟩ := hr
    have hX : Blk (w.alloc (.cells #[.int .i64 ew, .int .i64 eh, .slice A l.length c] 36)) w.heap.size 36 #[.int .i64 ew, .int .i64 eh, .slice A l.length c] := Blk.new _ _ _
    have hB : Below w.heap.size w (w.alloc (.cells #[.int .i64 ew, .int .i64 eh, .slice A l.length c] 36)) := (Below.refl _ _).alloc (Nat.le_refl _) _
    go_enter Try.func7, Try.ntmps7
    go_upto_region 1 with fail
    refine wp_forget (fun Z => Blk Z w.heap.size 36 #[.int .i64 ew, .int .i64 eh, .slice A l.length c] ∧ Below w.heap.size w Z) ⟨hX, hB⟩ ?_
    clear hX hB
    rintro w1 ⟨hX2, hB2⟩
    have c0 : w1.cell? ⟨w.heap.size, 0, none⟩ = some (.int .i64 ew) := hX2.cell 0
    have c1 : w1.cell? ⟨w.heap.size, 1, none⟩ = some (.int .i64 eh) := hX2.cell 1
    have c2 : w1.cell? ⟨w.heap.size, 2, none⟩ = some (.slice A l.length c) := hX2.cell 2
    go_wp2_with fail
    refine (keep_Env ew eh l A c w1 (by have := hew.2; omega) (by have := heh.2; omega) (by omega) (fun x hx => by have := (hi x hx).2; omega) ((hA.below hB2).more hB2.size)).mono ?_
    rintro e w3 ⟨v, rfl, hb, ho⟩
    have hlt := hX2.lt
    obtain ⟨A2, c3, rfl, -⟩ := own_some ho
    replace ho := ownsRow_setCell_below (ownsRow_setCell_below (ownsRow_setCell_below ho (a := ⟨w.heap.size, 0, none⟩) hlt (.int .i64 (inn ew 16777216))) (a := ⟨w.heap.size, 1, none⟩) hlt (.int .i64 (inn eh 16777216))) (a := ⟨w.heap.size, 2, none⟩) hlt (.slice A2 (envl l).length c3)
    obtain ⟨A3, c4, he, hseg⟩ := own_seg ho
    injection he with e1 e2 e3
    subst e1
    clear e2 e3 c4 hlt
    have hL : Ints (((w3.setCell ⟨w.heap.size, 0, none⟩ (.int .i64 (inn ew 16777216))).setCell ⟨w.heap.size, 1, none⟩ (.int .i64 (inn eh 16777216))).setCell ⟨w.heap.size, 2, none⟩ (.slice A2 (envl l).length c3)) (((w3.setCell ⟨w.heap.size, 0, none⟩ (.int .i64 (inn ew 16777216))).setCell ⟨w.heap.size, 1, none⟩ (.int .i64 (inn eh 16777216))).setCell ⟨w.heap.size, 2, none⟩ (.slice A2 (envl l).length c3)).heap.size A2 (envl l) := by
      have h1 : ∀ u : List Int, (ints u).toList = u.map (Value.int .i64) := fun u => by simp [ints]
      rw [h1] at hseg
      exact hseg
    have hL1 := envl_len l
    obtain ⟨n, hn⟩ : ∃ n, (envl l).length = n := ⟨_, rfl⟩
    rw [hn] at hL1 hL ⊢
    replace hn := hid hn
    clear hseg ho
    generalize envl l = L at *
    generalize inn ew 16777216 = nw at *
    generalize inn eh 16777216 = nh at *
    have hX3 := hX2.below hb hX2.lt
    have hB3 := hB2.trans (hb.mono hB2.size)
    clear c0 c1 c2
    have c0 : w3.cell? ⟨w.heap.size, 0, none⟩ = some (.int .i64 ew) := hX3.cell 0
    have c1 : w3.cell? ⟨w.heap.size, 1, none⟩ = some (.int .i64 eh) := hX3.cell 1
    have c2 : w3.cell? ⟨w.heap.size, 2, none⟩ = some (.slice A l.length c) := hX3.cell 2
    have f0 : w3.frozen? ⟨w.heap.size, 0, none⟩ = false := hX3.free 0
    have f1 : w3.frozen? ⟨w.heap.size, 1, none⟩ = false := hX3.free 1
    have f2 : w3.frozen? ⟨w.heap.size, 2, none⟩ = false := hX3.free 2
    have hX4 : Blk _ w.heap.size 36 #[.int .i64 nw, .int .i64 nh, .slice A2 n c3] := ((hX3.put 0 (.int .i64 nw)).put 1 (.int .i64 nh)).put 2 (.slice A2 n c3)
    have hB4 := ((hB3.setCell (p := ⟨w.heap.size, 0, none⟩) (by simp) (.int .i64 nw)).setCell (p := ⟨w.heap.size, 1, none⟩) (by simp) (.int .i64 nh)).setCell (p := ⟨w.heap.size, 2, none⟩) (by simp) (.slice A2 n c3)
    go_upto_region 2 with fail
    generalize ((w3.setCell ⟨w.heap.size, 0, none⟩ (.int .i64 nw)).setCell ⟨w.heap.size, 1, none⟩ (.int .i64 nh)).setCell ⟨w.heap.size, 2, none⟩ (.slice A2 n c3) = w4 at *
    clear hX3 hB3 hX2 hB2 hb f0 f1 f2 c0 c1 c2

    have hs2 := fewS_size s 200
    obtain ⟨S, hS⟩ : ∃ S, fewS s 200 = S := ⟨_, rfl⟩
    have HS := hid hS
    rw [hS] at hs2
    clear hS
    obtain ⟨P, hP⟩ : ∃ P, (piecesF L [⟨7, 1, false, S⟩]).map Pz.q = P := ⟨_, rfl⟩
    have hP1 := pieces_len L S (by omega)
    have hP2 := pieces_ok L S (by omega)
    rw [hP] at hP1 hP2
    replace hP := hid hP
    replace hP2 := hid hP2
    obtain ⟨g, hg⟩ : ∃ g, w4.heap.size = g := ⟨_, rfl⟩
    have hn1 := Blk.newAt (n := g) w4 56 #[.slice none 0 0, .slice none 0 0, .int .i64 0, .bool false] hg.symm
    have hn2 := (Below.refl w4.heap.size w4).alloc (Nat.le_refl _) (.cells #[.slice none 0 0, .slice none 0 0, .int .i64 0, .bool false] 56)
    have hz := hX4.lt
    rw [hg] at hn2 hz
    have hL5 := hL.below (hn2.mono (by omega))
    have hX5 := hX4.below hn2 hz
    have hB5 := hB4.trans (hn2.mono (by omega))
    go_upto_region 3 with fail
    generalize w4.alloc (.cells #[.slice none 0 0, .slice none 0 0, .int .i64 0, .bool false] 56) = w5 at *
    rw [hg] at hL5
    have hz5 : g + 1 ≤ w5.heap.size := hn1.lt
    have hK0 : BookAt 56 60 59 57 Pq.cells okP w5 g (g + 1) (g + 1) 0 := BookAt.new hn1 (by omega) hz5
    clear hn1 hn2 hL hX4 hB4 hg
    go_wp2_with fail
    go_loopw [6] (fun s6 wr => ∃ k : Nat, k ≤ 2 ∧ s6 = .int .i64 k ∧ Below w.heap.size w wr ∧ Below g w5 wr ∧ g + 1 ≤ wr.heap.size ∧ ∃ S', S' ≤ wr.heap.size ∧ BookAt 56 60 59 57 Pq.cells okP wr g (g + 1) S' k) (fun s6 _ => 2 - (intOf s6).toNat)
    case atStart => exact ⟨0, by omega, rfl, hB5, Below.refl _ _, hz5, _, hz5, hK0⟩
    case round =>
      clear hK0 hB5
      obtain ⟨k, hk, rfl, hB, hBg, hzr, S1, hs1, hBk⟩ := hrel
      have hX := hX5.below hBg (by omega)
      by_cases hlt : k < 2
      · have dk : decide ((k : Int) < 2) = true := decide_eq_true (by omega)
        have hSt : ∀ Z, Blk Z w.heap.size 36 #[.int .i64 nw, .int .i64 nh, .slice A2 n c3] → (fun Z => Blk Z w.heap.size 36 #[.int .i64 nw, .int .i64 nh, .slice A2 n c3]) Z := fun Z h => h
        have hws : w.heap.size < wr.heap.size := by omega
        go_upto_region 6 with fail
        refine wp_region_noPanic ?_
        refine Ord.region_Q (S := fun Z => Blk Z w.heap.size 36 #[.int .i64 nw, .int .i64 nh, .slice A2 n c3]) 999 (.one 0 true (.one 1 true (.one 2 true (.one 3 false (.one 4 false (.one 5 false (.one 6 false .nil))))))) (by kernel_rfl) (by kernel_rfl) (by kernel_rfl) (by decide) (fun _ _ _ _ _ h => h) (hSt _ hX.drew) (fun hS0 => ?_)
        simp only [Ord.layT, List.getElem?_cons_zero, List.getElem?_cons_succ]
        (refine Ord.takeQ (yieldsIf_load_mid rfl _ _ rfl (w.heap.size) 0 rfl _ _ (fun w' h => h.range) Try.underlying36 rfl (by kernel_rfl)) ?_; (try simp only [Act.put, List.setIfInBounds_toArray, List.set_cons_zero, List.set_cons_succ]))
        (refine Ord.takeQ (v := ?_) (Or.inl ⟨rfl, ?_⟩) ?_; rotate_left; (intro w hSw; (try dsimp only at hSw); go_simp; try (with_reducible rfl)); (try simp only [Act.put, List.setIfInBounds_toArray, List.set_cons_zero, List.set_cons_succ]))
        (have hfew : ∀ w, Calls Try.prog 19 #[.string s, .int .i64 200] w fun e w' => e = .returned (.string S) ∧ w = w' := fun w => by have := keep_Few s 200 w hs; rwa [HS.out] at this)
        (refine Ord.takeC 19 #[.string s, .int .i64 200] rfl (fun _ _ => by kernel_rfl) (fun w hSw => hfew w) ?_; (try simp only [Act.put, List.setIfInBounds_toArray, List.set_cons_zero, List.set_cons_succ]))
        refine Ord.aloneQ rfl rfl (fun K hK => ?_)
        go_simp
        refine (law14_box S false wr.drew).mono ?_
        rintro e u1 ⟨rfl, hbq⟩
        have hS1 := hSt _ (hS0.below hbq (by simp; omega))
        go_wp2_with fail
        (try simp only [Act.put, List.setIfInBounds_toArray, List.set_cons_zero, List.set_cons_succ])
        refine hK.out _ _ (hS1) (fun _ => ?_)
        clear hK K
        refine Ord.aloneQ rfl rfl (fun K hK => ?_)
        refine wp_execT (w' := (u1.alloc (.cells (Bx.arr ⟨7, 1, false, S⟩) 64))) (v := .slice (some ⟨u1.heap.size, 0, none⟩) 1 1) (by kernel_rfl) ?_
        have h2 : Below wr.drew.heap.size wr.drew (u1.alloc (.cells (Bx.arr ⟨7, 1, false, S⟩) 64)) := hbq.alloc hbq.size _
        have hR := recs_box u1 S
        generalize (u1.alloc (.cells (Bx.arr ⟨7, 1, false, S⟩) 64)) = u2 at *
        (try simp only [Act.put, List.setIfInBounds_toArray, List.set_cons_zero, List.set_cons_succ])
        refine hK.out _ _ (hSt _ (hS0.below h2 (by simp; omega))) (fun _ => ?_)
        clear hK K
        refine Ord.aloneQ rfl rfl (fun K hK => ?_)
        go_simp
        have hpc := textPieces_m nw nh L n A2 c3 S _ u2 hn.out (by omega) (by omega) ((hL5.below (hBg.drew.trans (h2.mono (by simp; omega)))).more (by have := h2.size; have : wr.drew.heap.size = wr.heap.size := rfl; omega)) hR
        rw [hP.out] at hpc
        refine hpc.mono ?_
        clear hpc
        rintro e u3 ⟨v, rfl, hb3, ho⟩
        have h3 : Below wr.drew.heap.size wr.drew u3 := h2.trans (hb3.mono h2.size)
        have hz2 := h2.size
        go_wp2_with fail
        (try simp only [Act.put, List.setIfInBounds_toArray, List.set_cons_zero, List.set_cons_succ])
        refine hK.out _ _ (hSt _ (hS0.below h3 (by simp; omega))) (fun _ => ?_)
        clear hK K
        refine Ord.aloneQ rfl rfl (fun K hK => ?_)
        go_simp
        have hkp := book_Keep_pq _ _ _ _ v P u3 (by omega) (by omega) hP2.out ((hBk.below (Below.drew (Below.refl _ _))).below h3) (own_base ho (by have : wr.drew.heap.size = wr.heap.size := rfl; omega))
        refine hkp.mono ?_
        clear hkp
        rintro e u4 ⟨rfl, hK4, hbk4⟩
        have hz4 := hbk4.size
        have hz3 := h3.size
        have h4 : Below g wr.drew u4 := (h3.mono (by simp; omega)).trans (hbk4.below _ (Nat.le_refl _) (by omega))
        have hzd : wr.drew.heap.size = wr.heap.size := rfl
        go_wp2_with fail
        (try simp only [Act.put, List.setIfInBounds_toArray, List.set_cons_zero, List.set_cons_succ])
        refine hK.out _ _ (hSt _ (hS0.below h4 (by omega))) (fun _ => ?_)
        clear hK K
        refine Ord.doneQ (NoPanic.normal ?_)
        go_wp2_with fail
        go_roundw
        case rel => exact ⟨k + 1, by omega, by go_num, hB.drew.trans (h4.mono (by omega)), hBg.drew.trans h4, by omega, _, by omega, hK4⟩
        case measure => simp [intOf]; omega
      · obtain rfl : k = 2 := by omega
        have hap := book_Apart_pq _ _ _ _ 34 markQ markq_ok wr (by omega) (fun _ _ => by kernel_rfl) (fun i j w hi hj => mark14 i j w hi hj) hBk
        go_wp2_with fail
        refine hap.mono ?_
        clear hap hBk
        rintro e w6 ⟨rfl, hbk⟩
        have hB6 := hB.trans (hbk.below _ (by omega) (by omega))
        clear hbk hB
        go_wp2_with fail
        refine (known14 _).mono ?_
        rintro e w7 ⟨rfl, hb7⟩
        go_wp2_with fail
        go_ret
        exact ⟨rfl, hB6.trans (hb7.mono hB6.size)⟩
end Go.Proofs.Yteghacdpfhohoaa
