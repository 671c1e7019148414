/-
  The walk of flex.Sizes.
-/
import Derived.Test.YteghacdpfhohoaaFlexB
namespace Go.Proofs.Yteghacdpfhohoaa
open Go.RowKit Num Mem Opn
set_option linter.unusedVariables false
set_option linter.unusedSimpArgs false
theorem upto_get' {f : Nat → Int} {n k i : Nat} (hi : i < n) (hk : i < k) : (upto f n k).getD i 0 = f i := by rw [upto_getD _ hi, if_pos hk]
theorem shr_nil (n : Nat) (x : List Int) (fz : List Bool) (ow : Int) : shr (n + 1) [] x fz ow = x := shr_none rfl
set_option maxRecDepth 100000 in
set_option maxHeartbeats 8000000 in
theorem flex_Sizes (room : Int) (l : List It) (A : Option Addr) (c : Nat) (w : World) (hl : l.length ≤ 1000) (hr : I64 room) (hA : Recs w w.heap.size A 4 It.cells l) :
    Calls Try.prog 16 #[.int .i64 room, .slice A l.length c] w fun e w' =>
      e = .returned (.slice (some ⟨w.heap.size, 0, none⟩) l.length l.length) ∧ Below w.heap.size w w' ∧ Blk w' w.heap.size 2 (ints (sizes room l)) := by
  obtain ⟨T, hT⟩ : ∃ T, sizes room l = T := ⟨_, rfl⟩
  have HT := hid hT
  rw [hT]
  clear hT
  have hmk := make_ints l.length (by omega)
  have hO : Blk ((w.alloc (.cells (ints (List.replicate l.length 0)) 2)).alloc (.cells (ints (List.replicate l.length 0)) 2)) w.heap.size 2 (ints (upto (ob l) l.length 0)) := by rw [upto_zero]; exact (Blk.new w _ _).alloc _
  have hG : Blk ((w.alloc (.cells (ints (List.replicate l.length 0)) 2)).alloc (.cells (ints (List.replicate l.length 0)) 2)) (w.heap.size + 1) 2 (ints (upto (og l) l.length 0)) := by
    rw [upto_zero]
    have := Blk.new (w.alloc (.cells (ints (List.replicate l.length 0)) 2)) 2 (ints (List.replicate l.length 0))
    simpa using this
  have hB : Below w.heap.size w ((w.alloc (.cells (ints (List.replicate l.length 0)) 2)).alloc (.cells (ints (List.replicate l.length 0)) 2)) := ((Below.refl _ _).alloc (Nat.le_refl _) _).alloc (by simp) _
  go_enter Try.func16, Try.ntmps16
  go_wp2_with fail
  clear hmk
  generalize hg : w.heap.size = g at *
  replace hg := hid hg
  go_loopw [7, 21] (fun s7 s21 wr => ∃ k : Nat, k ≤ l.length ∧ s21 = .int .i64 k ∧ s7 = .int .i64 (frees room l k) ∧ Blk wr g 2 (ints (upto (ob l) l.length k)) ∧ Blk wr (g + 1) 2 (ints (upto (og l) l.length k)) ∧ Below g w wr) (fun _ i _ => l.length - (intOf i).toNat)
  case atStart => exact ⟨0, Nat.zero_le _, rfl, rfl, hO, hG, hB⟩
  case round =>
    clear hO hG hB
    obtain ⟨k, hk, rfl, rfl, hO, hG, hB⟩ := hrel
    by_cases hlt : k < l.length
    · obtain ⟨b, off, it1, rfl, hb, HX, HG, hrg⟩ := items_range (hA.below hB) hlt
      have hgx := hG.lt
      go_wp2_with (first | refine stop_load 30 _ rfl rfl ?_ | refine stop_store 30 _ _ rfl rfl ?_)
      refine ⟨?_⟩
      refine wl_load_at rfl 30 _ rfl b (off + k * 4) rfl (it4 it1.base it1.outer it1.grow it1.shrink) _ hrg Try.underlying30 rfl (info_it4 _ _ _ _) ?_
      (try simp only [Act.put, List.setIfInBounds_toArray, List.set_cons_zero, List.set_cons_succ])
      go_wp2_with (first | refine stop_load 30 _ rfl rfl ?_ | refine stop_store 30 _ _ rfl rfl ?_)
      refine ⟨?_⟩
      refine wl_store rfl 30 _ _ rfl wr.heap.size (it4 it1.base it1.outer it1.grow it1.shrink) rfl rfl 30 _ (Blk.new _ _ _) rfl (info_it4 _ _ _ _) (it_one _ _ _ _) ?_
      intro w2 hX hC
      (try simp only [Act.put, List.setIfInBounds_toArray, List.set_cons_zero, List.set_cons_succ])
      have hbb : Below wr.heap.size wr w2 := ((Below.refl wr.heap.size wr).alloc (Nat.le_refl _) _).trans (hC.below (Nat.le_refl _))
      replace hO := hO.below hbb (by omega)
      replace hG := hG.below hbb hgx
      have hB2 := hB.trans (hbb.mono (by omega))
      clear hbb hC hB hrg
      generalize wr.heap.size = gx at *
      have HOB : Hid (ob l k = max (sat it1.base) 0) := hid (by unfold ob; rw [HG.out]; rfl)
      have HOG : Hid (og l k = it1.grow) := hid (by unfold og; rw [HG.out])
      have HFR : Hid (frees room l (k + 1) = sub (sub (frees room l k) (max (sat it1.base) 0)) it1.outer) := hid (by show sub (sub _ (ob l k)) _ = _; rw [HOB.out, HG.out])
      have c0 : w2.cell? ⟨gx, 0, none⟩ = some (.int .i64 it1.base) := hX.cell 0
      have c2 : ∀ v, (w2.setCell ⟨g, k, none⟩ v).cell? ⟨gx, 2, none⟩ = some (.int .i64 it1.grow) := fun v => (hX.far (p := ⟨g, k, none⟩) (by simp; omega) v).cell 2
      obtain ⟨x1, hx1, -⟩ := hO.intAt (i := k) (by rw [upto_length]; exact hlt)
      obtain ⟨x2, hx2, -⟩ := hG.intAt (i := k) (by rw [upto_length]; exact hlt)
      have hf1 := hO.free k
      have hf2 := hG.free k
      have hx3 : ∀ v, (w2.setCell ⟨g, k, none⟩ v).cell? ⟨g + 1, k, none⟩ = some (.int .i64 x2) := fun v => by rw [World.cell?_setCell_other _ _ _ _ (by simp)]; exact hx2
      have hf3 : ∀ v, (w2.setCell ⟨g, k, none⟩ v).frozen? ⟨g + 1, k, none⟩ = false := fun v => (hG.far (p := ⟨g, k, none⟩) (by simp) v).free k
      go_upto_region 9 with (go_at_call 50; refine (fixed_Sat _ _).mono ?_; rintro e w' ⟨rfl, rfl⟩)
      refine wp_forget (fun Z => Blk Z g 2 (ints (upto (ob l) l.length (k + 1))) ∧ Blk Z (g + 1) 2 (ints (upto (og l) l.length (k + 1))) ∧ Blk Z gx 30 (it4 it1.base it1.outer it1.grow it1.shrink) ∧ Below g w Z) ⟨?_, ?_, ?_, ?_⟩ ?_
      · have := (hO.putInt k (ob l k)).far (p := ⟨g + 1, k, none⟩) (by simp) (.int .i64 it1.grow)
        rw [upto_set, HOB.out] at this
        exact this
      · have := (hG.far (p := ⟨g, k, none⟩) (by simp) (.int .i64 (max (sat it1.base) 0))).putInt k (og l k)
        rw [upto_set, HOG.out] at this
        exact this
      · exact (hX.far (p := ⟨g, k, none⟩) (by simp; omega) _).far (p := ⟨g + 1, k, none⟩) (by simp; omega) _
      · exact (hB2.setCell (by simp) _).setCell (by simp) _
      clear hO hG hX hB2 c0 c2 hx1 hx2 hx3 hf1 hf2 hf3
      rintro w3 ⟨hO, hG, hX, hB⟩
      have hSQ : (fun Z : World => Z.cell? ⟨g, k, none⟩ = some (.int .i64 (max (sat it1.base) 0)) ∧ Z.cell? ⟨gx, 1, none⟩ = some (.int .i64 it1.outer)) w3.drew := ⟨(hO.drew.int (by rw [upto_length]; exact hlt)).trans (by rw [upto_get' hlt (by omega), HOB.out]), hX.drew.cell 1⟩
      refine wp_region_noPanic ?_
      refine Ord.region_Q (S := fun Z : World => Z.cell? ⟨g, k, none⟩ = some (.int .i64 (max (sat it1.base) 0)) ∧ Z.cell? ⟨gx, 1, none⟩ = some (.int .i64 it1.outer)) 999 (.one 0 true (.one 1 true (.one 2 true (.one 3 true (.one 4 true (.one 5 true (.one 6 true (.one 7 true (.one 8 true (.one 9 true .nil)))))))))) (by kernel_rfl) (by kernel_rfl) (by kernel_rfl) (by decide) (fun _ _ _ _ _ h => h) (hSQ) (fun hS0 => ?_)
      simp only [Ord.layT, List.getElem?_cons_zero, List.getElem?_cons_succ]
      (refine Ord.takeQ (v := ?_) (Or.inl ⟨rfl, ?_⟩) ?_; rotate_left; (intro w hSw; (try dsimp only at hSw); go_simp; try (with_reducible rfl)); (try simp only [Act.put, List.setIfInBounds_toArray, List.set_cons_zero, List.set_cons_succ]))
      (refine Ord.takeQ (v := ?_) (Or.inl ⟨rfl, ?_⟩) ?_; rotate_left; (intro w hSw; (try dsimp only at hSw); go_simp; try (with_reducible rfl)); (try simp only [Act.put, List.setIfInBounds_toArray, List.set_cons_zero, List.set_cons_succ]))
      (refine Ord.takeQ (v := ?_) (Or.inl ⟨rfl, ?_⟩) ?_; rotate_left; (intro w hSw; (try dsimp only at hSw); go_simp; try (with_reducible rfl)); (try simp only [Act.put, List.setIfInBounds_toArray, List.set_cons_zero, List.set_cons_succ]))
      (refine Ord.takeQ (v := ?_) (Or.inl ⟨rfl, ?_⟩) ?_; rotate_left; (intro w hSw; (try dsimp only at hSw); go_simp; try (with_reducible rfl)); (try simp only [Act.put, List.setIfInBounds_toArray, List.set_cons_zero, List.set_cons_succ]))
      (refine Ord.takeQ (v := ?_) (Or.inl ⟨rfl, ?_⟩) ?_; rotate_left; (intro w hSw; (try dsimp only at hSw); go_simp; try (with_reducible rfl)); (try simp only [Act.put, List.setIfInBounds_toArray, List.set_cons_zero, List.set_cons_succ]))
      (refine Ord.takeC 51 #[.int .i64 (frees room l k), .int .i64 (max (sat it1.base) 0)] rfl (fun _ _ => by kernel_rfl) (fun w hSw => fixed_Sub _ _ _) ?_; (try simp only [Act.put, List.setIfInBounds_toArray, List.set_cons_zero, List.set_cons_succ]))
      (refine Ord.takeQ (v := ?_) (Or.inl ⟨rfl, ?_⟩) ?_; rotate_left; (intro w hSw; (try dsimp only at hSw); go_simp; try (with_reducible rfl)); (try simp only [Act.put, List.setIfInBounds_toArray, List.set_cons_zero, List.set_cons_succ]))
      (refine Ord.takeQ (v := ?_) (Or.inl ⟨rfl, ?_⟩) ?_; rotate_left; (intro w hSw; (try dsimp only at hSw); go_simp; try (with_reducible rfl)); (try simp only [Act.put, List.setIfInBounds_toArray, List.set_cons_zero, List.set_cons_succ]))
      (refine Ord.takeC 51 #[.int .i64 (sub (frees room l k) (max (sat it1.base) 0)), .int .i64 it1.outer] rfl (fun _ _ => by kernel_rfl) (fun w hSw => fixed_Sub _ _ _) ?_; (try simp only [Act.put, List.setIfInBounds_toArray, List.set_cons_zero, List.set_cons_succ]))
      (refine Ord.takeQ (v := ?_) (Or.inl ⟨rfl, ?_⟩) ?_; rotate_left; (intro w hSw; (try dsimp only at hSw); go_simp; try (with_reducible rfl)); (try simp only [Act.put, List.setIfInBounds_toArray, List.set_cons_zero, List.set_cons_succ]))
      refine Ord.doneQ (NoPanic.normal ?_)
      clear hSQ
      go_wp2_with fail
      go_roundw
      case rel => exact ⟨k + 1, by omega, by go_num, by rw [HFR.out], hO.drew, hG.drew, hB.drew⟩
      case measure => simp [intOf]; omega
    · obtain rfl : k = l.length := by omega
      have hgx := hG.lt
      have HFD : Hid (l.length = 0 ∨ -70368744177664 ≤ frees room l l.length ∧ frees room l l.length ≤ 70368744177664) := hid (by
        rcases Nat.eq_zero_or_pos l.length with h0 | h0
        · exact .inl h0
        · exact .inr (frees_bd room l h0))
      have HR0 : Hid (l.length = 0 → frees room l l.length = room) := hid (fun h => by rw [h]; rfl)
      obtain ⟨fr, hfr⟩ : ∃ fr, frees room l l.length = fr := ⟨_, rfl⟩
      have HS : Hid (T = if 0 < fr then zadd (outs l) (share fr (grws l)) else if fr < 0 then shr (l.length + 1) l (outs l) (List.replicate l.length false) (-fr) else outs l) := hid (by rw [← HT.out, ← hfr]; rfl)
      rw [hfr] at HFD HR0 ⊢
      clear hfr
      have hfr1 : -9223372036854775808 ≤ fr ∧ fr ≤ 9223372036854775807 := by
        rcases HFD.out with h | h
        · rw [HR0.out h]; exact hr
        · omega
      rcases Int.lt_trichotomy fr 0 with hc | hc | hc
      · have g1 : decide (0 < fr) = false := decide_eq_false (by omega)
        have g2 : decide (fr < 0) = true := decide_eq_true hc
        obtain ⟨nw, hnw⟩ : ∃ nw, IntKind.i64.wrap (-fr) = nw := ⟨_, rfl⟩
        have HNW : Hid (l.length = 0 ∨ nw = -fr ∧ -70368744177664 ≤ nw ∧ nw ≤ 70368744177664) := hid (by
          rcases HFD.out with h | h
          · exact .inl h
          · right
            rw [← hnw, IntWalk.i64_in _ (by omega)]
            omega)
        have hsk := flex_shrink g (outs l) l A c nw wr hl (outs_length l) hO (hA.below hB) (sz_outs l) (by rcases HNW.out with h | h; exact .inl h; exact .inr h.2)
        have HTT : Hid (shr (l.length + 1) l (outs l) (List.replicate l.length false) nw = T) := hid (by
          rw [HS.out, if_neg (by omega), if_pos hc]
          rcases HNW.out with h | h
          · have hnil : l = [] := List.length_eq_zero_iff.1 h
            subst hnil
            exact (shr_nil _ _ _ _).trans (shr_nil _ _ _ _).symm
          · rw [h.1])
        rw [HTT.out] at hsk
        clear HS HR0 HFD
        go_wp2_with fail
        refine hsk.mono ?_
        clear hsk
        rintro e w3 ⟨rfl, hb3, hO3⟩
        go_wp2_with fail
        go_ret
        obtain rfl := hg.out
        exact ⟨rfl, hB.trans hb3, hO3⟩
      · subst hc
        have HTT : Hid (outs l = T) := hid (by rw [HS.out, if_neg (by omega), if_neg (by omega)])
        clear HS HR0 HFD hfr1
        go_wp2_with fail
        go_ret
        obtain rfl := hg.out
        exact ⟨rfl, hB, by rw [← HTT.out]; exact hO⟩
      · have g1 : decide (0 < fr) = true := decide_eq_true hc
        have g2 : decide (fr < 0) = false := decide_eq_false (by omega)
        have hGI : Ints wr wr.heap.size (some ⟨g + 1, 0, none⟩) (grws l) := Ints.ofBlk hG hgx
        have hwl := grws_length l
        have hsh := fixed_Share fr (grws l) (some ⟨g + 1, 0, none⟩) l.length wr (by omega) hGI
        rw [hwl] at hsh
        clear hwl hGI
        have HSL : Hid ((outs l).length = (share fr (grws l)).length) := hid (by rw [outs_length, share_length, grws_length])
        have HTT : Hid (T = zadd (outs l) (share fr (grws l))) := hid (by rw [HS.out, if_pos hc])
        go_wp2_with fail
        refine hsh.mono ?_
        clear hsh
        rintro e w3 ⟨rfl, hb3, hP⟩
        replace hO := hO.below hb3 (by omega)
        replace hB := hB.trans (hb3.mono (by omega))
        obtain ⟨pts, hpts⟩ : ∃ pts, share fr (grws l) = pts := ⟨_, rfl⟩
        rw [hpts] at hP HSL HTT
        clear hpts hb3
        generalize wr.heap.size = gp at *
        have HZL : Hid ((zadd (outs l) pts).length = l.length) := hid (by rw [zadd_length HSL.out, outs_length])
        have HMX : Hid ((outs l).length = (zadd (outs l) pts).length) := hid (by rw [HZL.out, outs_length])
        have hO0 : Blk w3 g 2 (ints (mix (outs l) (zadd (outs l) pts) 0)) := by rw [mix_zero]; exact hO
        clear hO
        go_wp2_with fail
        go_loopw [54] (fun s54 wr => ∃ k : Nat, k ≤ l.length ∧ s54 = .int .i64 k ∧ Blk wr g 2 (ints (mix (outs l) (zadd (outs l) pts) k)) ∧ Blk wr gp 2 (ints pts) ∧ Below g w wr) (fun i _ => l.length - (intOf i).toNat)
        case atStart => exact ⟨0, Nat.zero_le _, rfl, hO0, hP, hB⟩
        case round =>
          clear hO0 hP hB
          obtain ⟨k, hk, rfl, hO, hP, hB⟩ := hrel
          by_cases hlt : k < l.length
          · obtain ⟨xk, hxk, HXK⟩ := hO.intAt (i := k) (by rw [mix_length HMX.out, outs_length]; exact hlt)
            obtain ⟨pk, hpk, HPK⟩ := hP.intAt (i := k) (by rw [← HSL.out, outs_length]; exact hlt)
            have hfo := hO.free k
            have HU : Hid ((mix (outs l) (zadd (outs l) pts) k).set k (add xk pk) = mix (outs l) (zadd (outs l) pts) (k + 1)) := hid (by
              rw [← mix_set HMX.out (by rw [outs_length]; exact hlt), zadd_get HSL.out (by rw [outs_length]; exact hlt), HPK.out]
              rw [mix_get HMX.out (Nat.le_refl k) (by rw [outs_length]; exact hlt)] at HXK
              rw [HXK.out])
            go_wp2_with (go_at_call 53; refine (fixed_Add _ _ _).mono ?_; rintro e w' ⟨rfl, rfl⟩)
            go_roundw
            case rel => exact ⟨k + 1, by omega, by go_num, by rw [← HU.out]; exact hO.putInt k _, hP.far (p := ⟨g, k, none⟩) (by simp; omega) _, hB.setCell (by simp) _⟩
            case measure => simp [intOf]; omega
          · obtain rfl : k = l.length := by omega
            have HFI : Hid (mix (outs l) (zadd (outs l) pts) l.length = T) := hid (by
              have := mix_all HMX.out
              rw [outs_length] at this
              rw [this, HTT.out])
            go_wp2_with fail
            go_ret
            obtain rfl := hg.out
            exact ⟨rfl, hB, by rw [← HFI.out]; exact hO⟩
end Go.Proofs.Yteghacdpfhohoaa
