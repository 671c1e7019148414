/-
  The walk of casementlaw15.some.
-/
import Derived.Test.YtebolanengnpfaaSomeA
namespace Go.Proofs.Ytebolanengnpfaa
open Go.RowKit Num Mem Opn
set_option linter.unusedVariables false
set_option linter.unusedSimpArgs false
namespace Num
theorem pcs_step {l : List Bt} {k : Nat} {x : Bt} (hx : l[k]? = some x) : pcs k (l.drop k) = pcOf k x :: pcs (k + 1) (l.drop (k + 1)) := by
  have hlt := (List.getElem?_eq_some_iff.1 hx).1
  have h2 : l[k] = x := (List.getElem?_eq_some_iff.1 hx).2
  rw [List.drop_eq_getElem_cons hlt, h2, pcs]
end Num
theorem info_piece57 : (Try.prog.info? 36).map (fun i => (i.zero, i.size, i.bytes)) = some (some (.agg (Pc.arr ⟨0, 0, 0, 0, false⟩)), 57, 432) := by kernel_rfl
theorem info_rpiece57 : (Try.prog.info? 80).map (fun i => (i.zero, i.size, i.bytes)) = some (some (.agg (Pc.arr ⟨0, 0, 0, 0, false⟩)), 57, 432) := by kernel_rfl
theorem info_sty_list (b : Bool) : (Try.prog.info? 34 ).map (·.size) = some (styArr b).toList.length := info_sty
theorem zero_size : (Value.agg (Pc.arr ⟨0, 0, 0, 0, false⟩)).cells.size = 57 := rfl
theorem bits_at {w : World} {B b off : Nat} {l : List Bt} (h : Recs w B (some ⟨b, off, none⟩) 4 Bt.cells l) {k : Nat} {x : Bt} (hx : l[k]? = some x) :
    w.cell? ⟨b, off + k * 4, none⟩ = some (.int .i64 x.kind) ∧ w.cell? ⟨b, off + k * 4 + 1, none⟩ = some (.int .i64 x.width) ∧ w.cell? ⟨b, off + k * 4 + 2, none⟩ = some (.int .i64 x.height) ∧ w.cell? ⟨b, off + k * 4 + 3, none⟩ = some (.bool x.pre) := by
  obtain ⟨b', off', e, _, hc⟩ := h (by rintro rfl; simp at hx)
  injection e with e
  injection e with e1 e2 e3
  subst e1 e2
  exact ⟨hc k x hx 0 _ rfl, hc k x hx 1 _ rfl, hc k x hx 2 _ rfl, hc k x hx 3 _ rfl⟩
theorem wp_exec {P : Program} {o : Oper} {a : Act} {w w' : World} {v : Value} {K : Act → World → Prop} {Q : Exit → Act → World → Prop} (h : (execOp a.eval o).run P w = .ok (.value v) w') (hK : K (a.put o.dst v) w') : o.wp P a w K Q := by
  unfold Oper.wp
  rw [h]
  exact hK
set_option maxRecDepth 100000 in
set_option maxHeartbeats 4000000 in
theorem law_some (l : List Bt) (A : Option Addr) (c : Nat) (w : World) (hA : Recs w w.heap.size A 4 Bt.cells l) (hn : l.length ≤ 17592186043904) (hx : ∀ x ∈ l, I64 x.kind ∧ I64 x.width ∧ I64 x.height) :
    Calls Try.prog 11 #[.slice A l.length c] w fun e w' => ∃ v v', e = .returned (.tuple #[v, v']) ∧ Below w.heap.size w w' ∧
      w'.ownsRow w.heap.size 36 57 v (l.take 80).length ((pcs 0 (l.take 80)).flatMap Pc.cells) ∧ w'.ownsRow w.heap.size 80 57 v' (l.take 80).length ((pcs 0 (l.take 80)).flatMap Pc.cells) := by
  obtain ⟨i1, hi1, hz1, hs1, hb1⟩ := info_parts info_piece57
  obtain ⟨i2, hi2, hz2, hs2, hb2⟩ := info_parts info_rpiece57
  obtain ⟨L, hL⟩ : ∃ L, pcs 0 (l.take 80) = L := ⟨_, rfl⟩
  have HL := hid hL
  rw [hL]
  clear hL
  go_enter Try.func11, Try.ntmps11
  go_wp2_with fail
  go_loopw [4, 5, 6] (fun v v' s wr => ∃ (k : Nat) (D : List Pc), k ≤ l.length ∧ k ≤ 80 ∧ s = .int .i64 k ∧ D.length = k ∧ Hid (D ++ pcs k ((l.take 80).drop k) = L) ∧ wr.ownsRow w.heap.size 36 57 v k (D.flatMap Pc.cells) ∧ wr.ownsRow w.heap.size 80 57 v' k (D.flatMap Pc.cells) ∧ Below w.heap.size w wr) (fun _ _ s _ => 80 - (intOf s).toNat)
  case atStart => exact ⟨0, [], Nat.zero_le _, Nat.zero_le _, rfl, rfl, HL, own_nil _ _ _ _, own_nil _ _ _ _, Below.refl _ _⟩
  case round =>
    obtain ⟨k, D, hk1, hk80, rfl, hD, HD, ho, ho', hB⟩ := hrel
    have hsz := hB.size
    by_cases hlt : k < l.length
    · by_cases hlt2 : k < 80
      · obtain ⟨b, off, x, rfl, hb, HX, -⟩ := (hA.below hB).at_ hlt
        have hxk : (l.take 80)[k]? = some x := by rw [List.getElem?_take_of_lt hlt2]; exact HX.out
        have HD2 : Hid ((D ++ [pcOf k x]) ++ pcs (k + 1) ((l.take 80).drop (k + 1)) = L) := hid (by
          have := HD.out
          rw [pcs_step hxk] at this
          simpa using this)
        obtain ⟨hx1, hx2, hx3⟩ := hx x (List.mem_of_getElem? HX.out)
        have h4 : ∀ W, Below w.heap.size w W → W.cell? ⟨b, off + k * 4 + 2, none⟩ = some (.int .i64 x.height) := fun W h => (bits_at (hA.below h) HX.out).2.2.1
        have c0 := (bits_at (hA.below hB) HX.out).1
        have c1 := (bits_at (hA.below hB) HX.out).2.1
        have c3 := (bits_at (hA.below hB) HX.out).2.2.2
        have hK1 : Opn.I64 (RowKit.wrap64 (x.kind - 1)) := by unfold Opn.I64 RowKit.wrap64; omega
        have hm1 := Int.emod_nonneg (RowKit.wrap64 (x.kind - 1)) (by omega : (3 : Int) ≠ 0)
        have hm2 := Int.emod_lt_of_pos (RowKit.wrap64 (x.kind - 1)) (by omega : (0 : Int) < 3)
        clear HD
        go_wp2_with fail
        refine (within3 _ _ hK1).mono ?_
        rintro e w1 ⟨rfl, rfl⟩
        go_wp2_with fail
        refine (law_small _ _ hx2).mono ?_
        rintro e w1 ⟨rfl, rfl⟩
        obtain ⟨kd, hkd⟩ : ∃ kd, 1 + RowKit.wrap64 (x.kind - 1) % 3 = kd := ⟨_, rfl⟩
        go_upto_if 35 with fail
        obtain ⟨wd, hwd⟩ : ∃ wd, (pcOf k x).width = wd := ⟨_, rfl⟩
        have HWD : Hid ((if kd = 3 then 0 else lit24 x.width) = wd) := hid (by rw [← hwd, ← hkd]; rfl)
        have HP : Hid (pcOf k x = ⟨kd, k, wd, lit24 x.height, x.pre⟩) := hid (by rw [← hwd, ← hkd]; rfl)
        clear hkd hwd hm1 hm2 hK1
        go_cut [8] (fun s8 wx => s8 = .int .i64 wd ∧ wr = wx)
        case first =>
          by_cases h3 : kd = 3
          · have g3 : (kd == 3) = true := by simpa using h3
            have HZ : Hid (wd = 0) := hid (by rw [← HWD.out, if_pos h3])
            clear h3
            go_wp2_with fail
            go_meet
            exact ⟨by rw [HZ.out], rfl⟩
          · have g3 : (kd == 3) = false := by simpa using h3
            have HZ : Hid (wd = lit24 x.width) := hid (by rw [← HWD.out, if_neg h3])
            clear h3
            go_wp2_with fail
            go_meet
            exact ⟨by rw [HZ.out], rfl⟩
        case rest =>
        obtain ⟨rfl, rfl⟩ := hcut
        rw [HP.out] at HD2
        clear HWD HP
        go_wp2_with (first | (first | refine stop_load 34 _ rfl rfl ?_ | refine stop_store 34 _ _ rfl rfl ?_))
        refine ⟨?_⟩
        refine wl_store rfl 34 _ _ rfl wr.heap.size (styArr x.pre) rfl rfl 34 _ (Blk.new _ _ _) rfl info_sty (sty_one _) ?_
        intro w2 hSty hC
        have hB2 : Below wr.heap.size wr w2 := ((Below.refl _ _).alloc (Nat.le_refl _) _).trans (hC.below (Nat.le_refl _))
        replace ho := own_below ho hB2
        replace ho' := own_below ho' hB2
        replace hB := hB.trans (hB2.mono hsz)
        have hsz2 : w.heap.size ≤ wr.heap.size := hsz
        have hgs := hSty.lt
        clear hC hB2 c0 c1 c3 hsz
        (try simp only [Act.put, List.setIfInBounds_toArray, List.set_cons_zero, List.set_cons_succ])
        generalize wr.heap.size = gs at *
        go_upto_region 11 with fail
        have HDn : Hid ((D ++ [(⟨kd, k, wd, lit24 x.height, x.pre⟩ : Pc)]).flatMap Pc.cells = D.flatMap Pc.cells ++ Pc.cells ⟨kd, k, wd, lit24 x.height, x.pre⟩) := hid (by simp)
        go_cut [4] (fun s4 wx => ∃ v2, v2 = s4 ∧ wx.ownsRow w.heap.size 36 57 v2 (k + 1) (D.flatMap Pc.cells ++ Pc.cells ⟨kd, k, wd, lit24 x.height, x.pre⟩) ∧ wx.ownsRow w.heap.size 80 57 u5 k (D.flatMap Pc.cells) ∧ Below w.heap.size w wx ∧ Blk wx gs 34 (styArr x.pre))
        case first =>
          have hS : ∀ W, (Below w.heap.size w W ∧ Blk W gs 34 (styArr x.pre)) → (fun W => (Below w.heap.size w W ∧ Blk W gs 34 (styArr x.pre)) ∧ W.cell? ⟨b, off + k * 4 + 2, none⟩ = some (.int .i64 x.height)) W := fun W h => ⟨h, h4 W h.1⟩
          refine wp_region_noPanic ?_
          refine Ord.region_ord (S := fun W => (Below w.heap.size w W ∧ Blk W gs 34 (styArr x.pre)) ∧ W.cell? ⟨b, off + k * 4 + 2, none⟩ = some (.int .i64 x.height)) [(0, true), (1, true), (2, true), (3, true), (4, true), (5, true), (6, true), (7, true), (8, true), (10, true), (9, false), (11, true), (12, false), (13, false), (14, true)] (by kernel_rfl) (by kernel_rfl) (by kernel_rfl) (by decide) (fun _ _ _ _ _ h => h) (hS _ ⟨hB.drew, hSty.drew⟩) (fun hS0 => ?_)
          simp only [Ord.lay, List.getElem?_cons_zero, List.getElem?_cons_succ]
          (refine Ord.take (v := ?_) (Or.inl ⟨rfl, ?_⟩) ?_; rotate_left; (intro w hSw; (try dsimp only at hSw); go_simp; try (with_reducible rfl)); (try simp only [Act.put, List.setIfInBounds_toArray, List.set_cons_zero, List.set_cons_succ]))
          (refine Ord.take (v := ?_) (Or.inl ⟨rfl, ?_⟩) ?_; rotate_left; (intro w hSw; (try dsimp only at hSw); go_simp; try (with_reducible rfl)); (try simp only [Act.put, List.setIfInBounds_toArray, List.set_cons_zero, List.set_cons_succ]))
          (refine Ord.take (v := ?_) (Or.inl ⟨rfl, ?_⟩) ?_; rotate_left; (intro w hSw; (try dsimp only at hSw); go_simp; try (with_reducible rfl)); (try simp only [Act.put, List.setIfInBounds_toArray, List.set_cons_zero, List.set_cons_succ]))
          (refine Ord.take (v := ?_) (Or.inl ⟨rfl, ?_⟩) ?_; rotate_left; (intro w hSw; (try dsimp only at hSw); go_simp; try (with_reducible rfl)); (try simp only [Act.put, List.setIfInBounds_toArray, List.set_cons_zero, List.set_cons_succ]))
          (refine Ord.take (v := ?_) (Or.inl ⟨rfl, ?_⟩) ?_; rotate_left; (intro w hSw; (try dsimp only at hSw); go_simp; try (with_reducible rfl)); (try simp only [Act.put, List.setIfInBounds_toArray, List.set_cons_zero, List.set_cons_succ]))
          (refine Ord.take (v := ?_) (Or.inl ⟨rfl, ?_⟩) ?_; rotate_left; (intro w hSw; (try dsimp only at hSw); go_simp; try (with_reducible rfl)); (try simp only [Act.put, List.setIfInBounds_toArray, List.set_cons_zero, List.set_cons_succ]))
          (refine Ord.take (v := ?_) (Or.inl ⟨rfl, ?_⟩) ?_; rotate_left; (intro w hSw; (try dsimp only at hSw); go_simp; try (with_reducible rfl)); (try simp only [Act.put, List.setIfInBounds_toArray, List.set_cons_zero, List.set_cons_succ]))
          (refine Ord.take (v := ?_) (Or.inl ⟨rfl, ?_⟩) ?_; rotate_left; (intro w hSw; (try dsimp only at hSw); go_simp; try (with_reducible rfl)); (try simp only [Act.put, List.setIfInBounds_toArray, List.set_cons_zero, List.set_cons_succ]))
          (refine Ord.take (v := ?_) (Or.inl ⟨rfl, ?_⟩) ?_; rotate_left; (intro w hSw; (try dsimp only at hSw); go_simp; try (with_reducible rfl)); (try simp only [Act.put, List.setIfInBounds_toArray, List.set_cons_zero, List.set_cons_succ]))
          (refine Ord.take (yieldsIf_load_mid rfl _ _ rfl gs 0 rfl _ _ (fun w' h => h.1.2.range) Try.underlying34 rfl (info_sty_list _)) ?_; (try simp only [Act.put, List.setIfInBounds_toArray, List.set_cons_zero, List.set_cons_succ]))
          refine Ord.alone rfl (fun K hK => ?_)
          go_simp
          refine (law_small _ _ hx3).mono ?_
          rintro e w1 ⟨rfl, rfl⟩
          go_wp2_with fail
          refine hK.out _ _ hS0 (fun _ => ?_)
          clear hK K
          (try simp only [Act.put, List.setIfInBounds_toArray, List.set_cons_zero, List.set_cons_succ])
          (refine Ord.take (v := .agg (Pc.arr ⟨kd, k, wd, lit24 x.height, x.pre⟩)) (Or.inl ⟨rfl, fun w hSw => by kernel_rfl⟩) ?_; (try simp only [Act.put, List.setIfInBounds_toArray, List.set_cons_zero, List.set_cons_succ]))
          refine Ord.alone' rfl rfl (fun K hK => ?_)
          refine wp_exec (v := .slice (some ⟨w2.heap.size, 0, none⟩) 1 1) (w' := w2.drew.alloc (.cells (Pc.arr ⟨kd, k, wd, lit24 x.height, x.pre⟩) 36)) (by kernel_rfl) ?_
          have hS1 := hS (w2.drew.alloc (.cells (Pc.arr ⟨kd, k, wd, lit24 x.height, x.pre⟩) 36)) ⟨(hB.drew).alloc (by simp; omega) _, hSty.drew.alloc _⟩
          refine hK.out _ _ hS1 (fun _ => ?_)
          clear hK K hS0
          (try simp only [Act.put, List.setIfInBounds_toArray, List.set_cons_zero, List.set_cons_succ])
          refine Ord.alone' rfl rfl (fun K hK => ?_)
          have hown : (w2.drew.alloc (.cells (Pc.arr ⟨kd, k, wd, lit24 x.height, x.pre⟩) 36)).ownsRow w.heap.size 36 57 u4 k (D.flatMap Pc.cells) := (own_drew ho).alloc _
          refine wp_append_own _ _ _ 23 rfl w.heap.size 36 i1 (.agg (Pc.arr ⟨0, 0, 0, 0, false⟩)) 57 432 Try.underlying23 hi1 hz1 hs1 hb1 rfl (by decide) _ _ _ rfl hown ⟨w2.heap.size, 0, none⟩ 1 1 (Pc.cells ⟨kd, k, wd, lit24 x.height, x.pre⟩) rfl rfl (news_at (Blk.new _ _ _) rfl) (fun u hu => (Array.all_eq_true_iff_forall_mem.1 (Pc.one _)) u (by simpa [Pc.cells] using hu)) (by unfold maxLen; omega) (by omega) (by simp; omega) ?_
          intro v2 w3 ho2 hg2 _
          have hS2 := hS w3 ⟨hS1.1.1.trans (own_belowB hown hg2 (by simp; omega)), hS1.1.2.grown hown hg2 (by decide)⟩
          have hoth : w3.ownsRow w.heap.size 80 57 u5 k (D.flatMap Pc.cells) := own_grown ((own_drew ho').alloc _) hown (by decide) hg2
          (try simp only [Act.put, List.setIfInBounds_toArray, List.set_cons_zero, List.set_cons_succ])
          refine hK.out _ _ hS2 (fun _ => ?_)
          clear hK K hS1
          (refine Ord.take (v := ?_) (Or.inl ⟨rfl, ?_⟩) ?_; rotate_left; (intro w hSw; (try dsimp only at hSw); go_simp; try (with_reducible rfl)); (try simp only [Act.put, List.setIfInBounds_toArray, List.set_cons_zero, List.set_cons_succ]))
          refine Ord.done (NoPanic.normal ?_)
          clear hS
          go_wp2_with fail
          go_meet
          exact ⟨_, rfl, ho2, hoth, hS2.1.1, hS2.1.2⟩
        case rest =>
        clear ho ho' hB hSty
        obtain ⟨v4, rfl, ho, ho', hB, hSty⟩ := hcut
        have hsz3 := hB.size
        go_upto_region 12 with fail
        have hS : ∀ W, (Below w.heap.size w W ∧ Blk W gs 34 (styArr x.pre)) → (fun W => (Below w.heap.size w W ∧ Blk W gs 34 (styArr x.pre)) ∧ W.cell? ⟨b, off + k * 4 + 2, none⟩ = some (.int .i64 x.height)) W := fun W h => ⟨h, h4 W h.1⟩
        refine wp_region_noPanic ?_
        refine Ord.region_ord (S := fun W => (Below w.heap.size w W ∧ Blk W gs 34 (styArr x.pre)) ∧ W.cell? ⟨b, off + k * 4 + 2, none⟩ = some (.int .i64 x.height)) [(0, true), (1, true), (2, true), (3, true), (4, true), (5, true), (6, true), (7, true), (8, true), (10, true), (9, false), (11, true), (12, false), (13, false), (14, true)] (by kernel_rfl) (by kernel_rfl) (by kernel_rfl) (by decide) (fun _ _ _ _ _ h => h) (hS _ ⟨hB.drew, hSty.drew⟩) (fun hS0 => ?_)
        simp only [Ord.lay, List.getElem?_cons_zero, List.getElem?_cons_succ]
        (refine Ord.take (v := ?_) (Or.inl ⟨rfl, ?_⟩) ?_; rotate_left; (intro w hSw; (try dsimp only at hSw); go_simp; try (with_reducible rfl)); (try simp only [Act.put, List.setIfInBounds_toArray, List.set_cons_zero, List.set_cons_succ]))
        (refine Ord.take (v := ?_) (Or.inl ⟨rfl, ?_⟩) ?_; rotate_left; (intro w hSw; (try dsimp only at hSw); go_simp; try (with_reducible rfl)); (try simp only [Act.put, List.setIfInBounds_toArray, List.set_cons_zero, List.set_cons_succ]))
        (refine Ord.take (v := ?_) (Or.inl ⟨rfl, ?_⟩) ?_; rotate_left; (intro w hSw; (try dsimp only at hSw); go_simp; try (with_reducible rfl)); (try simp only [Act.put, List.setIfInBounds_toArray, List.set_cons_zero, List.set_cons_succ]))
        (refine Ord.take (v := ?_) (Or.inl ⟨rfl, ?_⟩) ?_; rotate_left; (intro w hSw; (try dsimp only at hSw); go_simp; try (with_reducible rfl)); (try simp only [Act.put, List.setIfInBounds_toArray, List.set_cons_zero, List.set_cons_succ]))
        (refine Ord.take (v := ?_) (Or.inl ⟨rfl, ?_⟩) ?_; rotate_left; (intro w hSw; (try dsimp only at hSw); go_simp; try (with_reducible rfl)); (try simp only [Act.put, List.setIfInBounds_toArray, List.set_cons_zero, List.set_cons_succ]))
        (refine Ord.take (v := ?_) (Or.inl ⟨rfl, ?_⟩) ?_; rotate_left; (intro w hSw; (try dsimp only at hSw); go_simp; try (with_reducible rfl)); (try simp only [Act.put, List.setIfInBounds_toArray, List.set_cons_zero, List.set_cons_succ]))
        (refine Ord.take (v := ?_) (Or.inl ⟨rfl, ?_⟩) ?_; rotate_left; (intro w hSw; (try dsimp only at hSw); go_simp; try (with_reducible rfl)); (try simp only [Act.put, List.setIfInBounds_toArray, List.set_cons_zero, List.set_cons_succ]))
        (refine Ord.take (v := ?_) (Or.inl ⟨rfl, ?_⟩) ?_; rotate_left; (intro w hSw; (try dsimp only at hSw); go_simp; try (with_reducible rfl)); (try simp only [Act.put, List.setIfInBounds_toArray, List.set_cons_zero, List.set_cons_succ]))
        (refine Ord.take (v := ?_) (Or.inl ⟨rfl, ?_⟩) ?_; rotate_left; (intro w hSw; (try dsimp only at hSw); go_simp; try (with_reducible rfl)); (try simp only [Act.put, List.setIfInBounds_toArray, List.set_cons_zero, List.set_cons_succ]))
        (refine Ord.take (yieldsIf_load_mid rfl _ _ rfl gs 0 rfl _ _ (fun w' h => h.1.2.range) Try.underlying34 rfl (info_sty_list _)) ?_; (try simp only [Act.put, List.setIfInBounds_toArray, List.set_cons_zero, List.set_cons_succ]))
        refine Ord.alone rfl (fun K hK => ?_)
        go_simp
        refine (law_small _ _ hx3).mono ?_
        rintro e w1 ⟨rfl, rfl⟩
        go_wp2_with fail
        refine hK.out _ _ hS0 (fun _ => ?_)
        clear hK K
        (try simp only [Act.put, List.setIfInBounds_toArray, List.set_cons_zero, List.set_cons_succ])
        (refine Ord.take (v := .agg (Pc.arr ⟨kd, k, wd, lit24 x.height, x.pre⟩)) (Or.inl ⟨rfl, fun w hSw => by kernel_rfl⟩) ?_; (try simp only [Act.put, List.setIfInBounds_toArray, List.set_cons_zero, List.set_cons_succ]))
        refine Ord.alone' rfl rfl (fun K hK => ?_)
        refine wp_exec (v := .slice (some ⟨wc.heap.size, 0, none⟩) 1 1) (w' := wc.drew.alloc (.cells (Pc.arr ⟨kd, k, wd, lit24 x.height, x.pre⟩) 80)) (by kernel_rfl) ?_
        have hS1 := hS (wc.drew.alloc (.cells (Pc.arr ⟨kd, k, wd, lit24 x.height, x.pre⟩) 80)) ⟨(hB.drew).alloc (by simp; omega) _, hSty.drew.alloc _⟩
        refine hK.out _ _ hS1 (fun _ => ?_)
        clear hK K hS0
        (try simp only [Act.put, List.setIfInBounds_toArray, List.set_cons_zero, List.set_cons_succ])
        refine Ord.alone' rfl rfl (fun K hK => ?_)
        have hown : (wc.drew.alloc (.cells (Pc.arr ⟨kd, k, wd, lit24 x.height, x.pre⟩) 80)).ownsRow w.heap.size 80 57 u5 k (D.flatMap Pc.cells) := (own_drew ho').alloc _
        refine wp_append_own _ _ _ 24 rfl w.heap.size 80 i2 (.agg (Pc.arr ⟨0, 0, 0, 0, false⟩)) 57 432 Try.underlying24 hi2 hz2 hs2 hb2 rfl (by decide) _ _ _ rfl hown ⟨wc.heap.size, 0, none⟩ 1 1 (Pc.cells ⟨kd, k, wd, lit24 x.height, x.pre⟩) rfl rfl (news_at (Blk.new _ _ _) rfl) (fun u hu => (Array.all_eq_true_iff_forall_mem.1 (Pc.one _)) u (by simpa [Pc.cells] using hu)) (by unfold maxLen; omega) (by omega) (by simp; omega) ?_
        intro v2 w3 ho2 hg2 _
        have hS2 := hS w3 ⟨hS1.1.1.trans (own_belowB hown hg2 (by simp; omega)), hS1.1.2.grown hown hg2 (by decide)⟩
        have hoth : w3.ownsRow w.heap.size 36 57 v4 (k + 1) (D.flatMap Pc.cells ++ Pc.cells ⟨kd, k, wd, lit24 x.height, x.pre⟩) := own_grown ((own_drew ho).alloc _) hown (by decide) hg2
        (try simp only [Act.put, List.setIfInBounds_toArray, List.set_cons_zero, List.set_cons_succ])
        refine hK.out _ _ hS2 (fun _ => ?_)
        clear hK K hS1
        (refine Ord.take (v := ?_) (Or.inl ⟨rfl, ?_⟩) ?_; rotate_left; (intro w hSw; (try dsimp only at hSw); go_simp; try (with_reducible rfl)); (try simp only [Act.put, List.setIfInBounds_toArray, List.set_cons_zero, List.set_cons_succ]))
        refine Ord.done (NoPanic.normal ?_)
        have hB4 := hS2.1.1
        clear hS hB hSty ho ho' hS2
        go_wp2_with fail
        go_roundw
        case rel => exact ⟨k + 1, _, by omega, by omega, by go_num, by simp; omega, HD2, by rw [HDn.out]; exact hoth, by rw [HDn.out]; exact ho2, hB4⟩
        case measure => simp [intOf]; omega
      · obtain rfl : k = 80 := by omega
        have HZ : Hid (D = L) := hid (by have := HD.out; rw [List.drop_of_length_le (by simp; omega)] at this; simpa [pcs] using this)
        have hlen : (l.take 80).length = 80 := by simp; omega
        go_wp2_with fail
        go_ret2
        rw [← HZ.out, hlen]
        exact ⟨_, _, rfl, hB, ho, ho'⟩
    · obtain rfl : k = l.length := by omega
      have HZ : Hid (D = L) := hid (by have := HD.out; rw [List.drop_of_length_le (by simp; omega)] at this; simpa [pcs] using this)
      have hlen : (l.take 80).length = l.length := by simp; omega
      go_wp2_with fail
      go_ret2
      rw [← HZ.out, hlen]
      exact ⟨_, _, rfl, hB, ho, ho'⟩
end Go.Proofs.Ytebolanengnpfaa
