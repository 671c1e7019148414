/-
  The walk of casementref20.Down.
-/
import Derived.Test.YtkkabnkhdhlhkaaRefF
import Derived.Test.YtkkabnkhdhlhkaaOrdQ
namespace Go.Proofs.Ytkkabnkhdhlhkaa
open Go.RowKit Num Mem Opn
set_option linter.unusedVariables false
set_option linter.unusedSimpArgs false
namespace Num
def Sty.rdh (s : Sty) (ht content : Int) (f : Fr) : Int :=
  if given s.hk then max (len s.hk s.hn ht) 0
  else if given s.o0k && given s.o2k then max (sub ht (sums [s.top ht, s.bottom ht, f.m.t, f.m.b, f.rdown] 5)) 0
  else content
def Sty.rdy (s : Sty) (y ht at' c : Int) (f : Fr) : Int :=
  if given s.o0k then sums [y, s.top ht, f.m.t] 3
  else if given s.o2k then sub (add y ht) (sums [s.bottom ht, f.m.b, f.rdown, c] 4)
  else add at' f.m.t
end Num
structure Rd (w W : World) (s : Sty) (x y wd ht : Int) (f : Fr) : Prop where
  below : Below w.heap.size w W
  sty : Blk W w.heap.size 28 s.arr
  rct : Blk W (w.heap.size + 1) 48 #[.int .i64 x, .int .i64 y, .int .i64 wd, .int .i64 ht]
  frm : Blk W (w.heap.size + 1 + 1) 58 f.arr
theorem Rd.on {w W W' : World} {s : Sty} {x y wd ht : Int} {f : Fr} (h : Rd w W s x y wd ht f) (hb : Below W.heap.size W W') : Rd w W' s x y wd ht f :=
  ⟨h.below.trans (hb.mono h.below.size), h.sty.below hb h.sty.lt, h.rct.below hb h.rct.lt, h.frm.below hb h.frm.lt⟩
theorem Rd.drew {w W : World} {s : Sty} {x y wd ht : Int} {f : Fr} (h : Rd w W s x y wd ht f) : Rd w W.drew s x y wd ht f := h.on (by go_grown)
set_option maxRecDepth 100000 in
set_option maxHeartbeats 4000000 in
theorem ref_Down (s : Sty) (x y wd ht at' content : Int) (f : Fr) (w : World) :
    Calls Try.prog 30 #[.agg s.arr, .agg #[.int .i64 x, .int .i64 y, .int .i64 wd, .int .i64 ht], .int .i64 at', .int .i64 content, .agg f.arr] w fun e w' =>
      e = .returned (.tuple #[.int .i64 (s.rdy y ht at' (s.rdh ht content f) f), .int .i64 (s.rdh ht content f)]) ∧ Below w.heap.size w w' := by
  have h : Rd w (((w.alloc (.cells s.arr 28)).alloc (.cells #[.int .i64 x, .int .i64 y, .int .i64 wd, .int .i64 ht] 48)).alloc (.cells f.arr 58)) s x y wd ht f :=
    ⟨by go_grown, ((Blk.new _ _ _).alloc _).alloc _, (Blk.newAt _ _ _ (by simp)).alloc _, Blk.newAt _ _ _ (by simp)⟩
  obtain ⟨H, hH⟩ : ∃ H, s.rdh ht content f = H := ⟨_, rfl⟩
  obtain ⟨Y, hY⟩ : ∃ Y, s.rdy y ht at' H f = Y := ⟨_, rfl⟩
  rw [hH, hY]
  replace hH := hid hH
  replace hY := hid hY
  go_enter Try.func30, Try.ntmps30
  go_upto_region 1 with fail
  refine wp_forget (fun W => Rd w W s x y wd ht f) h ?_
  clear h
  intro w0 h
  have c24 : w0.cell? ⟨w.heap.size, 24, none⟩ = some (.int .i64 s.o0k) := h.sty.cell 24
  have c25 : w0.cell? ⟨w.heap.size, 25, none⟩ = some (.int .i64 s.o0n) := h.sty.cell 25
  have cW : w0.cell? ⟨w.heap.size + 1, 3, none⟩ = some (.int .i64 ht) := h.rct.cell 3
  go_wp2_with fail
  refine (ref_Length s.o0k s.o0n ht _).mono ?_
  rintro e w1 ⟨rfl, hbq⟩
  replace h := h.on hbq
  clear hbq c24 c25 cW
  have c28 : w1.cell? ⟨w.heap.size, 28, none⟩ = some (.int .i64 s.o2k) := h.sty.cell 28
  have c29 : w1.cell? ⟨w.heap.size, 29, none⟩ = some (.int .i64 s.o2n) := h.sty.cell 29
  have cW : w1.cell? ⟨w.heap.size + 1, 3, none⟩ = some (.int .i64 ht) := h.rct.cell 3
  go_wp2_with fail
  refine (ref_Length s.o2k s.o2n ht _).mono ?_
  rintro e w2 ⟨rfl, hbq⟩
  replace h := h.on hbq
  clear hbq c28 c29 cW
  go_wp2_with (first | (first | refine stop_load 28 _ rfl rfl ?_ | refine stop_store 28 _ _ rfl rfl ?_) | (first | refine stop_load 58 _ rfl rfl ?_ | refine stop_store 58 _ _ rfl rfl ?_))
  refine ⟨?_⟩
  refine wl_load rfl 58 _ rfl _ rfl _ _ _ h.frm rfl rfl (info_rf _) ?_
  (try simp only [Act.put, List.setIfInBounds_toArray, List.set_cons_zero, List.set_cons_succ])
  go_wp2_with (first | (first | refine stop_load 28 _ rfl rfl ?_ | refine stop_store 28 _ _ rfl rfl ?_) | (first | refine stop_load 58 _ rfl rfl ?_ | refine stop_store 58 _ _ rfl rfl ?_))
  refine (ref_Inner _ _).mono ?_
  rintro e w3 ⟨rfl, hbq⟩
  replace h := h.on hbq
  clear hbq
  go_wp2_with (first | (first | refine stop_load 28 _ rfl rfl ?_ | refine stop_store 28 _ _ rfl rfl ?_) | (first | refine stop_load 58 _ rfl rfl ?_ | refine stop_store 58 _ _ rfl rfl ?_))
  refine ⟨?_⟩
  refine wl_load rfl 28 _ rfl _ rfl _ _ _ h.sty rfl rfl (info_style' _) ?_
  (try simp only [Act.put, List.setIfInBounds_toArray, List.set_cons_zero, List.set_cons_succ])
  have cW : w3.cell? ⟨w.heap.size + 1, 3, none⟩ = some (.int .i64 ht) := h.rct.cell 3
  go_wp2_with fail
  refine (ref_Height1 s ht _).mono ?_
  rintro e w4 ⟨rfl, hbq⟩
  replace h := h.on hbq
  clear hbq cW
  obtain ⟨ga, ha⟩ : ∃ b, given s.o0k = b := ⟨_, rfl⟩
  obtain ⟨gb, hb⟩ : ∃ b, given s.o2k = b := ⟨_, rfl⟩
  obtain ⟨gc, hc⟩ : ∃ b, given s.hk = b := ⟨_, rfl⟩
  rw [ha, hb, hc]
  have HH : Hid ((if gc then max (len s.hk s.hn ht) 0 else if ga && gb then max (sub ht (sums [s.top ht, s.bottom ht, f.m.t, f.m.b, f.rdown] 5)) 0 else content) = H) := hid (by rw [← hH.out, ← ha, ← hb, ← hc]; rfl)
  have HY : Hid ((if ga then sums [y, s.top ht, f.m.t] 3 else if gb then sub (add y ht) (sums [s.bottom ht, f.m.b, f.rdown, H] 4) else add at' f.m.t) = Y) := hid (by rw [← hY.out, ← ha, ← hb]; rfl)
  obtain ⟨hv, hhv⟩ : ∃ hv, (if gc = true then max (len s.hk s.hn ht) 0 else 0) = hv := ⟨_, rfl⟩
  rw [hhv]
  have HH2 : Hid (gc = true → hv = H) := hid (by
    intro hg
    have h1 := HH.out
    rw [if_pos hg] at h1 hhv
    rw [← hhv, h1])
  clear hH hY ha hb hc hhv
  obtain ⟨T, hT⟩ : ∃ T, len s.o0k s.o0n ht = T := ⟨_, rfl⟩
  obtain ⟨B, hB⟩ : ∃ B, len s.o2k s.o2n ht = B := ⟨_, rfl⟩
  rw [show s.top ht = T from hT, show s.bottom ht = B from hB] at HH
  rw [show s.top ht = T from hT, show s.bottom ht = B from hB] at HY
  rw [hT, hB]
  clear hT hB
  obtain ⟨rd, hrd⟩ : ∃ rd, f.rdown = rd := ⟨_, rfl⟩
  rw [hrd] at HH HY ⊢
  clear hrd
  generalize f.racross = ra at *
  go_upto_if 52 with fail
  go_cut [20] (fun s20 wx => s20 = .int .i64 H ∧ Rd w wx s x y wd ht f)
  case first =>
    cases gc with
    | true =>
      have HZ : Hid (hv = H) := hid (HH2.out rfl)
      clear HH HH2
      go_wp2_with fail
      go_meet
      exact ⟨by rw [HZ.out], h⟩
    | false =>
      cases ga with
      | false =>
        have HZ : Hid (content = H) := hid (by simpa using HH.out)
        go_wp2_with fail
        go_meet
        exact ⟨by rw [HZ.out], h⟩
      | true =>
        cases gb with
        | false =>
          have HZ : Hid (content = H) := hid (by simpa using HH.out)
          go_wp2_with fail
          go_meet
          exact ⟨by rw [HZ.out], h⟩
        | true =>
          have HZ : Hid (max (sub ht (sums [T, B, f.m.t, f.m.b, rd] 5)) 0 = H) := hid (by simpa using HH.out)
          have hS : ∀ W, Rd w W s x y wd ht f → (fun W : World => Rd w W s x y wd ht f ∧ W.cell? ⟨w.heap.size + 1, 3, none⟩ = some (.int .i64 ht) ∧ W.cell? ⟨w.heap.size + 1 + 1, 0, none⟩ = some (.int .i64 f.m.t) ∧ W.cell? ⟨w.heap.size + 1 + 1, 2, none⟩ = some (.int .i64 f.m.b)) W := fun W h => ⟨h, h.rct.cell 3, h.frm.cell 0, h.frm.cell 2⟩
          go_upto_region 9 with fail
          refine wp_region_noPanic ?_
          refine Ord.region_Q (S := fun W : World => Rd w W s x y wd ht f ∧ W.cell? ⟨w.heap.size + 1, 3, none⟩ = some (.int .i64 ht) ∧ W.cell? ⟨w.heap.size + 1 + 1, 0, none⟩ = some (.int .i64 f.m.t) ∧ W.cell? ⟨w.heap.size + 1 + 1, 2, none⟩ = some (.int .i64 f.m.b)) 999 (.one 0 true (.one 1 true (.one 2 true (.one 3 true (.one 4 true (.one 5 true (.one 6 true (.one 7 true (.one 8 true (.one 9 true (.one 10 true (.one 11 false (.one 12 false (.one 13 false (.one 14 false (.one 15 true .nil)))))))))))))))) (by kernel_rfl) (by kernel_rfl) (by kernel_rfl) (by decide) (fun _ _ _ _ _ h => h) (hS _ h.drew) (fun hS0 => ?_)
          simp only [Ord.layT, List.getElem?_cons_zero, List.getElem?_cons_succ]
          (refine Ord.takeQ (v := ?_) (Or.inl ⟨rfl, ?_⟩) ?_; rotate_left; (intro w hSw; (try dsimp only at hSw); go_simp; try (with_reducible rfl)); (try simp only [Act.put, List.setIfInBounds_toArray, List.set_cons_zero, List.set_cons_succ]))
          (refine Ord.takeQ (v := ?_) (Or.inl ⟨rfl, ?_⟩) ?_; rotate_left; (intro w hSw; (try dsimp only at hSw); go_simp; try (with_reducible rfl)); (try simp only [Act.put, List.setIfInBounds_toArray, List.set_cons_zero, List.set_cons_succ]))
          (refine Ord.takeQ (v := ?_) (Or.inl ⟨rfl, ?_⟩) ?_; rotate_left; (intro w hSw; (try dsimp only at hSw); go_simp; try (with_reducible rfl)); (try simp only [Act.put, List.setIfInBounds_toArray, List.set_cons_zero, List.set_cons_succ]))
          (refine Ord.takeQ (v := ?_) (Or.inl ⟨rfl, ?_⟩) ?_; rotate_left; (intro w hSw; (try dsimp only at hSw); go_simp; try (with_reducible rfl)); (try simp only [Act.put, List.setIfInBounds_toArray, List.set_cons_zero, List.set_cons_succ]))
          (refine Ord.takeQ (v := ?_) (Or.inl ⟨rfl, ?_⟩) ?_; rotate_left; (intro w hSw; (try dsimp only at hSw); go_simp; try (with_reducible rfl)); (try simp only [Act.put, List.setIfInBounds_toArray, List.set_cons_zero, List.set_cons_succ]))
          (refine Ord.takeQ (v := ?_) (Or.inl ⟨rfl, ?_⟩) ?_; rotate_left; (intro w hSw; (try dsimp only at hSw); go_simp; try (with_reducible rfl)); (try simp only [Act.put, List.setIfInBounds_toArray, List.set_cons_zero, List.set_cons_succ]))
          (refine Ord.takeQ (v := ?_) (Or.inl ⟨rfl, ?_⟩) ?_; rotate_left; (intro w hSw; (try dsimp only at hSw); go_simp; try (with_reducible rfl)); (try simp only [Act.put, List.setIfInBounds_toArray, List.set_cons_zero, List.set_cons_succ]))
          (refine Ord.takeQ (v := ?_) (Or.inl ⟨rfl, ?_⟩) ?_; rotate_left; (intro w hSw; (try dsimp only at hSw); go_simp; try (with_reducible rfl)); (try simp only [Act.put, List.setIfInBounds_toArray, List.set_cons_zero, List.set_cons_succ]))
          (refine Ord.takeQ (v := ?_) (Or.inl ⟨rfl, ?_⟩) ?_; rotate_left; (intro w hSw; (try dsimp only at hSw); go_simp; try (with_reducible rfl)); (try simp only [Act.put, List.setIfInBounds_toArray, List.set_cons_zero, List.set_cons_succ]))
          (refine Ord.takeQ (v := ?_) (Or.inl ⟨rfl, ?_⟩) ?_; rotate_left; (intro w hSw; (try dsimp only at hSw); go_simp; try (with_reducible rfl)); (try simp only [Act.put, List.setIfInBounds_toArray, List.set_cons_zero, List.set_cons_succ]))
          (refine Ord.takeQ (v := ?_) (Or.inl ⟨rfl, ?_⟩) ?_; rotate_left; (intro w hSw; (try dsimp only at hSw); go_simp; try (with_reducible rfl)); (try simp only [Act.put, List.setIfInBounds_toArray, List.set_cons_zero, List.set_cons_succ]))
          refine Ord.aloneQ rfl rfl (fun K hK => ?_)
          go_simp
          have hS1 := hS (w4.alloc (.cells #[.int .i64 T, .int .i64 B, .int .i64 f.m.t, .int .i64 f.m.b, .int .i64 rd] 2)).drew (h.on (by go_grown))
          (try simp only [Act.put, List.setIfInBounds_toArray, List.set_cons_zero, List.set_cons_succ])
          refine hK.out _ _ (hS1) (fun _ => ?_)
          clear hK K
          refine Ord.aloneQ rfl rfl (fun K hK => ?_)
          go_simp
          refine (rsum5 T B f.m.t f.m.b rd _ _ (Blk.new w4 2 #[.int .i64 T, .int .i64 B, .int .i64 f.m.t, .int .i64 f.m.b, .int .i64 rd]).drew).mono ?_
          rintro e w' ⟨rfl, rfl⟩
          go_wp2_with fail
          (try simp only [Act.put, List.setIfInBounds_toArray, List.set_cons_zero, List.set_cons_succ])
          refine hK.out _ _ (hS1) (fun _ => ?_)
          clear hK K
          refine Ord.aloneQ rfl rfl (fun K hK => ?_)
          go_simp
          refine (ref_Sub _ _ _).mono ?_
          rintro e w' ⟨rfl, rfl⟩
          go_wp2_with fail
          (try simp only [Act.put, List.setIfInBounds_toArray, List.set_cons_zero, List.set_cons_succ])
          refine hK.out _ _ (hS1) (fun _ => ?_)
          clear hK K
          refine Ord.aloneQ rfl rfl (fun K hK => ?_)
          go_simp
          refine (ref_up _ _).mono ?_
          rintro e w' ⟨rfl, rfl⟩
          go_wp2_with fail
          (try simp only [Act.put, List.setIfInBounds_toArray, List.set_cons_zero, List.set_cons_succ])
          refine hK.out _ _ (hS1) (fun _ => ?_)
          clear hK K
          (refine Ord.takeQ (v := ?_) (Or.inl ⟨rfl, ?_⟩) ?_; rotate_left; (intro w hSw; (try dsimp only at hSw); go_simp; try (with_reducible rfl)); (try simp only [Act.put, List.setIfInBounds_toArray, List.set_cons_zero, List.set_cons_succ]))
          refine Ord.doneQ (NoPanic.normal ?_)
          obtain ⟨h1, -⟩ := hS1
          clear hS h
          go_wp2_with fail
          go_meet
          exact ⟨by rw [HZ.out], h1⟩
  case rest =>
  obtain ⟨rfl, h⟩ := hcut
  obtain ⟨wq, rfl⟩ : ∃ z, z = wc := ⟨_, rfl⟩
  clear HH HH2
  cases ga with
  | true =>
    have HZ : Hid (sums [y, T, f.m.t] 3 = Y) := hid (by simpa using HY.out)
    have cY : wq.cell? ⟨w.heap.size + 1, 1, none⟩ = some (.int .i64 y) := h.rct.cell 1
    have cT : wq.cell? ⟨w.heap.size + 1 + 1, 0, none⟩ = some (.int .i64 f.m.t) := h.frm.cell 0
    go_wp2_with fail
    refine (rsum3 y T f.m.t _ _ (Blk.new wq 2 #[.int .i64 y, .int .i64 T, .int .i64 f.m.t])).mono ?_
    rintro e w' ⟨rfl, rfl⟩
    go_wp2_with fail
    go_ret2
    rw [← HZ.out]
    exact ⟨rfl, h.below.trans ((Below.refl _ _).alloc h.below.size _)⟩
  | false =>
    cases gb with
    | true =>
      have HZ : Hid (sub (add y ht) (sums [B, f.m.b, rd, H] 4) = Y) := hid (by simpa using HY.out)
      have hS : ∀ W, Rd w W s x y wd ht f → (fun W : World => Rd w W s x y wd ht f ∧ W.cell? ⟨w.heap.size + 1, 1, none⟩ = some (.int .i64 y) ∧ W.cell? ⟨w.heap.size + 1, 3, none⟩ = some (.int .i64 ht) ∧ W.cell? ⟨w.heap.size + 1 + 1, 2, none⟩ = some (.int .i64 f.m.b)) W := fun W h => ⟨h, h.rct.cell 1, h.rct.cell 3, h.frm.cell 2⟩
      go_upto_region 13 with fail
      refine wp_region_noPanic ?_
      refine Ord.region_Q (S := fun W : World => Rd w W s x y wd ht f ∧ W.cell? ⟨w.heap.size + 1, 1, none⟩ = some (.int .i64 y) ∧ W.cell? ⟨w.heap.size + 1, 3, none⟩ = some (.int .i64 ht) ∧ W.cell? ⟨w.heap.size + 1 + 1, 2, none⟩ = some (.int .i64 f.m.b)) 999 (.one 0 true (.one 1 true (.one 2 true (.one 3 true (.one 4 true (.one 5 true (.one 6 true (.one 7 true (.one 8 true (.one 9 true (.one 10 true (.one 14 true (.one 11 false (.one 12 false (.one 13 false (.one 15 true (.one 16 true .nil))))))))))))))))) (by kernel_rfl) (by kernel_rfl) (by kernel_rfl) (by decide) (fun _ _ _ _ _ h => h) (hS _ h.drew) (fun hS0 => ?_)
      simp only [Ord.layT, List.getElem?_cons_zero, List.getElem?_cons_succ]
      (refine Ord.takeQ (v := ?_) (Or.inl ⟨rfl, ?_⟩) ?_; rotate_left; (intro w hSw; (try dsimp only at hSw); go_simp; try (with_reducible rfl)); (try simp only [Act.put, List.setIfInBounds_toArray, List.set_cons_zero, List.set_cons_succ]))
      (refine Ord.takeQ (v := ?_) (Or.inl ⟨rfl, ?_⟩) ?_; rotate_left; (intro w hSw; (try dsimp only at hSw); go_simp; try (with_reducible rfl)); (try simp only [Act.put, List.setIfInBounds_toArray, List.set_cons_zero, List.set_cons_succ]))
      (refine Ord.takeQ (v := ?_) (Or.inl ⟨rfl, ?_⟩) ?_; rotate_left; (intro w hSw; (try dsimp only at hSw); go_simp; try (with_reducible rfl)); (try simp only [Act.put, List.setIfInBounds_toArray, List.set_cons_zero, List.set_cons_succ]))
      (refine Ord.takeQ (v := ?_) (Or.inl ⟨rfl, ?_⟩) ?_; rotate_left; (intro w hSw; (try dsimp only at hSw); go_simp; try (with_reducible rfl)); (try simp only [Act.put, List.setIfInBounds_toArray, List.set_cons_zero, List.set_cons_succ]))
      (refine Ord.takeC 59 #[.int .i64 y, .int .i64 ht] rfl (fun _ _ => by kernel_rfl) (fun w hSw => ref_Add _ _ _) ?_; (try simp only [Act.put, List.setIfInBounds_toArray, List.set_cons_zero, List.set_cons_succ]))
      (refine Ord.takeQ (v := ?_) (Or.inl ⟨rfl, ?_⟩) ?_; rotate_left; (intro w hSw; (try dsimp only at hSw); go_simp; try (with_reducible rfl)); (try simp only [Act.put, List.setIfInBounds_toArray, List.set_cons_zero, List.set_cons_succ]))
      (refine Ord.takeQ (v := ?_) (Or.inl ⟨rfl, ?_⟩) ?_; rotate_left; (intro w hSw; (try dsimp only at hSw); go_simp; try (with_reducible rfl)); (try simp only [Act.put, List.setIfInBounds_toArray, List.set_cons_zero, List.set_cons_succ]))
      (refine Ord.takeQ (v := ?_) (Or.inl ⟨rfl, ?_⟩) ?_; rotate_left; (intro w hSw; (try dsimp only at hSw); go_simp; try (with_reducible rfl)); (try simp only [Act.put, List.setIfInBounds_toArray, List.set_cons_zero, List.set_cons_succ]))
      (refine Ord.takeQ (v := ?_) (Or.inl ⟨rfl, ?_⟩) ?_; rotate_left; (intro w hSw; (try dsimp only at hSw); go_simp; try (with_reducible rfl)); (try simp only [Act.put, List.setIfInBounds_toArray, List.set_cons_zero, List.set_cons_succ]))
      (refine Ord.takeQ (v := ?_) (Or.inl ⟨rfl, ?_⟩) ?_; rotate_left; (intro w hSw; (try dsimp only at hSw); go_simp; try (with_reducible rfl)); (try simp only [Act.put, List.setIfInBounds_toArray, List.set_cons_zero, List.set_cons_succ]))
      (refine Ord.takeQ (v := ?_) (Or.inl ⟨rfl, ?_⟩) ?_; rotate_left; (intro w hSw; (try dsimp only at hSw); go_simp; try (with_reducible rfl)); (try simp only [Act.put, List.setIfInBounds_toArray, List.set_cons_zero, List.set_cons_succ]))
      (refine Ord.takeQ (v := ?_) (Or.inl ⟨rfl, ?_⟩) ?_; rotate_left; (intro w hSw; (try dsimp only at hSw); go_simp; try (with_reducible rfl)); (try simp only [Act.put, List.setIfInBounds_toArray, List.set_cons_zero, List.set_cons_succ]))
      refine Ord.aloneQ rfl rfl (fun K hK => ?_)
      go_simp
      have hS1 := hS (wq.alloc (.cells #[.int .i64 B, .int .i64 f.m.b, .int .i64 rd, .int .i64 H] 2)).drew (h.on (by go_grown))
      (try simp only [Act.put, List.setIfInBounds_toArray, List.set_cons_zero, List.set_cons_succ])
      refine hK.out _ _ (hS1) (fun _ => ?_)
      clear hK K
      refine Ord.aloneQ rfl rfl (fun K hK => ?_)
      go_simp
      refine (rsum4 B f.m.b rd H _ _ (Blk.new wq 2 #[.int .i64 B, .int .i64 f.m.b, .int .i64 rd, .int .i64 H]).drew).mono ?_
      rintro e w' ⟨rfl, rfl⟩
      go_wp2_with fail
      (try simp only [Act.put, List.setIfInBounds_toArray, List.set_cons_zero, List.set_cons_succ])
      refine hK.out _ _ (hS1) (fun _ => ?_)
      clear hK K
      refine Ord.aloneQ rfl rfl (fun K hK => ?_)
      go_simp
      refine (ref_Sub _ _ _).mono ?_
      rintro e w' ⟨rfl, rfl⟩
      go_wp2_with fail
      (try simp only [Act.put, List.setIfInBounds_toArray, List.set_cons_zero, List.set_cons_succ])
      refine hK.out _ _ (hS1) (fun _ => ?_)
      clear hK K
      (refine Ord.takeQ (v := ?_) (Or.inl ⟨rfl, ?_⟩) ?_; rotate_left; (intro w hSw; (try dsimp only at hSw); go_simp; try (with_reducible rfl)); (try simp only [Act.put, List.setIfInBounds_toArray, List.set_cons_zero, List.set_cons_succ]))
      (refine Ord.takeQ (v := ?_) (Or.inl ⟨rfl, ?_⟩) ?_; rotate_left; (intro w hSw; (try dsimp only at hSw); go_simp; try (with_reducible rfl)); (try simp only [Act.put, List.setIfInBounds_toArray, List.set_cons_zero, List.set_cons_succ]))
      refine Ord.doneQ (NoPanic.normal ?_)
      obtain ⟨h1, -⟩ := hS1
      clear hS h
      go_wp2_with fail
      go_ret2
      rw [← HZ.out]
      exact ⟨rfl, h1.below⟩
    | false =>
      have HZ : Hid (add at' f.m.t = Y) := hid (by simpa using HY.out)
      have cT : wq.cell? ⟨w.heap.size + 1 + 1, 0, none⟩ = some (.int .i64 f.m.t) := h.frm.cell 0
      go_wp2_with fail
      refine (ref_Add _ _ _).mono ?_
      rintro e w' ⟨rfl, rfl⟩
      go_wp2_with fail
      go_ret2
      rw [← HZ.out]
      exact ⟨rfl, h.below⟩
end Go.Proofs.Ytkkabnkhdhlhkaa
