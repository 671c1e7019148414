/-
  The walk of place.Down.
-/
import Derived.Test.YtkkabnkhdhlhkaaPlaceC
namespace Go.Proofs.Ytkkabnkhdhlhkaa
open Go.RowKit Num Mem Opn
set_option linter.unusedVariables false
set_option linter.unusedSimpArgs false
namespace Num
def Sty.top (s : Sty) (ht : Int) : Int := len s.o0k s.o0n ht
def Sty.bottom (s : Sty) (ht : Int) : Int := len s.o2k s.o2n ht
def Sty.dh (s : Sty) (ht content : Int) (f : Fr) : Int :=
  if given s.hk then max (len s.hk s.hn ht) 0
  else if given s.o0k && given s.o2k then max (sub (sub (sub ht (s.top ht)) (s.bottom ht)) (f.sum true)) 0
  else content
def Sty.dy (s : Sty) (y ht at' c : Int) (f : Fr) : Int :=
  if given s.o0k then sums [y, s.top ht, f.m.t] 3
  else if given s.o2k then sub (sub (sub (sub (add y ht) (s.bottom ht)) f.m.b) f.down) c
  else add at' f.m.t
end Num
/-- what Down holds: a style's box, a room's, a frame's. -/
structure Dc (w W : World) (s : Sty) (x y wd ht : Int) (f : Fr) : Prop where
  below : Below w.heap.size w W
  sty : Blk W w.heap.size 28 s.arr
  rct : Blk W (w.heap.size + 1) 48 #[.int .i64 x, .int .i64 y, .int .i64 wd, .int .i64 ht]
  frm : Blk W (w.heap.size + 1 + 1) 35 f.arr
section
variable {w W W' : World} {s : Sty} {x y wd ht : Int} {f : Fr}
theorem Dc.on (h : Dc w W s x y wd ht f) (hb : Below W.heap.size W W') : Dc w W' s x y wd ht f :=
  ⟨h.below.trans (hb.mono h.below.size), h.sty.below hb h.sty.lt, h.rct.below hb h.rct.lt, h.frm.below hb h.frm.lt⟩
theorem Dc.drew (h : Dc w W s x y wd ht f) : Dc w W.drew s x y wd ht f := h.on (by go_grown)
end
set_option maxRecDepth 100000 in
set_option maxHeartbeats 4000000 in
theorem place_Down (s : Sty) (x y wd ht at' content : Int) (f : Fr) (w : World) :
    Calls Try.prog 26 #[.agg s.arr, .agg #[.int .i64 x, .int .i64 y, .int .i64 wd, .int .i64 ht], .int .i64 at', .int .i64 content, .agg f.arr] w fun e w' =>
      e = .returned (.tuple #[.int .i64 (s.dy y ht at' (s.dh ht content f) f), .int .i64 (s.dh ht content f)]) ∧ Below w.heap.size w w' := by
  have h : Dc w (((w.alloc (.cells s.arr 28)).alloc (.cells #[.int .i64 x, .int .i64 y, .int .i64 wd, .int .i64 ht] 48)).alloc (.cells f.arr 35)) s x y wd ht f :=
    ⟨by go_grown, ((Blk.new _ _ _).alloc _).alloc _, (Blk.newAt _ _ _ (by simp)).alloc _, Blk.newAt _ _ _ (by simp)⟩
  go_enter Try.func26, Try.ntmps26
  go_upto_region 1 with (first | (first | refine stop_load 28 _ rfl rfl ?_ | refine stop_store 28 _ _ rfl rfl ?_) | (first | refine stop_load 35 _ rfl rfl ?_ | refine stop_store 35 _ _ rfl rfl ?_))
  refine wp_forget (fun W => Dc w W s x y wd ht f) h ?_
  clear h
  intro wc h
  have c24 : wc.cell? ⟨w.heap.size, 24, none⟩ = some (.int .i64 s.o0k) := h.sty.cell 24
  have c25 : wc.cell? ⟨w.heap.size, 25, none⟩ = some (.int .i64 s.o0n) := h.sty.cell 25
  have cH : wc.cell? ⟨w.heap.size + 1, 3, none⟩ = some (.int .i64 ht) := h.rct.cell 3
  go_wp2_with (first | (first | refine stop_load 28 _ rfl rfl ?_ | refine stop_store 28 _ _ rfl rfl ?_) | (first | refine stop_load 35 _ rfl rfl ?_ | refine stop_store 35 _ _ rfl rfl ?_))
  refine (block_Length s.o0k s.o0n ht _).mono ?_
  rintro e w6 ⟨rfl, hb⟩
  replace h := h.on hb
  clear hb c24 c25 cH
  have c28 : w6.cell? ⟨w.heap.size, 28, none⟩ = some (.int .i64 s.o2k) := h.sty.cell 28
  have c29 : w6.cell? ⟨w.heap.size, 29, none⟩ = some (.int .i64 s.o2n) := h.sty.cell 29
  have cH : w6.cell? ⟨w.heap.size + 1, 3, none⟩ = some (.int .i64 ht) := h.rct.cell 3
  go_wp2_with (first | (first | refine stop_load 28 _ rfl rfl ?_ | refine stop_store 28 _ _ rfl rfl ?_) | (first | refine stop_load 35 _ rfl rfl ?_ | refine stop_store 35 _ _ rfl rfl ?_))
  refine (block_Length s.o2k s.o2n ht _).mono ?_
  rintro e w7 ⟨rfl, hb⟩
  replace h := h.on hb
  clear hb c28 c29 cH
  have c6 : w7.cell? ⟨w.heap.size, 6, none⟩ = some (.int .i64 s.hk) := h.sty.cell 6
  have c7 : w7.cell? ⟨w.heap.size, 7, none⟩ = some (.int .i64 s.hn) := h.sty.cell 7
  have cH : w7.cell? ⟨w.heap.size + 1, 3, none⟩ = some (.int .i64 ht) := h.rct.cell 3
  go_wp2_with (first | (first | refine stop_load 28 _ rfl rfl ?_ | refine stop_store 28 _ _ rfl rfl ?_) | (first | refine stop_load 35 _ rfl rfl ?_ | refine stop_store 35 _ _ rfl rfl ?_))
  refine (block_Length s.hk s.hn ht _).mono ?_
  rintro e w8 ⟨rfl, hb⟩
  replace h := h.on hb
  clear hb c6 c7 cH
  obtain ⟨ga, ha⟩ : ∃ b, given s.o0k = b := ⟨_, rfl⟩
  obtain ⟨gb, hb⟩ : ∃ b, given s.o2k = b := ⟨_, rfl⟩
  obtain ⟨gc, hc⟩ : ∃ b, given s.hk = b := ⟨_, rfl⟩
  rw [ha, hb, hc]
  replace ha := hid ha
  replace hb := hid hb
  replace hc := hid hc
  go_upto_block 0 with (first | (first | refine stop_load 28 _ rfl rfl ?_ | refine stop_store 28 _ _ rfl rfl ?_) | (first | refine stop_load 35 _ rfl rfl ?_ | refine stop_store 35 _ _ rfl rfl ?_))
  go_cut [3] (fun s3 wx => s3 = .int .i64 (s.dh ht content f) ∧ Dc w wx s x y wd ht f)
  case first =>
    cases gc with
    | true =>
      go_wp2_with (first | (first | refine stop_load 28 _ rfl rfl ?_ | refine stop_store 28 _ _ rfl rfl ?_) | (first | refine stop_load 35 _ rfl rfl ?_ | refine stop_store 35 _ _ rfl rfl ?_))
      go_meet
      exact ⟨by simp [Sty.dh, hc.out], h⟩
    | false =>
      cases ga with
      | true =>
        cases gb with
        | true =>
          go_wp2_with (first | (first | refine stop_load 28 _ rfl rfl ?_ | refine stop_store 28 _ _ rfl rfl ?_) | (first | refine stop_load 35 _ rfl rfl ?_ | refine stop_store 35 _ _ rfl rfl ?_))
          have hS : ∀ W, Dc w W s x y wd ht f → (fun W => Dc w W s x y wd ht f ∧ W.cell? ⟨w.heap.size + 1, 3, none⟩ = some (.int .i64 ht)) W := fun W h => ⟨h, h.rct.cell 3⟩
          refine wp_region_noPanic ?_
          refine Ord.region_M (S := fun W => Dc w W s x y wd ht f ∧ W.cell? ⟨w.heap.size + 1, 3, none⟩ = some (.int .i64 ht)) 10 (.one 0 true (.one 1 true (.one 2 true (.one 4 true (.one 6 true (.one 3 false (.one 5 false (.one 7 false (.one 8 false (.one 9 true (.one 10 false (.nil)))))))))))) (by kernel_rfl) (by kernel_rfl) (by kernel_rfl) (by kernel_rfl) (by decide) (fun _ _ _ _ _ h => h) (hS _ h.drew) (fun hS0 => ?_)
          simp only [Ord.layT, List.getElem?_cons_zero, List.getElem?_cons_succ]
          (refine Ord.takeM (v := ?_) (Or.inl ⟨rfl, ?_⟩) ?_; rotate_left; (intro w hSw; (try dsimp only at hSw); go_simp; try (with_reducible rfl)); (try simp only [Act.put, List.setIfInBounds_toArray, List.set_cons_zero, List.set_cons_succ]))
          (refine Ord.takeM (v := ?_) (Or.inl ⟨rfl, ?_⟩) ?_; rotate_left; (intro w hSw; (try dsimp only at hSw); go_simp; try (with_reducible rfl)); (try simp only [Act.put, List.setIfInBounds_toArray, List.set_cons_zero, List.set_cons_succ]))
          (refine Ord.takeM (v := ?_) (Or.inl ⟨rfl, ?_⟩) ?_; rotate_left; (intro w hSw; (try dsimp only at hSw); go_simp; try (with_reducible rfl)); (try simp only [Act.put, List.setIfInBounds_toArray, List.set_cons_zero, List.set_cons_succ]))
          (refine Ord.takeM (v := ?_) (Or.inl ⟨rfl, ?_⟩) ?_; rotate_left; (intro w hSw; (try dsimp only at hSw); go_simp; try (with_reducible rfl)); (try simp only [Act.put, List.setIfInBounds_toArray, List.set_cons_zero, List.set_cons_succ]))
          (refine Ord.takeM (yieldsIf_load_mid rfl _ _ rfl (w.heap.size + 1 + 1) 0 rfl _ _ (fun w' h => h.1.frm.range) Try.underlying35 rfl info_frame') ?_; (try simp only [Act.put, List.setIfInBounds_toArray, List.set_cons_zero, List.set_cons_succ]))
          refine Ord.aloneM rfl rfl (fun K hK => ?_)
          go_simp
          refine (fixed_Sub _ _ _).mono ?_
          rintro e w' ⟨rfl, rfl⟩
          go_wp2_with fail
          refine hK.out _ _ hS0 (fun _ => ?_)
          clear hK K
          (try simp only [Act.put, List.setIfInBounds_toArray, List.set_cons_zero, List.set_cons_succ])
          refine Ord.aloneM rfl rfl (fun K hK => ?_)
          go_simp
          refine (fixed_Sub _ _ _).mono ?_
          rintro e w' ⟨rfl, rfl⟩
          go_wp2_with fail
          refine hK.out _ _ hS0 (fun _ => ?_)
          clear hK K
          (try simp only [Act.put, List.setIfInBounds_toArray, List.set_cons_zero, List.set_cons_succ])
          refine Ord.aloneM rfl rfl (fun K hK => ?_)
          go_simp
          refine (place_sum f true _).mono ?_
          rintro e w' ⟨rfl, hbq⟩
          have hS1 := hS w' (hS0.1.on hbq)
          go_wp2_with fail
          refine hK.out _ _ hS1 (fun _ => ?_)
          clear hK K hbq hS0
          (try simp only [Act.put, List.setIfInBounds_toArray, List.set_cons_zero, List.set_cons_succ])
          refine Ord.aloneM rfl rfl (fun K hK => ?_)
          go_simp
          refine (fixed_Sub _ _ _).mono ?_
          rintro e w' ⟨rfl, rfl⟩
          go_wp2_with fail
          refine hK.out _ _ hS1 (fun _ => ?_)
          clear hK K
          (try simp only [Act.put, List.setIfInBounds_toArray, List.set_cons_zero, List.set_cons_succ])
          (refine Ord.takeM (v := ?_) (Or.inl ⟨rfl, ?_⟩) ?_; rotate_left; (intro w hSw; (try dsimp only at hSw); go_simp; try (with_reducible rfl)); (try simp only [Act.put, List.setIfInBounds_toArray, List.set_cons_zero, List.set_cons_succ]))
          obtain ⟨h1, -⟩ := hS1
          refine Ord.lastM rfl rfl (fun K hK => ?_)
          go_simp
          refine hK.out _ _ ?_
          clear hK K
          refine Ord.doneM (NoPanic.normal ?_)
          clear h hS
          go_wp2_with (first | (first | refine stop_load 28 _ rfl rfl ?_ | refine stop_store 28 _ _ rfl rfl ?_) | (first | refine stop_load 35 _ rfl rfl ?_ | refine stop_store 35 _ _ rfl rfl ?_))
          go_meet
          exact ⟨by simp [Sty.dh, hc.out, ha.out, hb.out, Sty.top, Sty.bottom], h1⟩
        | false =>
          go_wp2_with (first | (first | refine stop_load 28 _ rfl rfl ?_ | refine stop_store 28 _ _ rfl rfl ?_) | (first | refine stop_load 35 _ rfl rfl ?_ | refine stop_store 35 _ _ rfl rfl ?_))
          go_meet
          exact ⟨by simp [Sty.dh, hc.out, ha.out, hb.out], h⟩
      | false =>
        cases gb with
        | true =>
          go_wp2_with (first | (first | refine stop_load 28 _ rfl rfl ?_ | refine stop_store 28 _ _ rfl rfl ?_) | (first | refine stop_load 35 _ rfl rfl ?_ | refine stop_store 35 _ _ rfl rfl ?_))
          go_meet
          exact ⟨by simp [Sty.dh, hc.out, ha.out, hb.out], h⟩
        | false =>
          go_wp2_with (first | (first | refine stop_load 28 _ rfl rfl ?_ | refine stop_store 28 _ _ rfl rfl ?_) | (first | refine stop_load 35 _ rfl rfl ?_ | refine stop_store 35 _ _ rfl rfl ?_))
          go_meet
          exact ⟨by simp [Sty.dh, hc.out, ha.out, hb.out], h⟩
  case rest =>
    clear h
    obtain ⟨rfl, h⟩ := hcut
    obtain ⟨c, hC⟩ : ∃ c, s.dh ht content f = c := ⟨_, rfl⟩
    rw [hC]
    replace hC := hid hC
    go_wp2_with (first | (first | refine stop_load 28 _ rfl rfl ?_ | refine stop_store 28 _ _ rfl rfl ?_) | (first | refine stop_load 35 _ rfl rfl ?_ | refine stop_store 35 _ _ rfl rfl ?_))
    refine ⟨?_⟩
    refine wl_load rfl 35 _ rfl _ rfl _ _ _ h.frm rfl rfl (info_frame _) ?_
    (try simp only [Act.put, List.setIfInBounds_toArray, List.set_cons_zero, List.set_cons_succ])
    go_wp2_with (first | (first | refine stop_load 28 _ rfl rfl ?_ | refine stop_store 28 _ _ rfl rfl ?_) | (first | refine stop_load 35 _ rfl rfl ?_ | refine stop_store 35 _ _ rfl rfl ?_))
    refine (block_Inner f _).mono ?_
    rintro e w7 ⟨rfl, hbq⟩
    replace h := h.on hbq
    clear hbq
    have d1 : w7.cell? ⟨w.heap.size + 1, 1, none⟩ = some (.int .i64 y) := h.rct.cell 1
    have d3 : w7.cell? ⟨w.heap.size + 1, 3, none⟩ = some (.int .i64 ht) := h.rct.cell 3
    have e0 : w7.cell? ⟨w.heap.size + 1 + 1, 0, none⟩ = some (.int .i64 f.m.t) := h.frm.cell 0
    have e2 : w7.cell? ⟨w.heap.size + 1 + 1, 2, none⟩ = some (.int .i64 f.m.b) := h.frm.cell 2
    have hg := h.below
    clear h
    cases ga with
    | true =>
      go_wp2_with (first | (first | refine stop_load 28 _ rfl rfl ?_ | refine stop_store 28 _ _ rfl rfl ?_) | (first | refine stop_load 35 _ rfl rfl ?_ | refine stop_store 35 _ _ rfl rfl ?_))
      refine (sum3 y (len s.o0k s.o0n ht) f.m.t _ _ (Blk.new w7 2 #[.int .i64 y, .int .i64 (len s.o0k s.o0n ht), .int .i64 f.m.t])).mono ?_
      rintro e w8 ⟨rfl, rfl⟩
      replace hg := hg.alloc hg.size (.cells #[.int .i64 y, .int .i64 (len s.o0k s.o0n ht), .int .i64 f.m.t] 2)
      go_wp2_with (first | (first | refine stop_load 28 _ rfl rfl ?_ | refine stop_store 28 _ _ rfl rfl ?_) | (first | refine stop_load 35 _ rfl rfl ?_ | refine stop_store 35 _ _ rfl rfl ?_))
      go_returns
      exact ⟨by rw [hC.out]; simp [Sty.dy, ha.out, Sty.top], hg⟩
    | false =>
      cases gb with
      | true =>
        go_wp2_with (first | (go_at_call 40; refine (fixed_Add _ _ _).mono ?_; rintro e w' ⟨rfl, rfl⟩) | (go_at_call 35; refine (fixed_Sub _ _ _).mono ?_; rintro e w' ⟨rfl, rfl⟩))
        go_returns
        exact ⟨by rw [hC.out]; simp [Sty.dy, ha.out, hb.out, Sty.bottom], hg⟩
      | false =>
        go_wp2_with (first | (go_at_call 40; refine (fixed_Add _ _ _).mono ?_; rintro e w' ⟨rfl, rfl⟩) | (go_at_call 35; refine (fixed_Sub _ _ _).mono ?_; rintro e w' ⟨rfl, rfl⟩))
        go_returns
        exact ⟨by rw [hC.out]; simp [Sty.dy, ha.out, hb.out], hg⟩
end Go.Proofs.Ytkkabnkhdhlhkaa
