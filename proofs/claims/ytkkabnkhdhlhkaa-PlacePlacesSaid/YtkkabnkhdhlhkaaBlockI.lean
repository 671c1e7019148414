/-
  The walk of block.Solve.
-/
import Derived.Test.YtkkabnkhdhlhkaaBlockH
namespace Go.Proofs.Ytkkabnkhdhlhkaa
open Go.RowKit Num Mem Opn
set_option linter.unusedVariables false
set_option linter.unusedSimpArgs false
namespace Num
def Sty.wide (s : Sty) (room : Int) : Int := max (len s.wk s.wn room) 0
def Sty.free (s : Sty) (room : Int) : Int := max (sub ((s.framed room).left room) (s.wide room)) 0
def Sty.solve (s : Sty) (room : Int) : Fr :=
  if given s.wk then
    if s.m3k = 0 then
      if s.m1k = 0 then { s.framed room with w := s.wide room, m := { (s.framed room).m with l := prt (s.free room) 1 2, r := sub (s.free room) (prt (s.free room) 1 2) } }
      else { s.framed room with w := s.wide room, m := { (s.framed room).m with l := s.free room } }
    else if s.m1k = 0 then { s.framed room with w := s.wide room, m := { (s.framed room).m with r := s.free room } }
    else { s.framed room with w := s.wide room }
  else { s.framed room with w := max ((s.framed room).left room) 0 }
end Num
/-- a style's box, a result's box, a frame's box. -/
structure Fs (w W : World) (s : Sty) (R F : Fr) (g : Nat) : Prop where
  below : Below w.heap.size w W
  far : w.heap.size + 1 < g
  sty : Blk W w.heap.size 28 s.arr
  res : Blk W (w.heap.size + 1) 35 R.arr
  frm : Blk W g 35 F.arr
theorem Fs.on {w W W' : World} {s : Sty} {R F : Fr} {g : Nat} (h : Fs w W s R F g) (hb : Below W.heap.size W W') : Fs w W' s R F g :=
  ⟨h.below.trans (hb.mono h.below.size), h.far, h.sty.below hb h.sty.lt, h.res.below hb h.res.lt, h.frm.below hb h.frm.lt⟩
theorem Fs.same {w W : World} {s : Sty} {R F : Fr} {g : Nat} (h : Hid (Fs w W s R F g)) : Fs w W s R F g := h
theorem Fs.drew {w W : World} {s : Sty} {R F : Fr} {g : Nat} (h : Fs w W s R F g) : Fs w W.drew s R F g := h.on (by go_grown)
theorem Fs.put {w W : World} {s : Sty} {R F F' : Fr} {g i : Nat} {v : Value} (h : Fs w W s R F g) (hF : Blk (W.setCell ⟨g, i, none⟩ v) g 35 F'.arr) : Fs w (W.setCell ⟨g, i, none⟩ v) s R F' g :=
  have := h.far
  ⟨h.below.trans ((Chg.setCell W ⟨g, i, none⟩ v).below (by simp; omega)), h.far, h.sty.far (by simp; omega) _, h.res.far (by simp; omega) _, hF⟩
/-- what Solve begins with. -/
theorem Fs.begin {w w0 w1 w2 : World} {s : Sty} {R F : Fr} (hg : Below w.heap.size w w0) (hB : Blk w0 w.heap.size 28 s.arr) (hR : Blk w0 (w.heap.size + 1) 35 R.arr) (hb : Below w0.heap.size w0 w1)
    {o : Obj} (hF : Blk w2 w1.heap.size 35 F.arr) (hc : Chg w1.heap.size (w1.alloc o) w2) : Fs w w2 s R F w1.heap.size := by
  have hlt := hR.lt
  have hlt1 := hb.size
  exact ⟨((hg.trans (hb.mono hg.size)).alloc (by omega) _).trans (hc.below (by omega)), by omega, ((hB.below hb hB.lt).alloc _).chg hc (by omega), ((hR.below hb hR.lt).alloc _).chg hc (by omega), hF⟩
set_option maxRecDepth 100000 in
set_option maxHeartbeats 2000000 in
theorem block_Solve (s : Sty) (room : Int) (w : World) : Calls Try.prog 15 #[.agg s.arr, .int .i64 room] w fun e w' => e = .returned (.agg (s.solve room).arr) ∧ Below w.heap.size w w' := by
  have hB := Blk.new w 28 s.arr
  have hR : Blk ((w.alloc (.cells s.arr 28)).alloc (.cells Fr.zero.arr 35)) (w.heap.size + 1) 35 Fr.zero.arr := Blk.newAt _ _ _ (by simp)
  have hg : Below w.heap.size w ((w.alloc (.cells s.arr 28)).alloc (.cells Fr.zero.arr 35)) := by go_grown
  go_enter Try.func15, Try.ntmps15
  go_wp2_with (first | (first | refine stop_load 28 _ rfl rfl ?_ | refine stop_store 28 _ _ rfl rfl ?_) | (first | refine stop_load 35 _ rfl rfl ?_ | refine stop_store 35 _ _ rfl rfl ?_))
  refine ⟨?_⟩
  refine wl_forget (fun W => Below w.heap.size w W ∧ Blk W w.heap.size 28 s.arr ∧ Blk W (w.heap.size + 1) 35 Fr.zero.arr) ⟨hg, hB.alloc _, hR⟩ ?_
  clear hg hB hR
  rintro w0 ⟨hg, hB, hR⟩
  refine wl_load rfl 28 _ rfl _ rfl _ _ _ hB rfl rfl (info_style' s) ?_
  (try simp only [Act.put, List.setIfInBounds_toArray, List.set_cons_zero, List.set_cons_succ])
  go_wp2_with (first | (first | refine stop_load 28 _ rfl rfl ?_ | refine stop_store 28 _ _ rfl rfl ?_) | (first | refine stop_load 35 _ rfl rfl ?_ | refine stop_store 35 _ _ rfl rfl ?_))
  refine (block_framed s room _).mono ?_
  rintro e w1 ⟨rfl, hb⟩
  go_wp2_with (first | (first | refine stop_load 28 _ rfl rfl ?_ | refine stop_store 28 _ _ rfl rfl ?_) | (first | refine stop_load 35 _ rfl rfl ?_ | refine stop_store 35 _ _ rfl rfl ?_))
  refine ⟨?_⟩
  refine wl_store rfl 35 _ _ rfl w1.heap.size (s.framed room).arr rfl rfl 35 Fr.zero.arr (Blk.new _ _ _) rfl (info_frame _) (frame_one _) ?_
  intro w2 hF hc
  have h := Fs.begin hg hB hR hb hF hc
  clear hb hg hB hR hF hc
  generalize w1.heap.size = g at *
  (try simp only [Act.put, List.setIfInBounds_toArray, List.set_cons_zero, List.set_cons_succ])
  have c4 : w2.cell? ⟨w.heap.size, 4, none⟩ = some (.int .i64 s.wk) := h.sty.cell 4
  have c5 : w2.cell? ⟨w.heap.size, 5, none⟩ = some (.int .i64 s.wn) := h.sty.cell 5
  go_wp2_with (first | (first | refine stop_load 28 _ rfl rfl ?_ | refine stop_store 28 _ _ rfl rfl ?_) | (first | refine stop_load 35 _ rfl rfl ?_ | refine stop_store 35 _ _ rfl rfl ?_))
  refine (block_Length s.wk s.wn room _).mono ?_
  rintro e w3 ⟨rfl, hb⟩
  replace h := h.on hb
  clear hb c4 c5
  cases hgv : given s.wk with
  | false =>
    go_wp2_with (first | (first | refine stop_load 28 _ rfl rfl ?_ | refine stop_store 28 _ _ rfl rfl ?_) | (first | refine stop_load 35 _ rfl rfl ?_ | refine stop_store 35 _ _ rfl rfl ?_))
    refine ⟨?_⟩
    refine wl_load rfl 35 _ rfl _ rfl _ _ _ h.frm rfl rfl (info_frame _) ?_
    (try simp only [Act.put, List.setIfInBounds_toArray, List.set_cons_zero, List.set_cons_succ])
    go_wp2_with (first | (first | refine stop_load 28 _ rfl rfl ?_ | refine stop_store 28 _ _ rfl rfl ?_) | (first | refine stop_load 35 _ rfl rfl ?_ | refine stop_store 35 _ _ rfl rfl ?_))
    refine (block_left _ room _).mono ?_
    rintro e w4 ⟨rfl, hb⟩
    replace h := h.on hb
    have f12 : w4.frozen? ⟨g, 12, none⟩ = false := h.frm.free 12
    have c12 : w4.cell? ⟨g, 12, none⟩ = some (.int .i64 (s.framed room).w) := h.frm.cell 12
    clear hb
    go_wp2_with (first | (first | refine stop_load 28 _ rfl rfl ?_ | refine stop_store 28 _ _ rfl rfl ?_) | (first | refine stop_load 35 _ rfl rfl ?_ | refine stop_store 35 _ _ rfl rfl ?_))
    refine ⟨?_⟩
    replace h := h.put (frame_put12 h.frm (max ((s.framed room).left room) 0))
    refine wl_load rfl 35 _ rfl _ rfl _ _ _ h.frm rfl rfl (info_frame _) ?_
    (try simp only [Act.put, List.setIfInBounds_toArray, List.set_cons_zero, List.set_cons_succ])
    go_wp2_with (first | (first | refine stop_load 28 _ rfl rfl ?_ | refine stop_store 28 _ _ rfl rfl ?_) | (first | refine stop_load 35 _ rfl rfl ?_ | refine stop_store 35 _ _ rfl rfl ?_))
    refine ⟨?_⟩
    refine wl_store rfl 35 _ _ rfl (w.heap.size + 1) _ rfl rfl 35 Fr.zero.arr h.res rfl (info_frame _) (frame_one _) ?_
    intro w5 hR5 hc
    have hg5 : Below w.heap.size w w5 := h.below.trans (hc.below (by omega))
    (try simp only [Act.put, List.setIfInBounds_toArray, List.set_cons_zero, List.set_cons_succ])
    clear c12 f12 h hc
    go_wp2_with (first | (first | refine stop_load 28 _ rfl rfl ?_ | refine stop_store 28 _ _ rfl rfl ?_) | (first | refine stop_load 35 _ rfl rfl ?_ | refine stop_store 35 _ _ rfl rfl ?_))
    refine bodyPost_ret (results_row 4 35 _ rfl rfl hR5 _ rfl rfl (info_frame _)) rfl ?_
    exact ⟨by simp [Sty.solve, hgv], hg5⟩
  | true =>
    have f12 : w3.frozen? ⟨g, 12, none⟩ = false := h.frm.free 12
    have c12 : w3.cell? ⟨g, 12, none⟩ = some (.int .i64 (s.framed room).w) := h.frm.cell 12
    go_wp2_with (first | (first | refine stop_load 28 _ rfl rfl ?_ | refine stop_store 28 _ _ rfl rfl ?_) | (first | refine stop_load 35 _ rfl rfl ?_ | refine stop_store 35 _ _ rfl rfl ?_))
    replace h := h.put (frame_put12 h.frm (max (len s.wk s.wn room) 0))
    clear f12 c12
    refine wp_forget (fun W => Fs w W s Fr.zero { s.framed room with w := s.wide room } g) h ?_
    clear h
    intro w4 h
    refine wp_region_noPanic ?_
    refine Ord.region_ord (S := fun W => Fs w W s Fr.zero { s.framed room with w := s.wide room } g ∧ W.cell? ⟨g, 12, none⟩ = some (.int .i64 (s.wide room))) [(0, true), (1, true), (3, true), (4, true), (2, false), (5, false), (6, true), (7, true)] (by kernel_rfl) (by kernel_rfl) (by kernel_rfl) (by decide) (fun _ _ _ _ _ h => h) ⟨h.drew, h.drew.frm.cell 12⟩ (fun hS0 => ?_)
    simp only [Ord.lay, List.getElem?_cons_zero, List.getElem?_cons_succ]
    (refine Ord.take (yieldsIf_load_mid rfl _ _ rfl g 0 rfl _ _ (fun w' h => h.1.frm.range) Try.underlying35 rfl (info_frame' )) ?_; (try simp only [Act.put, List.setIfInBounds_toArray, List.set_cons_zero, List.set_cons_succ]))
    (refine Ord.take (v := ?_) (Or.inl ⟨rfl, ?_⟩) ?_; rotate_left; (intro w hSw; (try dsimp only at hSw); go_simp; try (with_reducible rfl)); (try simp only [Act.put, List.setIfInBounds_toArray, List.set_cons_zero, List.set_cons_succ]))
    (refine Ord.take (v := ?_) (Or.inl ⟨rfl, ?_⟩) ?_; rotate_left; (intro w hSw; (try dsimp only at hSw); go_simp; try (with_reducible rfl)); (try simp only [Act.put, List.setIfInBounds_toArray, List.set_cons_zero, List.set_cons_succ]))
    (refine Ord.take (v := ?_) (Or.inl ⟨rfl, ?_⟩) ?_; rotate_left; (intro w hSw; (try dsimp only at hSw); go_simp; try (with_reducible rfl)); (try simp only [Act.put, List.setIfInBounds_toArray, List.set_cons_zero, List.set_cons_succ]))
    refine Ord.alone rfl (fun K hK => ?_)
    go_simp
    refine (block_left _ room _).mono ?_
    rintro e w5 ⟨rfl, hb⟩
    have hS1 : Fs w w5 s Fr.zero { s.framed room with w := s.wide room } g ∧ w5.cell? ⟨g, 12, none⟩ = some (.int .i64 (s.wide room)) := ⟨hS0.1.on hb, (hS0.1.on hb).frm.cell 12⟩
    go_wp2_with fail
    refine hK.out _ _ hS1 (fun _ => ?_)
    clear hK K hb hS0
    (try simp only [Act.put, List.setIfInBounds_toArray, List.set_cons_zero, List.set_cons_succ])
    refine Ord.alone rfl (fun K hK => ?_)
    go_simp
    refine (fixed_Sub _ _ _).mono ?_
    rintro e w6 ⟨rfl, rfl⟩
    go_wp2_with fail
    refine hK.out _ _ hS1 (fun _ => ?_)
    clear hK K
    (try simp only [Act.put, List.setIfInBounds_toArray, List.set_cons_zero, List.set_cons_succ])
    (refine Ord.take (v := ?_) (Or.inl ⟨rfl, ?_⟩) ?_; rotate_left; (intro w hSw; (try dsimp only at hSw); go_simp; try (with_reducible rfl)); (try simp only [Act.put, List.setIfInBounds_toArray, List.set_cons_zero, List.set_cons_succ]))
    (refine Ord.take (v := ?_) (Or.inl ⟨rfl, ?_⟩) ?_; rotate_left; (intro w hSw; (try dsimp only at hSw); go_simp; try (with_reducible rfl)); (try simp only [Act.put, List.setIfInBounds_toArray, List.set_cons_zero, List.set_cons_succ]))
    refine Ord.done (NoPanic.normal ?_)
    obtain ⟨h, -⟩ := hS1
    have e : max (sub (({ s.framed room with w := s.wide room } : Fr).left room) (s.wide room)) 0 = s.free room := rfl
    simp only [e]
    have c14 : w5.cell? ⟨w.heap.size, 14, none⟩ = some (.int .i64 s.m3k) := h.sty.cell 14
    have c10 : w5.cell? ⟨w.heap.size, 10, none⟩ = some (.int .i64 s.m1k) := h.sty.cell 10
    clear e
    go_wp2_with fail
    go_quiet (first | (first | refine stop_load 28 _ rfl rfl ?_ | refine stop_store 28 _ _ rfl rfl ?_) | (first | refine stop_load 35 _ rfl rfl ?_ | refine stop_store 35 _ _ rfl rfl ?_))
    have h6 := h.on (belowN (Below.refl _ _) nq)
    generalize w5.drewN nq = w6 at h6 ⊢
    clear c14 c10
    replace h := h6
    clear h6
    have f1 : w6.frozen? ⟨g, 1, none⟩ = false := h.frm.free 1
    have f3 : w6.frozen? ⟨g, 3, none⟩ = false := h.frm.free 3
    have c1 : w6.cell? ⟨g, 1, none⟩ = some (.int .i64 (s.framed room).m.r) := h.frm.cell 1
    have c3 : w6.cell? ⟨g, 3, none⟩ = some (.int .i64 (s.framed room).m.l) := h.frm.cell 3
    obtain ⟨h⟩ : Nonempty (Hid (Fs w w6 s Fr.zero { s.framed room with w := s.wide room } g)) := ⟨h⟩
    cases hd3 : (s.m3k == 0) with
    | true =>
      cases hd1 : (s.m1k == 0) with
      | true =>
        go_wp2_with (first | (first | refine stop_load 28 _ rfl rfl ?_ | refine stop_store 28 _ _ rfl rfl ?_) | (first | refine stop_load 35 _ rfl rfl ?_ | refine stop_store 35 _ _ rfl rfl ?_))
        refine (fixed_Part _ _ _ _).mono ?_
        rintro e w7 ⟨rfl, rfl⟩
        go_wp2_with (first | (first | refine stop_load 28 _ rfl rfl ?_ | refine stop_store 28 _ _ rfl rfl ?_) | (first | refine stop_load 35 _ rfl rfl ?_ | refine stop_store 35 _ _ rfl rfl ?_))
        refine (fixed_Sub _ _ _).mono ?_
        rintro e w7 ⟨rfl, rfl⟩
        go_wp2_with (first | (first | refine stop_load 28 _ rfl rfl ?_ | refine stop_store 28 _ _ rfl rfl ?_) | (first | refine stop_load 35 _ rfl rfl ?_ | refine stop_store 35 _ _ rfl rfl ?_))
        replace h : Fs w _ s Fr.zero _ g := Fs.put (Fs.put h (frame_put3 (Fs.frm h) (prt (s.free room) 1 2))) (frame_put1 (frame_put3 (Fs.frm h) (prt (s.free room) 1 2)) (sub (s.free room) (prt (s.free room) 1 2)))
        refine ⟨?_⟩
        refine wl_load rfl 35 _ rfl _ rfl _ _ _ h.frm rfl rfl (info_frame _) ?_
        (try simp only [Act.put, List.setIfInBounds_toArray, List.set_cons_zero, List.set_cons_succ])
        go_wp2_with (first | (first | refine stop_load 28 _ rfl rfl ?_ | refine stop_store 28 _ _ rfl rfl ?_) | (first | refine stop_load 35 _ rfl rfl ?_ | refine stop_store 35 _ _ rfl rfl ?_))
        refine ⟨?_⟩
        refine wl_store rfl 35 _ _ rfl (w.heap.size + 1) _ rfl rfl 35 Fr.zero.arr h.res rfl (info_frame _) (frame_one _) ?_
        intro w7 hR hc
        have hg := h.below.trans (hc.below (by omega))
        clear h hc
        (try simp only [Act.put, List.setIfInBounds_toArray, List.set_cons_zero, List.set_cons_succ])
        go_wp2_with (first | (first | refine stop_load 28 _ rfl rfl ?_ | refine stop_store 28 _ _ rfl rfl ?_) | (first | refine stop_load 35 _ rfl rfl ?_ | refine stop_store 35 _ _ rfl rfl ?_))
        refine bodyPost_ret (results_row 4 35 _ rfl rfl hR _ rfl rfl (info_frame _)) rfl ?_
        exact ⟨by simp at hd3 hd1; simp [Sty.solve, hgv, hd3, hd1], hg⟩
      | false =>
        go_wp2_with (first | (first | refine stop_load 28 _ rfl rfl ?_ | refine stop_store 28 _ _ rfl rfl ?_) | (first | refine stop_load 35 _ rfl rfl ?_ | refine stop_store 35 _ _ rfl rfl ?_))
        replace h : Fs w _ s Fr.zero _ g := Fs.put h (frame_put3 (Fs.frm h) (s.free room))
        refine ⟨?_⟩
        refine wl_load rfl 35 _ rfl _ rfl _ _ _ h.frm rfl rfl (info_frame _) ?_
        (try simp only [Act.put, List.setIfInBounds_toArray, List.set_cons_zero, List.set_cons_succ])
        go_wp2_with (first | (first | refine stop_load 28 _ rfl rfl ?_ | refine stop_store 28 _ _ rfl rfl ?_) | (first | refine stop_load 35 _ rfl rfl ?_ | refine stop_store 35 _ _ rfl rfl ?_))
        refine ⟨?_⟩
        refine wl_store rfl 35 _ _ rfl (w.heap.size + 1) _ rfl rfl 35 Fr.zero.arr h.res rfl (info_frame _) (frame_one _) ?_
        intro w7 hR hc
        have hg := h.below.trans (hc.below (by omega))
        clear h hc
        (try simp only [Act.put, List.setIfInBounds_toArray, List.set_cons_zero, List.set_cons_succ])
        go_wp2_with (first | (first | refine stop_load 28 _ rfl rfl ?_ | refine stop_store 28 _ _ rfl rfl ?_) | (first | refine stop_load 35 _ rfl rfl ?_ | refine stop_store 35 _ _ rfl rfl ?_))
        refine bodyPost_ret (results_row 4 35 _ rfl rfl hR _ rfl rfl (info_frame _)) rfl ?_
        exact ⟨by simp at hd3 hd1; simp [Sty.solve, hgv, hd3, hd1], hg⟩
    | false =>
      cases hd1 : (s.m1k == 0) with
      | true =>
        go_wp2_with (first | (first | refine stop_load 28 _ rfl rfl ?_ | refine stop_store 28 _ _ rfl rfl ?_) | (first | refine stop_load 35 _ rfl rfl ?_ | refine stop_store 35 _ _ rfl rfl ?_))
        replace h : Fs w _ s Fr.zero _ g := Fs.put h (frame_put1 (Fs.frm h) (s.free room))
        refine ⟨?_⟩
        refine wl_load rfl 35 _ rfl _ rfl _ _ _ h.frm rfl rfl (info_frame _) ?_
        (try simp only [Act.put, List.setIfInBounds_toArray, List.set_cons_zero, List.set_cons_succ])
        go_wp2_with (first | (first | refine stop_load 28 _ rfl rfl ?_ | refine stop_store 28 _ _ rfl rfl ?_) | (first | refine stop_load 35 _ rfl rfl ?_ | refine stop_store 35 _ _ rfl rfl ?_))
        refine ⟨?_⟩
        refine wl_store rfl 35 _ _ rfl (w.heap.size + 1) _ rfl rfl 35 Fr.zero.arr h.res rfl (info_frame _) (frame_one _) ?_
        intro w7 hR hc
        have hg := h.below.trans (hc.below (by omega))
        clear h hc
        (try simp only [Act.put, List.setIfInBounds_toArray, List.set_cons_zero, List.set_cons_succ])
        go_wp2_with (first | (first | refine stop_load 28 _ rfl rfl ?_ | refine stop_store 28 _ _ rfl rfl ?_) | (first | refine stop_load 35 _ rfl rfl ?_ | refine stop_store 35 _ _ rfl rfl ?_))
        refine bodyPost_ret (results_row 4 35 _ rfl rfl hR _ rfl rfl (info_frame _)) rfl ?_
        exact ⟨by simp at hd3 hd1; simp [Sty.solve, hgv, hd3, hd1], hg⟩
      | false =>
        go_wp2_with (first | (first | refine stop_load 28 _ rfl rfl ?_ | refine stop_store 28 _ _ rfl rfl ?_) | (first | refine stop_load 35 _ rfl rfl ?_ | refine stop_store 35 _ _ rfl rfl ?_))
        replace h : Fs w _ s Fr.zero _ g := h
        refine ⟨?_⟩
        refine wl_load rfl 35 _ rfl _ rfl _ _ _ h.frm rfl rfl (info_frame _) ?_
        (try simp only [Act.put, List.setIfInBounds_toArray, List.set_cons_zero, List.set_cons_succ])
        go_wp2_with (first | (first | refine stop_load 28 _ rfl rfl ?_ | refine stop_store 28 _ _ rfl rfl ?_) | (first | refine stop_load 35 _ rfl rfl ?_ | refine stop_store 35 _ _ rfl rfl ?_))
        refine ⟨?_⟩
        refine wl_store rfl 35 _ _ rfl (w.heap.size + 1) _ rfl rfl 35 Fr.zero.arr h.res rfl (info_frame _) (frame_one _) ?_
        intro w7 hR hc
        have hg := h.below.trans (hc.below (by omega))
        clear h hc
        (try simp only [Act.put, List.setIfInBounds_toArray, List.set_cons_zero, List.set_cons_succ])
        go_wp2_with (first | (first | refine stop_load 28 _ rfl rfl ?_ | refine stop_store 28 _ _ rfl rfl ?_) | (first | refine stop_load 35 _ rfl rfl ?_ | refine stop_store 35 _ _ rfl rfl ?_))
        refine bodyPost_ret (results_row 4 35 _ rfl rfl hR _ rfl rfl (info_frame _)) rfl ?_
        exact ⟨by simp at hd3 hd1; simp [Sty.solve, hgv, hd3, hd1], hg⟩
end Go.Proofs.Ytkkabnkhdhlhkaa
