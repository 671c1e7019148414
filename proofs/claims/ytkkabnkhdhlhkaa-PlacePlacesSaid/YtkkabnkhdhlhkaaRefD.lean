/-
  The walks of casementref16.Solve and Fit at a style of width auto, and Height.
-/
import Derived.Test.YtkkabnkhdhlhkaaRefC
import Derived.Deep.DeepCutAuto
import Derived.Deep.CutBlock
namespace Go.Proofs.Ytkkabnkhdhlhkaa
open Go.RowKit Num Mem Opn
set_option linter.unusedVariables false
set_option linter.unusedSimpArgs false
namespace Num
def Sty.rframed (s : Sty) (room : Int) : Fr := ⟨s.rmargin room, s.padding room, s.border, 0⟩
def Sty.raround (s : Sty) (room : Int) : Int := sums [(s.rframed room).m.l, (s.rframed room).m.r, (s.rframed room).racross] 3
def Sty.rsolve0 (s : Sty) (room : Int) : Fr := { s.rframed room with w := max (sub room (s.raround room)) 0 }
def clampw (x least most : Int) : Int := if (if most < x then most else x) < least then least else (if most < x then most else x)
def Sty.rfit0 (s : Sty) (room least most : Int) : Fr := { s.rframed room with w := max (clampw (s.rsolve0 room).w least most) 0 }
end Num
structure Rs (w W : World) (s : Sty) (R F : Fr) (g : Nat) : Prop where
  below : Below w.heap.size w W
  far : w.heap.size + 1 < g
  sty : Blk W w.heap.size 28 s.arr
  res : Blk W (w.heap.size + 1) 58 R.arr
  frm : Blk W g 58 F.arr
theorem Rs.on {w W W' : World} {s : Sty} {R F : Fr} {g : Nat} (h : Rs w W s R F g) (hb : Below W.heap.size W W') : Rs w W' s R F g :=
  ⟨h.below.trans (hb.mono h.below.size), h.far, h.sty.below hb h.sty.lt, h.res.below hb h.res.lt, h.frm.below hb h.frm.lt⟩
theorem Rs.put {w W : World} {s : Sty} {R F F' : Fr} {g i : Nat} {v : Value} (h : Rs w W s R F g) (hF : Blk (W.setCell ⟨g, i, none⟩ v) g 58 F'.arr) : Rs w (W.setCell ⟨g, i, none⟩ v) s R F' g :=
  have := h.far
  ⟨h.below.trans ((Chg.setCell W ⟨g, i, none⟩ v).below (by simp; omega)), h.far, h.sty.far (by simp; omega) _, h.res.far (by simp; omega) _, hF⟩
@[go_sem high] theorem run_field_rw (f : Fr) (w : World) : (Instr.field 58 (.agg f.arr) 3).run Try.prog w = .ok (.int .i64 f.w) w := by
  rfl
set_option maxRecDepth 100000 in
set_option maxHeartbeats 4000000 in
theorem ref_Solve0 (s : Sty) (room : Int) (hk : s.wk = 0) (w : World) : Calls Try.prog 73 #[.agg s.arr, .int .i64 room] w fun e w' => e = .returned (.agg (s.rsolve0 room).arr) ∧ Below w.heap.size w w' := by
  have hI : (fun W => Below w.heap.size w W ∧ Blk W w.heap.size 28 s.arr ∧ Blk W (w.heap.size + 1) 58 Fr.zero.arr) ((w.alloc (.cells s.arr 28)).alloc (.cells Fr.zero.arr 58)) := ⟨by go_grown, (Blk.new _ _ _).alloc _, Blk.newAt _ _ _ (by simp)⟩
  go_enter Try.func73, Try.ntmps73
  go_upto_region 1 with fail
  refine wp_forget (fun W => Below w.heap.size w W ∧ Blk W w.heap.size 28 s.arr ∧ Blk W (w.heap.size + 1) 58 Fr.zero.arr) hI ?_
  clear hI
  intro w0 hI
  go_cut [5] (fun s5 wx => ∃ g, s5 = .pointer (some ⟨g, 0, none⟩) ∧ Rs w wx s Fr.zero (s.rframed room) g)
  case first =>
    refine wp_region_noPanic ?_
    refine Ord.region_M (S := fun W => Below w.heap.size w W ∧ Blk W w.heap.size 28 s.arr ∧ Blk W (w.heap.size + 1) 58 Fr.zero.arr) 10 (.one 0 true (.one 1 true (.one 3 true (.one 4 true (.one 6 true (.two 2 (.two 5 (.two 7 (.one 8 true (.one 9 false (.one 10 false .nil))) 9 (.one 7 false (.one 8 true (.one 10 false .nil)))) 9 (.one 5 false (.one 7 false (.one 8 true (.one 10 false .nil))))) 9 (.one 2 false (.one 5 false (.one 7 false (.one 8 true (.one 10 false .nil))))))))))) (by kernel_rfl) (by kernel_rfl) (by kernel_rfl) (by kernel_rfl) (by decide) (fun _ _ _ _ _ h => h) ⟨hI.1.drew, hI.2.1.drew, hI.2.2.drew⟩ (fun hS0 => ?_)
    simp only [Ord.layT, List.getElem?_cons_zero, List.getElem?_cons_succ]
    (refine Ord.takeM (yieldsIf_load_mid rfl _ _ rfl w.heap.size 0 rfl _ _ (fun w' h => h.2.1.range) Try.underlying28 rfl (by simpa using info_style' s)) ?_; (try simp only [Act.put, List.setIfInBounds_toArray, List.set_cons_zero, List.set_cons_succ]))
    (refine Ord.takeM (v := ?_) (Or.inl ⟨rfl, ?_⟩) ?_; rotate_left; (intro w hSw; (try dsimp only at hSw); go_simp; try (with_reducible rfl)); (try simp only [Act.put, List.setIfInBounds_toArray, List.set_cons_zero, List.set_cons_succ]))
    (refine Ord.takeM (yieldsIf_load_mid rfl _ _ rfl w.heap.size 0 rfl _ _ (fun w' h => h.2.1.range) Try.underlying28 rfl (by simpa using info_style' s)) ?_; (try simp only [Act.put, List.setIfInBounds_toArray, List.set_cons_zero, List.set_cons_succ]))
    (refine Ord.takeM (v := ?_) (Or.inl ⟨rfl, ?_⟩) ?_; rotate_left; (intro w hSw; (try dsimp only at hSw); go_simp; try (with_reducible rfl)); (try simp only [Act.put, List.setIfInBounds_toArray, List.set_cons_zero, List.set_cons_succ]))
    (refine Ord.takeM (yieldsIf_load_mid rfl _ _ rfl w.heap.size 0 rfl _ _ (fun w' h => h.2.1.range) Try.underlying28 rfl (by simpa using info_style' s)) ?_; (try simp only [Act.put, List.setIfInBounds_toArray, List.set_cons_zero, List.set_cons_succ]))
    refine Ord.twoM rfl rfl rfl rfl (fun K hK => ?_) (fun K hK => ?_)
    · go_simp
      refine (ref_Margin s room _).mono ?_
      rintro e v1 ⟨rfl, hbq⟩
      have hS1 : (fun W => Below w.heap.size w W ∧ Blk W w.heap.size 28 s.arr ∧ Blk W (w.heap.size + 1) 58 Fr.zero.arr) v1 := ⟨hS0.1.trans (hbq.mono hS0.1.size), hS0.2.1.below hbq hS0.2.1.lt, hS0.2.2.below hbq hS0.2.2.lt⟩
      go_wp2_with fail
      refine hK.out _ _ hS1 (fun _ => ?_)
      clear hK K hbq hS0
      (try simp only [Act.put, List.setIfInBounds_toArray, List.set_cons_zero, List.set_cons_succ])
      refine Ord.twoM rfl rfl rfl rfl (fun K hK => ?_) (fun K hK => ?_)
      · go_simp
        refine (ref_Padding s room _).mono ?_
        rintro e v2 ⟨rfl, hbq⟩
        have hS2 : (fun W => Below w.heap.size w W ∧ Blk W w.heap.size 28 s.arr ∧ Blk W (w.heap.size + 1) 58 Fr.zero.arr) v2 := ⟨hS1.1.trans (hbq.mono hS1.1.size), hS1.2.1.below hbq hS1.2.1.lt, hS1.2.2.below hbq hS1.2.2.lt⟩
        go_wp2_with fail
        refine hK.out _ _ hS2 (fun _ => ?_)
        clear hK K hbq hS1
        (try simp only [Act.put, List.setIfInBounds_toArray, List.set_cons_zero, List.set_cons_succ])
        refine Ord.twoM rfl rfl rfl rfl (fun K hK => ?_) (fun K hK => ?_)
        · go_simp
          refine (ref_Border s _).mono ?_
          rintro e v3 ⟨rfl, hbq⟩
          have hS3 : (fun W => Below w.heap.size w W ∧ Blk W w.heap.size 28 s.arr ∧ Blk W (w.heap.size + 1) 58 Fr.zero.arr) v3 := ⟨hS2.1.trans (hbq.mono hS2.1.size), hS2.2.1.below hbq hS2.2.1.lt, hS2.2.2.below hbq hS2.2.2.lt⟩
          go_wp2_with fail
          refine hK.out _ _ hS3 (fun _ => ?_)
          clear hK K hbq hS2
          (try simp only [Act.put, List.setIfInBounds_toArray, List.set_cons_zero, List.set_cons_succ])
          simp only [Sd.arr]
          (refine Ord.takeM (v := ?_) (Or.inl ⟨rfl, ?_⟩) ?_; rotate_left; (intro w hSw; (try dsimp only at hSw); go_simp; try (with_reducible rfl)); (try simp only [Act.put, List.setIfInBounds_toArray, List.set_cons_zero, List.set_cons_succ]))
          refine Ord.aloneM rfl rfl (fun K hK => ?_)
          go_simp
          have hS4 : (fun W => Below w.heap.size w W ∧ Blk W w.heap.size 28 s.arr ∧ Blk W (w.heap.size + 1) 58 Fr.zero.arr) ((v3).alloc (.cells Fr.zero.arr 58)) := ⟨hS3.1.alloc hS3.1.size _, hS3.2.1.alloc _, hS3.2.2.alloc _⟩
          have hZ : Blk ((v3).alloc (.cells Fr.zero.arr 58)) v3.heap.size 58 Fr.zero.arr := Blk.new (v3) 58 Fr.zero.arr
          have hlt : w.heap.size + 1 < v3.heap.size := hS3.2.2.lt
          refine hK.out _ _ hS4 (fun _ => ?_)
          clear hK K hS3
          (try simp only [Act.put, List.setIfInBounds_toArray, List.set_cons_zero, List.set_cons_succ])
          generalize v3.heap.size = g at *
          refine Ord.lastM rfl rfl (fun K hK => ?_)
          refine wp_store_row 58 _ _ rfl g (s.rframed room).arr rfl rfl 58 Fr.zero.arr hZ rfl (info_rf _) (frame_one _) ?_
          intro w9 hFr hc
          have h9 : Rs w w9 s Fr.zero (s.rframed room) g := ⟨hS4.1.trans (hc.below (by omega)), hlt, hS4.2.1.chg hc (by omega), hS4.2.2.chg hc (by omega), hFr⟩
          (try simp only [Act.put, List.setIfInBounds_toArray, List.set_cons_zero, List.set_cons_succ])
          refine hK.out _ _ ?_
          clear hK K hS4 hc hlt hI
          refine Ord.doneM (NoPanic.normal ?_)
          go_wp2_with fail
          go_meet
          exact ⟨g, rfl, h9⟩
        · go_simp
          have hS3 : (fun W => Below w.heap.size w W ∧ Blk W w.heap.size 28 s.arr ∧ Blk W (w.heap.size + 1) 58 Fr.zero.arr) ((v2).alloc (.cells Fr.zero.arr 58)) := ⟨hS2.1.alloc hS2.1.size _, hS2.2.1.alloc _, hS2.2.2.alloc _⟩
          have hZ : Blk ((v2).alloc (.cells Fr.zero.arr 58)) v2.heap.size 58 Fr.zero.arr := Blk.new (v2) 58 Fr.zero.arr
          have hlt : w.heap.size + 1 < v2.heap.size := hS2.2.2.lt
          refine hK.out _ _ hS3 (fun _ => ?_)
          clear hK K hS2
          (try simp only [Act.put, List.setIfInBounds_toArray, List.set_cons_zero, List.set_cons_succ])
          generalize v2.heap.size = g at *
          refine Ord.aloneM rfl rfl (fun K hK => ?_)
          go_simp
          refine (ref_Border s _).mono ?_
          rintro e v4 ⟨rfl, hbq⟩
          have hS4 : (fun W => Below w.heap.size w W ∧ Blk W w.heap.size 28 s.arr ∧ Blk W (w.heap.size + 1) 58 Fr.zero.arr) v4 := ⟨hS3.1.trans (hbq.mono hS3.1.size), hS3.2.1.below hbq hS3.2.1.lt, hS3.2.2.below hbq hS3.2.2.lt⟩
          replace hZ := hZ.below hbq hZ.lt
          go_wp2_with fail
          refine hK.out _ _ hS4 (fun _ => ?_)
          clear hK K hbq hS3
          (try simp only [Act.put, List.setIfInBounds_toArray, List.set_cons_zero, List.set_cons_succ])
          simp only [Sd.arr]
          (refine Ord.takeM (v := ?_) (Or.inl ⟨rfl, ?_⟩) ?_; rotate_left; (intro w hSw; (try dsimp only at hSw); go_simp; try (with_reducible rfl)); (try simp only [Act.put, List.setIfInBounds_toArray, List.set_cons_zero, List.set_cons_succ]))
          refine Ord.lastM rfl rfl (fun K hK => ?_)
          refine wp_store_row 58 _ _ rfl g (s.rframed room).arr rfl rfl 58 Fr.zero.arr hZ rfl (info_rf _) (frame_one _) ?_
          intro w9 hFr hc
          have h9 : Rs w w9 s Fr.zero (s.rframed room) g := ⟨hS4.1.trans (hc.below (by omega)), hlt, hS4.2.1.chg hc (by omega), hS4.2.2.chg hc (by omega), hFr⟩
          (try simp only [Act.put, List.setIfInBounds_toArray, List.set_cons_zero, List.set_cons_succ])
          refine hK.out _ _ ?_
          clear hK K hS4 hc hlt hI
          refine Ord.doneM (NoPanic.normal ?_)
          go_wp2_with fail
          go_meet
          exact ⟨g, rfl, h9⟩
      · go_simp
        have hS2 : (fun W => Below w.heap.size w W ∧ Blk W w.heap.size 28 s.arr ∧ Blk W (w.heap.size + 1) 58 Fr.zero.arr) ((v1).alloc (.cells Fr.zero.arr 58)) := ⟨hS1.1.alloc hS1.1.size _, hS1.2.1.alloc _, hS1.2.2.alloc _⟩
        have hZ : Blk ((v1).alloc (.cells Fr.zero.arr 58)) v1.heap.size 58 Fr.zero.arr := Blk.new (v1) 58 Fr.zero.arr
        have hlt : w.heap.size + 1 < v1.heap.size := hS1.2.2.lt
        refine hK.out _ _ hS2 (fun _ => ?_)
        clear hK K hS1
        (try simp only [Act.put, List.setIfInBounds_toArray, List.set_cons_zero, List.set_cons_succ])
        generalize v1.heap.size = g at *
        refine Ord.aloneM rfl rfl (fun K hK => ?_)
        go_simp
        refine (ref_Padding s room _).mono ?_
        rintro e v3 ⟨rfl, hbq⟩
        have hS3 : (fun W => Below w.heap.size w W ∧ Blk W w.heap.size 28 s.arr ∧ Blk W (w.heap.size + 1) 58 Fr.zero.arr) v3 := ⟨hS2.1.trans (hbq.mono hS2.1.size), hS2.2.1.below hbq hS2.2.1.lt, hS2.2.2.below hbq hS2.2.2.lt⟩
        replace hZ := hZ.below hbq hZ.lt
        go_wp2_with fail
        refine hK.out _ _ hS3 (fun _ => ?_)
        clear hK K hbq hS2
        (try simp only [Act.put, List.setIfInBounds_toArray, List.set_cons_zero, List.set_cons_succ])
        refine Ord.aloneM rfl rfl (fun K hK => ?_)
        go_simp
        refine (ref_Border s _).mono ?_
        rintro e v4 ⟨rfl, hbq⟩
        have hS4 : (fun W => Below w.heap.size w W ∧ Blk W w.heap.size 28 s.arr ∧ Blk W (w.heap.size + 1) 58 Fr.zero.arr) v4 := ⟨hS3.1.trans (hbq.mono hS3.1.size), hS3.2.1.below hbq hS3.2.1.lt, hS3.2.2.below hbq hS3.2.2.lt⟩
        replace hZ := hZ.below hbq hZ.lt
        go_wp2_with fail
        refine hK.out _ _ hS4 (fun _ => ?_)
        clear hK K hbq hS3
        (try simp only [Act.put, List.setIfInBounds_toArray, List.set_cons_zero, List.set_cons_succ])
        simp only [Sd.arr]
        (refine Ord.takeM (v := ?_) (Or.inl ⟨rfl, ?_⟩) ?_; rotate_left; (intro w hSw; (try dsimp only at hSw); go_simp; try (with_reducible rfl)); (try simp only [Act.put, List.setIfInBounds_toArray, List.set_cons_zero, List.set_cons_succ]))
        refine Ord.lastM rfl rfl (fun K hK => ?_)
        refine wp_store_row 58 _ _ rfl g (s.rframed room).arr rfl rfl 58 Fr.zero.arr hZ rfl (info_rf _) (frame_one _) ?_
        intro w9 hFr hc
        have h9 : Rs w w9 s Fr.zero (s.rframed room) g := ⟨hS4.1.trans (hc.below (by omega)), hlt, hS4.2.1.chg hc (by omega), hS4.2.2.chg hc (by omega), hFr⟩
        (try simp only [Act.put, List.setIfInBounds_toArray, List.set_cons_zero, List.set_cons_succ])
        refine hK.out _ _ ?_
        clear hK K hS4 hc hlt hI
        refine Ord.doneM (NoPanic.normal ?_)
        go_wp2_with fail
        go_meet
        exact ⟨g, rfl, h9⟩
    · go_simp
      have hS1 : (fun W => Below w.heap.size w W ∧ Blk W w.heap.size 28 s.arr ∧ Blk W (w.heap.size + 1) 58 Fr.zero.arr) ((w0.drew).alloc (.cells Fr.zero.arr 58)) := ⟨hS0.1.alloc hS0.1.size _, hS0.2.1.alloc _, hS0.2.2.alloc _⟩
      have hZ : Blk ((w0.drew).alloc (.cells Fr.zero.arr 58)) w0.heap.size 58 Fr.zero.arr := Blk.new (w0.drew) 58 Fr.zero.arr
      have hlt : w.heap.size + 1 < w0.heap.size := hS0.2.2.lt
      refine hK.out _ _ hS1 (fun _ => ?_)
      clear hK K hS0
      (try simp only [Act.put, List.setIfInBounds_toArray, List.set_cons_zero, List.set_cons_succ])
      generalize w0.heap.size = g at *
      refine Ord.aloneM rfl rfl (fun K hK => ?_)
      go_simp
      refine (ref_Margin s room _).mono ?_
      rintro e v2 ⟨rfl, hbq⟩
      have hS2 : (fun W => Below w.heap.size w W ∧ Blk W w.heap.size 28 s.arr ∧ Blk W (w.heap.size + 1) 58 Fr.zero.arr) v2 := ⟨hS1.1.trans (hbq.mono hS1.1.size), hS1.2.1.below hbq hS1.2.1.lt, hS1.2.2.below hbq hS1.2.2.lt⟩
      replace hZ := hZ.below hbq hZ.lt
      go_wp2_with fail
      refine hK.out _ _ hS2 (fun _ => ?_)
      clear hK K hbq hS1
      (try simp only [Act.put, List.setIfInBounds_toArray, List.set_cons_zero, List.set_cons_succ])
      refine Ord.aloneM rfl rfl (fun K hK => ?_)
      go_simp
      refine (ref_Padding s room _).mono ?_
      rintro e v3 ⟨rfl, hbq⟩
      have hS3 : (fun W => Below w.heap.size w W ∧ Blk W w.heap.size 28 s.arr ∧ Blk W (w.heap.size + 1) 58 Fr.zero.arr) v3 := ⟨hS2.1.trans (hbq.mono hS2.1.size), hS2.2.1.below hbq hS2.2.1.lt, hS2.2.2.below hbq hS2.2.2.lt⟩
      replace hZ := hZ.below hbq hZ.lt
      go_wp2_with fail
      refine hK.out _ _ hS3 (fun _ => ?_)
      clear hK K hbq hS2
      (try simp only [Act.put, List.setIfInBounds_toArray, List.set_cons_zero, List.set_cons_succ])
      refine Ord.aloneM rfl rfl (fun K hK => ?_)
      go_simp
      refine (ref_Border s _).mono ?_
      rintro e v4 ⟨rfl, hbq⟩
      have hS4 : (fun W => Below w.heap.size w W ∧ Blk W w.heap.size 28 s.arr ∧ Blk W (w.heap.size + 1) 58 Fr.zero.arr) v4 := ⟨hS3.1.trans (hbq.mono hS3.1.size), hS3.2.1.below hbq hS3.2.1.lt, hS3.2.2.below hbq hS3.2.2.lt⟩
      replace hZ := hZ.below hbq hZ.lt
      go_wp2_with fail
      refine hK.out _ _ hS4 (fun _ => ?_)
      clear hK K hbq hS3
      (try simp only [Act.put, List.setIfInBounds_toArray, List.set_cons_zero, List.set_cons_succ])
      simp only [Sd.arr]
      (refine Ord.takeM (v := ?_) (Or.inl ⟨rfl, ?_⟩) ?_; rotate_left; (intro w hSw; (try dsimp only at hSw); go_simp; try (with_reducible rfl)); (try simp only [Act.put, List.setIfInBounds_toArray, List.set_cons_zero, List.set_cons_succ]))
      refine Ord.lastM rfl rfl (fun K hK => ?_)
      refine wp_store_row 58 _ _ rfl g (s.rframed room).arr rfl rfl 58 Fr.zero.arr hZ rfl (info_rf _) (frame_one _) ?_
      intro w9 hFr hc
      have h9 : Rs w w9 s Fr.zero (s.rframed room) g := ⟨hS4.1.trans (hc.below (by omega)), hlt, hS4.2.1.chg hc (by omega), hS4.2.2.chg hc (by omega), hFr⟩
      (try simp only [Act.put, List.setIfInBounds_toArray, List.set_cons_zero, List.set_cons_succ])
      refine hK.out _ _ ?_
      clear hK K hS4 hc hlt hI
      refine Ord.doneM (NoPanic.normal ?_)
      go_wp2_with fail
      go_meet
      exact ⟨g, rfl, h9⟩
  case rest =>
  clear hI
  obtain ⟨g, rfl, h⟩ := hcut
  go_wp2_with (first | (first | refine stop_load 28 _ rfl rfl ?_ | refine stop_store 28 _ _ rfl rfl ?_) | (first | refine stop_load 58 _ rfl rfl ?_ | refine stop_store 58 _ _ rfl rfl ?_))
  refine ⟨?_⟩
  refine wl_load rfl 58 _ rfl _ rfl _ _ _ h.frm rfl rfl (info_rf _) ?_
  (try simp only [Act.put, List.setIfInBounds_toArray, List.set_cons_zero, List.set_cons_succ])
  go_wp2_with (first | (first | refine stop_load 28 _ rfl rfl ?_ | refine stop_store 28 _ _ rfl rfl ?_) | (first | refine stop_load 58 _ rfl rfl ?_ | refine stop_store 58 _ _ rfl rfl ?_))
  refine (ref_Inner _ _).mono ?_
  rintro e w1 ⟨rfl, hbq⟩
  replace h := h.on hbq
  clear hbq
  have c3 : w1.cell? ⟨g, 3, none⟩ = some (.int .i64 (s.rframed room).m.l) := h.frm.cell 3
  have c1 : w1.cell? ⟨g, 1, none⟩ = some (.int .i64 (s.rframed room).m.r) := h.frm.cell 1
  go_wp2_with (first | (first | refine stop_load 28 _ rfl rfl ?_ | refine stop_store 28 _ _ rfl rfl ?_) | (first | refine stop_load 58 _ rfl rfl ?_ | refine stop_store 58 _ _ rfl rfl ?_))
  refine (rsum3 (s.rframed room).m.l (s.rframed room).m.r (s.rframed room).racross _ _ (Blk.new w1 _ _)).mono ?_
  rintro e w2 ⟨rfl, rfl⟩
  replace h := h.on ((Below.refl _ w1).alloc (Nat.le_refl _) (.cells #[.int .i64 (s.rframed room).m.l, .int .i64 (s.rframed room).m.r, .int .i64 (s.rframed room).racross] 2))
  clear c3 c1
  go_upto_region 4 with fail
  refine wp_forget (fun W => Rs w W s Fr.zero (s.rframed room) g) h ?_
  clear h
  intro w2 h
  have c4 : w2.cell? ⟨w.heap.size, 4, none⟩ = some (.int .i64 0) := by rw [h.sty.cell 4]; simp [Sty.arr, hk]
  have c5 : w2.cell? ⟨w.heap.size, 5, none⟩ = some (.int .i64 s.wn) := h.sty.cell 5
  go_wp2_with (first | (first | refine stop_load 28 _ rfl rfl ?_ | refine stop_store 28 _ _ rfl rfl ?_) | (first | refine stop_load 58 _ rfl rfl ?_ | refine stop_store 58 _ _ rfl rfl ?_))
  refine (ref_Length 0 s.wn room _).mono ?_
  rw [show given 0 = false from by decide]
  rintro e w3 ⟨rfl, hbq⟩
  replace h := h.on hbq
  clear hbq c4 c5
  have c12 : w3.cell? ⟨g, 12, none⟩ = some (.int .i64 0) := h.frm.cell 12
  have f12 : w3.frozen? ⟨g, 12, none⟩ = false := h.frm.free 12
  go_wp2_with (first | (first | refine stop_load 28 _ rfl rfl ?_ | refine stop_store 28 _ _ rfl rfl ?_) | (first | refine stop_load 58 _ rfl rfl ?_ | refine stop_store 58 _ _ rfl rfl ?_) | (go_at_call 56; refine (ref_Sub _ _ _).mono ?_; rintro e w' ⟨rfl, rfl⟩) | (go_at_call 68; refine (ref_Up _ _).mono ?_; rintro e w' ⟨rfl, rfl⟩))
  replace h := h.put (frame_put12 h.frm (max (sub room (s.raround room)) 0))
  refine ⟨?_⟩
  refine wl_load rfl 58 _ rfl _ rfl _ _ _ h.frm rfl rfl (info_rf _) ?_
  (try simp only [Act.put, List.setIfInBounds_toArray, List.set_cons_zero, List.set_cons_succ])
  go_wp2_with (first | (first | refine stop_load 28 _ rfl rfl ?_ | refine stop_store 28 _ _ rfl rfl ?_) | (first | refine stop_load 58 _ rfl rfl ?_ | refine stop_store 58 _ _ rfl rfl ?_))
  refine ⟨?_⟩
  refine wl_store rfl 58 _ _ rfl (w.heap.size + 1) _ rfl rfl 58 Fr.zero.arr h.res rfl (info_rf _) (frame_one _) ?_
  intro w9 hQ hc
  have hg := h.below.trans (hc.below (by omega))
  clear h hc
  (try simp only [Act.put, List.setIfInBounds_toArray, List.set_cons_zero, List.set_cons_succ])
  go_wp2_with fail
  refine bodyPost_ret (results_row 4 58 _ rfl rfl hQ _ rfl rfl (info_rf _)) rfl ?_
  exact ⟨rfl, hg⟩
set_option maxRecDepth 100000 in
set_option maxHeartbeats 4000000 in
theorem ref_Fit0 (s : Sty) (room least most : Int) (hk : s.wk = 0) (w : World) : Calls Try.prog 70 #[.agg s.arr, .int .i64 room, .int .i64 least, .int .i64 most] w fun e w' => e = .returned (.agg (s.rfit0 room least most).arr) ∧ Below w.heap.size w w' := by
  have hI : (fun W => Below w.heap.size w W ∧ Blk W w.heap.size 28 s.arr ∧ Blk W (w.heap.size + 1) 58 Fr.zero.arr) ((w.alloc (.cells s.arr 28)).alloc (.cells Fr.zero.arr 58)) := ⟨by go_grown, (Blk.new _ _ _).alloc _, Blk.newAt _ _ _ (by simp)⟩
  go_enter Try.func70, Try.ntmps70
  go_upto_region 1 with fail
  refine wp_forget (fun W => Below w.heap.size w W ∧ Blk W w.heap.size 28 s.arr ∧ Blk W (w.heap.size + 1) 58 Fr.zero.arr) hI ?_
  clear hI
  intro w0 hI
  go_cut [9] (fun s5 wx => ∃ g, s5 = .pointer (some ⟨g, 0, none⟩) ∧ Rs w wx s Fr.zero (s.rframed room) g)
  case first =>
    refine wp_region_noPanic ?_
    refine Ord.region_M (S := fun W => Below w.heap.size w W ∧ Blk W w.heap.size 28 s.arr ∧ Blk W (w.heap.size + 1) 58 Fr.zero.arr) 10 (.one 0 true (.one 1 true (.one 3 true (.one 4 true (.one 6 true (.two 2 (.two 5 (.two 7 (.one 8 true (.one 9 false (.one 10 false .nil))) 9 (.one 7 false (.one 8 true (.one 10 false .nil)))) 9 (.one 5 false (.one 7 false (.one 8 true (.one 10 false .nil))))) 9 (.one 2 false (.one 5 false (.one 7 false (.one 8 true (.one 10 false .nil))))))))))) (by kernel_rfl) (by kernel_rfl) (by kernel_rfl) (by kernel_rfl) (by decide) (fun _ _ _ _ _ h => h) ⟨hI.1.drew, hI.2.1.drew, hI.2.2.drew⟩ (fun hS0 => ?_)
    simp only [Ord.layT, List.getElem?_cons_zero, List.getElem?_cons_succ]
    (refine Ord.takeM (yieldsIf_load_mid rfl _ _ rfl w.heap.size 0 rfl _ _ (fun w' h => h.2.1.range) Try.underlying28 rfl (by simpa using info_style' s)) ?_; (try simp only [Act.put, List.setIfInBounds_toArray, List.set_cons_zero, List.set_cons_succ]))
    (refine Ord.takeM (v := ?_) (Or.inl ⟨rfl, ?_⟩) ?_; rotate_left; (intro w hSw; (try dsimp only at hSw); go_simp; try (with_reducible rfl)); (try simp only [Act.put, List.setIfInBounds_toArray, List.set_cons_zero, List.set_cons_succ]))
    (refine Ord.takeM (yieldsIf_load_mid rfl _ _ rfl w.heap.size 0 rfl _ _ (fun w' h => h.2.1.range) Try.underlying28 rfl (by simpa using info_style' s)) ?_; (try simp only [Act.put, List.setIfInBounds_toArray, List.set_cons_zero, List.set_cons_succ]))
    (refine Ord.takeM (v := ?_) (Or.inl ⟨rfl, ?_⟩) ?_; rotate_left; (intro w hSw; (try dsimp only at hSw); go_simp; try (with_reducible rfl)); (try simp only [Act.put, List.setIfInBounds_toArray, List.set_cons_zero, List.set_cons_succ]))
    (refine Ord.takeM (yieldsIf_load_mid rfl _ _ rfl w.heap.size 0 rfl _ _ (fun w' h => h.2.1.range) Try.underlying28 rfl (by simpa using info_style' s)) ?_; (try simp only [Act.put, List.setIfInBounds_toArray, List.set_cons_zero, List.set_cons_succ]))
    refine Ord.twoM rfl rfl rfl rfl (fun K hK => ?_) (fun K hK => ?_)
    · go_simp
      refine (ref_Margin s room _).mono ?_
      rintro e v1 ⟨rfl, hbq⟩
      have hS1 : (fun W => Below w.heap.size w W ∧ Blk W w.heap.size 28 s.arr ∧ Blk W (w.heap.size + 1) 58 Fr.zero.arr) v1 := ⟨hS0.1.trans (hbq.mono hS0.1.size), hS0.2.1.below hbq hS0.2.1.lt, hS0.2.2.below hbq hS0.2.2.lt⟩
      go_wp2_with fail
      refine hK.out _ _ hS1 (fun _ => ?_)
      clear hK K hbq hS0
      (try simp only [Act.put, List.setIfInBounds_toArray, List.set_cons_zero, List.set_cons_succ])
      refine Ord.twoM rfl rfl rfl rfl (fun K hK => ?_) (fun K hK => ?_)
      · go_simp
        refine (ref_Padding s room _).mono ?_
        rintro e v2 ⟨rfl, hbq⟩
        have hS2 : (fun W => Below w.heap.size w W ∧ Blk W w.heap.size 28 s.arr ∧ Blk W (w.heap.size + 1) 58 Fr.zero.arr) v2 := ⟨hS1.1.trans (hbq.mono hS1.1.size), hS1.2.1.below hbq hS1.2.1.lt, hS1.2.2.below hbq hS1.2.2.lt⟩
        go_wp2_with fail
        refine hK.out _ _ hS2 (fun _ => ?_)
        clear hK K hbq hS1
        (try simp only [Act.put, List.setIfInBounds_toArray, List.set_cons_zero, List.set_cons_succ])
        refine Ord.twoM rfl rfl rfl rfl (fun K hK => ?_) (fun K hK => ?_)
        · go_simp
          refine (ref_Border s _).mono ?_
          rintro e v3 ⟨rfl, hbq⟩
          have hS3 : (fun W => Below w.heap.size w W ∧ Blk W w.heap.size 28 s.arr ∧ Blk W (w.heap.size + 1) 58 Fr.zero.arr) v3 := ⟨hS2.1.trans (hbq.mono hS2.1.size), hS2.2.1.below hbq hS2.2.1.lt, hS2.2.2.below hbq hS2.2.2.lt⟩
          go_wp2_with fail
          refine hK.out _ _ hS3 (fun _ => ?_)
          clear hK K hbq hS2
          (try simp only [Act.put, List.setIfInBounds_toArray, List.set_cons_zero, List.set_cons_succ])
          simp only [Sd.arr]
          (refine Ord.takeM (v := ?_) (Or.inl ⟨rfl, ?_⟩) ?_; rotate_left; (intro w hSw; (try dsimp only at hSw); go_simp; try (with_reducible rfl)); (try simp only [Act.put, List.setIfInBounds_toArray, List.set_cons_zero, List.set_cons_succ]))
          refine Ord.aloneM rfl rfl (fun K hK => ?_)
          go_simp
          have hS4 : (fun W => Below w.heap.size w W ∧ Blk W w.heap.size 28 s.arr ∧ Blk W (w.heap.size + 1) 58 Fr.zero.arr) ((v3).alloc (.cells Fr.zero.arr 58)) := ⟨hS3.1.alloc hS3.1.size _, hS3.2.1.alloc _, hS3.2.2.alloc _⟩
          have hZ : Blk ((v3).alloc (.cells Fr.zero.arr 58)) v3.heap.size 58 Fr.zero.arr := Blk.new (v3) 58 Fr.zero.arr
          have hlt : w.heap.size + 1 < v3.heap.size := hS3.2.2.lt
          refine hK.out _ _ hS4 (fun _ => ?_)
          clear hK K hS3
          (try simp only [Act.put, List.setIfInBounds_toArray, List.set_cons_zero, List.set_cons_succ])
          generalize v3.heap.size = g at *
          refine Ord.lastM rfl rfl (fun K hK => ?_)
          refine wp_store_row 58 _ _ rfl g (s.rframed room).arr rfl rfl 58 Fr.zero.arr hZ rfl (info_rf _) (frame_one _) ?_
          intro w9 hFr hc
          have h9 : Rs w w9 s Fr.zero (s.rframed room) g := ⟨hS4.1.trans (hc.below (by omega)), hlt, hS4.2.1.chg hc (by omega), hS4.2.2.chg hc (by omega), hFr⟩
          (try simp only [Act.put, List.setIfInBounds_toArray, List.set_cons_zero, List.set_cons_succ])
          refine hK.out _ _ ?_
          clear hK K hS4 hc hlt hI
          refine Ord.doneM (NoPanic.normal ?_)
          go_wp2_with fail
          go_meet
          exact ⟨g, rfl, h9⟩
        · go_simp
          have hS3 : (fun W => Below w.heap.size w W ∧ Blk W w.heap.size 28 s.arr ∧ Blk W (w.heap.size + 1) 58 Fr.zero.arr) ((v2).alloc (.cells Fr.zero.arr 58)) := ⟨hS2.1.alloc hS2.1.size _, hS2.2.1.alloc _, hS2.2.2.alloc _⟩
          have hZ : Blk ((v2).alloc (.cells Fr.zero.arr 58)) v2.heap.size 58 Fr.zero.arr := Blk.new (v2) 58 Fr.zero.arr
          have hlt : w.heap.size + 1 < v2.heap.size := hS2.2.2.lt
          refine hK.out _ _ hS3 (fun _ => ?_)
          clear hK K hS2
          (try simp only [Act.put, List.setIfInBounds_toArray, List.set_cons_zero, List.set_cons_succ])
          generalize v2.heap.size = g at *
          refine Ord.aloneM rfl rfl (fun K hK => ?_)
          go_simp
          refine (ref_Border s _).mono ?_
          rintro e v4 ⟨rfl, hbq⟩
          have hS4 : (fun W => Below w.heap.size w W ∧ Blk W w.heap.size 28 s.arr ∧ Blk W (w.heap.size + 1) 58 Fr.zero.arr) v4 := ⟨hS3.1.trans (hbq.mono hS3.1.size), hS3.2.1.below hbq hS3.2.1.lt, hS3.2.2.below hbq hS3.2.2.lt⟩
          replace hZ := hZ.below hbq hZ.lt
          go_wp2_with fail
          refine hK.out _ _ hS4 (fun _ => ?_)
          clear hK K hbq hS3
          (try simp only [Act.put, List.setIfInBounds_toArray, List.set_cons_zero, List.set_cons_succ])
          simp only [Sd.arr]
          (refine Ord.takeM (v := ?_) (Or.inl ⟨rfl, ?_⟩) ?_; rotate_left; (intro w hSw; (try dsimp only at hSw); go_simp; try (with_reducible rfl)); (try simp only [Act.put, List.setIfInBounds_toArray, List.set_cons_zero, List.set_cons_succ]))
          refine Ord.lastM rfl rfl (fun K hK => ?_)
          refine wp_store_row 58 _ _ rfl g (s.rframed room).arr rfl rfl 58 Fr.zero.arr hZ rfl (info_rf _) (frame_one _) ?_
          intro w9 hFr hc
          have h9 : Rs w w9 s Fr.zero (s.rframed room) g := ⟨hS4.1.trans (hc.below (by omega)), hlt, hS4.2.1.chg hc (by omega), hS4.2.2.chg hc (by omega), hFr⟩
          (try simp only [Act.put, List.setIfInBounds_toArray, List.set_cons_zero, List.set_cons_succ])
          refine hK.out _ _ ?_
          clear hK K hS4 hc hlt hI
          refine Ord.doneM (NoPanic.normal ?_)
          go_wp2_with fail
          go_meet
          exact ⟨g, rfl, h9⟩
      · go_simp
        have hS2 : (fun W => Below w.heap.size w W ∧ Blk W w.heap.size 28 s.arr ∧ Blk W (w.heap.size + 1) 58 Fr.zero.arr) ((v1).alloc (.cells Fr.zero.arr 58)) := ⟨hS1.1.alloc hS1.1.size _, hS1.2.1.alloc _, hS1.2.2.alloc _⟩
        have hZ : Blk ((v1).alloc (.cells Fr.zero.arr 58)) v1.heap.size 58 Fr.zero.arr := Blk.new (v1) 58 Fr.zero.arr
        have hlt : w.heap.size + 1 < v1.heap.size := hS1.2.2.lt
        refine hK.out _ _ hS2 (fun _ => ?_)
        clear hK K hS1
        (try simp only [Act.put, List.setIfInBounds_toArray, List.set_cons_zero, List.set_cons_succ])
        generalize v1.heap.size = g at *
        refine Ord.aloneM rfl rfl (fun K hK => ?_)
        go_simp
        refine (ref_Padding s room _).mono ?_
        rintro e v3 ⟨rfl, hbq⟩
        have hS3 : (fun W => Below w.heap.size w W ∧ Blk W w.heap.size 28 s.arr ∧ Blk W (w.heap.size + 1) 58 Fr.zero.arr) v3 := ⟨hS2.1.trans (hbq.mono hS2.1.size), hS2.2.1.below hbq hS2.2.1.lt, hS2.2.2.below hbq hS2.2.2.lt⟩
        replace hZ := hZ.below hbq hZ.lt
        go_wp2_with fail
        refine hK.out _ _ hS3 (fun _ => ?_)
        clear hK K hbq hS2
        (try simp only [Act.put, List.setIfInBounds_toArray, List.set_cons_zero, List.set_cons_succ])
        refine Ord.aloneM rfl rfl (fun K hK => ?_)
        go_simp
        refine (ref_Border s _).mono ?_
        rintro e v4 ⟨rfl, hbq⟩
        have hS4 : (fun W => Below w.heap.size w W ∧ Blk W w.heap.size 28 s.arr ∧ Blk W (w.heap.size + 1) 58 Fr.zero.arr) v4 := ⟨hS3.1.trans (hbq.mono hS3.1.size), hS3.2.1.below hbq hS3.2.1.lt, hS3.2.2.below hbq hS3.2.2.lt⟩
        replace hZ := hZ.below hbq hZ.lt
        go_wp2_with fail
        refine hK.out _ _ hS4 (fun _ => ?_)
        clear hK K hbq hS3
        (try simp only [Act.put, List.setIfInBounds_toArray, List.set_cons_zero, List.set_cons_succ])
        simp only [Sd.arr]
        (refine Ord.takeM (v := ?_) (Or.inl ⟨rfl, ?_⟩) ?_; rotate_left; (intro w hSw; (try dsimp only at hSw); go_simp; try (with_reducible rfl)); (try simp only [Act.put, List.setIfInBounds_toArray, List.set_cons_zero, List.set_cons_succ]))
        refine Ord.lastM rfl rfl (fun K hK => ?_)
        refine wp_store_row 58 _ _ rfl g (s.rframed room).arr rfl rfl 58 Fr.zero.arr hZ rfl (info_rf _) (frame_one _) ?_
        intro w9 hFr hc
        have h9 : Rs w w9 s Fr.zero (s.rframed room) g := ⟨hS4.1.trans (hc.below (by omega)), hlt, hS4.2.1.chg hc (by omega), hS4.2.2.chg hc (by omega), hFr⟩
        (try simp only [Act.put, List.setIfInBounds_toArray, List.set_cons_zero, List.set_cons_succ])
        refine hK.out _ _ ?_
        clear hK K hS4 hc hlt hI
        refine Ord.doneM (NoPanic.normal ?_)
        go_wp2_with fail
        go_meet
        exact ⟨g, rfl, h9⟩
    · go_simp
      have hS1 : (fun W => Below w.heap.size w W ∧ Blk W w.heap.size 28 s.arr ∧ Blk W (w.heap.size + 1) 58 Fr.zero.arr) ((w0.drew).alloc (.cells Fr.zero.arr 58)) := ⟨hS0.1.alloc hS0.1.size _, hS0.2.1.alloc _, hS0.2.2.alloc _⟩
      have hZ : Blk ((w0.drew).alloc (.cells Fr.zero.arr 58)) w0.heap.size 58 Fr.zero.arr := Blk.new (w0.drew) 58 Fr.zero.arr
      have hlt : w.heap.size + 1 < w0.heap.size := hS0.2.2.lt
      refine hK.out _ _ hS1 (fun _ => ?_)
      clear hK K hS0
      (try simp only [Act.put, List.setIfInBounds_toArray, List.set_cons_zero, List.set_cons_succ])
      generalize w0.heap.size = g at *
      refine Ord.aloneM rfl rfl (fun K hK => ?_)
      go_simp
      refine (ref_Margin s room _).mono ?_
      rintro e v2 ⟨rfl, hbq⟩
      have hS2 : (fun W => Below w.heap.size w W ∧ Blk W w.heap.size 28 s.arr ∧ Blk W (w.heap.size + 1) 58 Fr.zero.arr) v2 := ⟨hS1.1.trans (hbq.mono hS1.1.size), hS1.2.1.below hbq hS1.2.1.lt, hS1.2.2.below hbq hS1.2.2.lt⟩
      replace hZ := hZ.below hbq hZ.lt
      go_wp2_with fail
      refine hK.out _ _ hS2 (fun _ => ?_)
      clear hK K hbq hS1
      (try simp only [Act.put, List.setIfInBounds_toArray, List.set_cons_zero, List.set_cons_succ])
      refine Ord.aloneM rfl rfl (fun K hK => ?_)
      go_simp
      refine (ref_Padding s room _).mono ?_
      rintro e v3 ⟨rfl, hbq⟩
      have hS3 : (fun W => Below w.heap.size w W ∧ Blk W w.heap.size 28 s.arr ∧ Blk W (w.heap.size + 1) 58 Fr.zero.arr) v3 := ⟨hS2.1.trans (hbq.mono hS2.1.size), hS2.2.1.below hbq hS2.2.1.lt, hS2.2.2.below hbq hS2.2.2.lt⟩
      replace hZ := hZ.below hbq hZ.lt
      go_wp2_with fail
      refine hK.out _ _ hS3 (fun _ => ?_)
      clear hK K hbq hS2
      (try simp only [Act.put, List.setIfInBounds_toArray, List.set_cons_zero, List.set_cons_succ])
      refine Ord.aloneM rfl rfl (fun K hK => ?_)
      go_simp
      refine (ref_Border s _).mono ?_
      rintro e v4 ⟨rfl, hbq⟩
      have hS4 : (fun W => Below w.heap.size w W ∧ Blk W w.heap.size 28 s.arr ∧ Blk W (w.heap.size + 1) 58 Fr.zero.arr) v4 := ⟨hS3.1.trans (hbq.mono hS3.1.size), hS3.2.1.below hbq hS3.2.1.lt, hS3.2.2.below hbq hS3.2.2.lt⟩
      replace hZ := hZ.below hbq hZ.lt
      go_wp2_with fail
      refine hK.out _ _ hS4 (fun _ => ?_)
      clear hK K hbq hS3
      (try simp only [Act.put, List.setIfInBounds_toArray, List.set_cons_zero, List.set_cons_succ])
      simp only [Sd.arr]
      (refine Ord.takeM (v := ?_) (Or.inl ⟨rfl, ?_⟩) ?_; rotate_left; (intro w hSw; (try dsimp only at hSw); go_simp; try (with_reducible rfl)); (try simp only [Act.put, List.setIfInBounds_toArray, List.set_cons_zero, List.set_cons_succ]))
      refine Ord.lastM rfl rfl (fun K hK => ?_)
      refine wp_store_row 58 _ _ rfl g (s.rframed room).arr rfl rfl 58 Fr.zero.arr hZ rfl (info_rf _) (frame_one _) ?_
      intro w9 hFr hc
      have h9 : Rs w w9 s Fr.zero (s.rframed room) g := ⟨hS4.1.trans (hc.below (by omega)), hlt, hS4.2.1.chg hc (by omega), hS4.2.2.chg hc (by omega), hFr⟩
      (try simp only [Act.put, List.setIfInBounds_toArray, List.set_cons_zero, List.set_cons_succ])
      refine hK.out _ _ ?_
      clear hK K hS4 hc hlt hI
      refine Ord.doneM (NoPanic.normal ?_)
      go_wp2_with fail
      go_meet
      exact ⟨g, rfl, h9⟩
  case rest =>
  clear hI
  obtain ⟨g, rfl, h⟩ := hcut
  go_wp2_with (first | (first | refine stop_load 28 _ rfl rfl ?_ | refine stop_store 28 _ _ rfl rfl ?_) | (first | refine stop_load 58 _ rfl rfl ?_ | refine stop_store 58 _ _ rfl rfl ?_))
  refine ⟨?_⟩
  refine wl_load rfl 28 _ rfl _ rfl _ _ _ h.sty rfl rfl (info_style' s) ?_
  (try simp only [Act.put, List.setIfInBounds_toArray, List.set_cons_zero, List.set_cons_succ])
  go_wp2_with (first | (first | refine stop_load 28 _ rfl rfl ?_ | refine stop_store 28 _ _ rfl rfl ?_) | (first | refine stop_load 58 _ rfl rfl ?_ | refine stop_store 58 _ _ rfl rfl ?_))
  refine (ref_Solve0 s room hk _).mono ?_
  obtain ⟨x, hx⟩ : ∃ x, (s.rsolve0 room).w = x := ⟨_, rfl⟩
  rintro e w1 ⟨rfl, hbq⟩
  replace h := h.on hbq
  clear hbq
  have c4 : w1.cell? ⟨w.heap.size, 4, none⟩ = some (.int .i64 0) := by rw [h.sty.cell 4]; simp [Sty.arr, hk]
  have c5 : w1.cell? ⟨w.heap.size, 5, none⟩ = some (.int .i64 s.wn) := h.sty.cell 5
  go_wp2_with (first | (first | refine stop_load 28 _ rfl rfl ?_ | refine stop_store 28 _ _ rfl rfl ?_) | (first | refine stop_load 58 _ rfl rfl ?_ | refine stop_store 58 _ _ rfl rfl ?_))
  refine (ref_Length 0 s.wn room _).mono ?_
  rw [show given 0 = false from by decide]
  rintro e w3 ⟨rfl, hbq⟩
  replace h := h.on hbq
  clear hbq c4 c5
  replace hx := hid hx
  have c12 : w3.cell? ⟨g, 12, none⟩ = some (.int .i64 0) := h.frm.cell 12
  have f12 : w3.frozen? ⟨g, 12, none⟩ = false := h.frm.free 12
  have ways : (decide (most < x) = true ∧ decide (most < least) = true ∧ clampw x least most = least) ∨ (decide (most < x) = true ∧ decide (most < least) = false ∧ clampw x least most = most) ∨ (decide (most < x) = false ∧ decide (x < least) = true ∧ clampw x least most = least) ∨ (decide (most < x) = false ∧ decide (x < least) = false ∧ clampw x least most = x) := by
    unfold clampw
    simp only [decide_eq_true_eq, decide_eq_false_iff_not]
    by_cases h1 : most < x
    · simp only [h1, if_true]
      by_cases h2 : most < least <;> simp [h2]
    · simp only [h1, if_false]
      by_cases h2 : x < least <;> simp [h2]
  have e0 : s.rfit0 room least most = { s.rframed room with w := max (clampw x least most) 0 } := by unfold Sty.rfit0; rw [hx.out]
  replace e0 := hid e0
  rcases ways with ⟨d1, d2, d3⟩ | ⟨d1, d2, d3⟩ | ⟨d1, d2, d3⟩ | ⟨d1, d2, d3⟩
  · rw [d3] at e0
    clear d3
    simp only [decide_eq_true_eq, decide_eq_false_iff_not] at d1 d2
    go_wp2_with (first | (first | refine stop_load 28 _ rfl rfl ?_ | refine stop_store 28 _ _ rfl rfl ?_) | (first | refine stop_load 58 _ rfl rfl ?_ | refine stop_store 58 _ _ rfl rfl ?_) | (go_at_call 68; refine (ref_Up _ _).mono ?_; rintro e w' ⟨rfl, rfl⟩))
    replace h := h.put (frame_put12 h.frm (max least 0))
    refine ⟨?_⟩
    refine wl_load rfl 58 _ rfl _ rfl _ _ _ h.frm rfl rfl (info_rf _) ?_
    (try simp only [Act.put, List.setIfInBounds_toArray, List.set_cons_zero, List.set_cons_succ])
    go_wp2_with (first | (first | refine stop_load 28 _ rfl rfl ?_ | refine stop_store 28 _ _ rfl rfl ?_) | (first | refine stop_load 58 _ rfl rfl ?_ | refine stop_store 58 _ _ rfl rfl ?_))
    refine ⟨?_⟩
    refine wl_store rfl 58 _ _ rfl (w.heap.size + 1) _ rfl rfl 58 Fr.zero.arr h.res rfl (info_rf _) (frame_one _) ?_
    intro w9 hQ hc
    have hg := h.below.trans (hc.below (by omega))
    clear h hc
    (try simp only [Act.put, List.setIfInBounds_toArray, List.set_cons_zero, List.set_cons_succ])
    go_wp2_with fail
    refine bodyPost_ret (results_row 8 58 _ rfl rfl hQ _ rfl rfl (info_rf _)) rfl ?_
    exact ⟨by rw [e0.out], hg⟩
  · rw [d3] at e0
    clear d3
    simp only [decide_eq_true_eq, decide_eq_false_iff_not] at d1 d2
    go_wp2_with (first | (first | refine stop_load 28 _ rfl rfl ?_ | refine stop_store 28 _ _ rfl rfl ?_) | (first | refine stop_load 58 _ rfl rfl ?_ | refine stop_store 58 _ _ rfl rfl ?_) | (go_at_call 68; refine (ref_Up _ _).mono ?_; rintro e w' ⟨rfl, rfl⟩))
    replace h := h.put (frame_put12 h.frm (max most 0))
    refine ⟨?_⟩
    refine wl_load rfl 58 _ rfl _ rfl _ _ _ h.frm rfl rfl (info_rf _) ?_
    (try simp only [Act.put, List.setIfInBounds_toArray, List.set_cons_zero, List.set_cons_succ])
    go_wp2_with (first | (first | refine stop_load 28 _ rfl rfl ?_ | refine stop_store 28 _ _ rfl rfl ?_) | (first | refine stop_load 58 _ rfl rfl ?_ | refine stop_store 58 _ _ rfl rfl ?_))
    refine ⟨?_⟩
    refine wl_store rfl 58 _ _ rfl (w.heap.size + 1) _ rfl rfl 58 Fr.zero.arr h.res rfl (info_rf _) (frame_one _) ?_
    intro w9 hQ hc
    have hg := h.below.trans (hc.below (by omega))
    clear h hc
    (try simp only [Act.put, List.setIfInBounds_toArray, List.set_cons_zero, List.set_cons_succ])
    go_wp2_with fail
    refine bodyPost_ret (results_row 8 58 _ rfl rfl hQ _ rfl rfl (info_rf _)) rfl ?_
    exact ⟨by rw [e0.out], hg⟩
  · rw [d3] at e0
    clear d3
    simp only [decide_eq_true_eq, decide_eq_false_iff_not] at d1 d2
    go_wp2_with (first | (first | refine stop_load 28 _ rfl rfl ?_ | refine stop_store 28 _ _ rfl rfl ?_) | (first | refine stop_load 58 _ rfl rfl ?_ | refine stop_store 58 _ _ rfl rfl ?_) | (go_at_call 68; refine (ref_Up _ _).mono ?_; rintro e w' ⟨rfl, rfl⟩))
    replace h := h.put (frame_put12 h.frm (max least 0))
    refine ⟨?_⟩
    refine wl_load rfl 58 _ rfl _ rfl _ _ _ h.frm rfl rfl (info_rf _) ?_
    (try simp only [Act.put, List.setIfInBounds_toArray, List.set_cons_zero, List.set_cons_succ])
    go_wp2_with (first | (first | refine stop_load 28 _ rfl rfl ?_ | refine stop_store 28 _ _ rfl rfl ?_) | (first | refine stop_load 58 _ rfl rfl ?_ | refine stop_store 58 _ _ rfl rfl ?_))
    refine ⟨?_⟩
    refine wl_store rfl 58 _ _ rfl (w.heap.size + 1) _ rfl rfl 58 Fr.zero.arr h.res rfl (info_rf _) (frame_one _) ?_
    intro w9 hQ hc
    have hg := h.below.trans (hc.below (by omega))
    clear h hc
    (try simp only [Act.put, List.setIfInBounds_toArray, List.set_cons_zero, List.set_cons_succ])
    go_wp2_with fail
    refine bodyPost_ret (results_row 8 58 _ rfl rfl hQ _ rfl rfl (info_rf _)) rfl ?_
    exact ⟨by rw [e0.out], hg⟩
  · rw [d3] at e0
    clear d3
    simp only [decide_eq_true_eq, decide_eq_false_iff_not] at d1 d2
    go_wp2_with (first | (first | refine stop_load 28 _ rfl rfl ?_ | refine stop_store 28 _ _ rfl rfl ?_) | (first | refine stop_load 58 _ rfl rfl ?_ | refine stop_store 58 _ _ rfl rfl ?_) | (go_at_call 68; refine (ref_Up _ _).mono ?_; rintro e w' ⟨rfl, rfl⟩))
    replace h := h.put (frame_put12 h.frm (max x 0))
    refine ⟨?_⟩
    refine wl_load rfl 58 _ rfl _ rfl _ _ _ h.frm rfl rfl (info_rf _) ?_
    (try simp only [Act.put, List.setIfInBounds_toArray, List.set_cons_zero, List.set_cons_succ])
    go_wp2_with (first | (first | refine stop_load 28 _ rfl rfl ?_ | refine stop_store 28 _ _ rfl rfl ?_) | (first | refine stop_load 58 _ rfl rfl ?_ | refine stop_store 58 _ _ rfl rfl ?_))
    refine ⟨?_⟩
    refine wl_store rfl 58 _ _ rfl (w.heap.size + 1) _ rfl rfl 58 Fr.zero.arr h.res rfl (info_rf _) (frame_one _) ?_
    intro w9 hQ hc
    have hg := h.below.trans (hc.below (by omega))
    clear h hc
    (try simp only [Act.put, List.setIfInBounds_toArray, List.set_cons_zero, List.set_cons_succ])
    go_wp2_with fail
    refine bodyPost_ret (results_row 8 58 _ rfl rfl hQ _ rfl rfl (info_rf _)) rfl ?_
    exact ⟨by rw [e0.out], hg⟩
end Go.Proofs.Ytkkabnkhdhlhkaa
