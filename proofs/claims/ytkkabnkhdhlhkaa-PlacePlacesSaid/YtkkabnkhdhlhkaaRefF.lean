/-
  The walk of casementref20.Across.
-/
import Derived.Test.YtkkabnkhdhlhkaaRefE
namespace Go.Proofs.Ytkkabnkhdhlhkaa
open Go.RowKit Num Mem Opn
set_option linter.unusedVariables false
set_option linter.unusedSimpArgs false
namespace Num
def Sty.rroom (s : Sty) (wd : Int) : Int := if given s.o1k then sub (if given s.o3k then sub wd (s.left wd) else wd) (s.right wd) else (if given s.o3k then sub wd (s.left wd) else wd)
def Sty.raw (s : Sty) (wd least most : Int) : Int :=
  if given s.wk then max (len s.wk s.wn wd) 0
  else if given s.o3k && given s.o1k then max (sub wd (sums [s.left wd, s.right wd, (s.rframed wd).m.l, (s.rframed wd).m.r, (s.rframed wd).racross] 5)) 0
  else (Sty.rfit0 { s with wk := 0, wn := 0 } (max (s.rroom wd) 0) least most).w
def Sty.raframe (s : Sty) (wd least most : Int) : Fr := { s.rframed wd with w := s.raw wd least most }
def Sty.rax (s : Sty) (x wd at' : Int) (F : Fr) : Int :=
  if given s.o3k then sums [x, s.left wd, F.m.l] 3
  else if given s.o1k then sub (add x wd) (sums [s.right wd, F.m.r, F.racross, F.w] 4)
  else add at' F.m.l
end Num
structure Ra (w W : World) (s : Sty) (x y wd ht : Int) (R F : Fr) (g : Nat) : Prop where
  below : Below w.heap.size w W
  far : w.heap.size + 1 + 1 < g
  sty : Blk W w.heap.size 28 s.arr
  rct : Blk W (w.heap.size + 1) 48 #[.int .i64 x, .int .i64 y, .int .i64 wd, .int .i64 ht]
  res : Blk W (w.heap.size + 1 + 1) 58 R.arr
  frm : Blk W g 58 F.arr
section
variable {w W W' : World} {s : Sty} {x y wd ht : Int} {R F F' : Fr} {g : Nat}
theorem Ra.on (h : Ra w W s x y wd ht R F g) (hb : Below W.heap.size W W') : Ra w W' s x y wd ht R F g :=
  ⟨h.below.trans (hb.mono h.below.size), h.far, h.sty.below hb h.sty.lt, h.rct.below hb h.rct.lt, h.res.below hb h.res.lt, h.frm.below hb h.frm.lt⟩
theorem Ra.drew (h : Ra w W s x y wd ht R F g) : Ra w W.drew s x y wd ht R F g := h.on (by go_grown)
theorem Ra.put {i : Nat} {v : Value} (h : Ra w W s x y wd ht R F g) (hF : Blk (W.setCell ⟨g, i, none⟩ v) g 58 F'.arr) : Ra w (W.setCell ⟨g, i, none⟩ v) s x y wd ht R F' g :=
  have := h.far
  ⟨h.below.trans ((Chg.setCell W ⟨g, i, none⟩ v).below (by simp; omega)), h.far, h.sty.far (by simp; omega) _, h.rct.far (by simp; omega) _, h.res.far (by simp; omega) _, hF⟩
end
set_option maxRecDepth 100000 in
set_option maxHeartbeats 4000000 in
theorem ref_Across (s : Sty) (x y wd ht at' least most : Int) (w : World) :
    Calls Try.prog 28 #[.agg s.arr, .agg #[.int .i64 x, .int .i64 y, .int .i64 wd, .int .i64 ht], .int .i64 at', .int .i64 least, .int .i64 most] w fun e w' =>
      e = .returned (.tuple #[.int .i64 (s.rax x wd at' (s.raframe wd least most)), .agg (s.raframe wd least most).arr]) ∧ Below w.heap.size w w' := by
  have hS0' : ∀ W, (Below w.heap.size w W ∧ Blk W w.heap.size 28 s.arr ∧ Blk W (w.heap.size + 1) 48 #[.int .i64 x, .int .i64 y, .int .i64 wd, .int .i64 ht] ∧ Blk W (w.heap.size + 1 + 1) 58 Fr.zero.arr) → (fun W => (Below w.heap.size w W ∧ Blk W w.heap.size 28 s.arr ∧ Blk W (w.heap.size + 1) 48 #[.int .i64 x, .int .i64 y, .int .i64 wd, .int .i64 ht] ∧ Blk W (w.heap.size + 1 + 1) 58 Fr.zero.arr) ∧ W.cell? ⟨w.heap.size + 1, 2, none⟩ = some (.int .i64 wd)) W := fun W h => ⟨h, h.2.2.1.cell 2⟩
  have hI : (fun W => Below w.heap.size w W ∧ Blk W w.heap.size 28 s.arr ∧ Blk W (w.heap.size + 1) 48 #[.int .i64 x, .int .i64 y, .int .i64 wd, .int .i64 ht] ∧ Blk W (w.heap.size + 1 + 1) 58 Fr.zero.arr) (((w.alloc (.cells s.arr 28)).alloc (.cells #[.int .i64 x, .int .i64 y, .int .i64 wd, .int .i64 ht] 48)).alloc (.cells Fr.zero.arr 58)) :=
    ⟨by go_grown, ((Blk.new _ _ _).alloc _).alloc _, (Blk.newAt _ _ _ (by simp)).alloc _, Blk.newAt _ _ _ (by simp)⟩
  go_enter Try.func28, Try.ntmps28
  go_upto_region 1 with fail
  refine wp_forget (fun W => Below w.heap.size w W ∧ Blk W w.heap.size 28 s.arr ∧ Blk W (w.heap.size + 1) 48 #[.int .i64 x, .int .i64 y, .int .i64 wd, .int .i64 ht] ∧ Blk W (w.heap.size + 1 + 1) 58 Fr.zero.arr) hI ?_
  clear hI
  intro w0 hI
  have c30 : w0.cell? ⟨w.heap.size, 30, none⟩ = some (.int .i64 s.o3k) := hI.2.1.cell 30
  have c31 : w0.cell? ⟨w.heap.size, 31, none⟩ = some (.int .i64 s.o3n) := hI.2.1.cell 31
  have cW : w0.cell? ⟨w.heap.size + 1, 2, none⟩ = some (.int .i64 wd) := hI.2.2.1.cell 2
  go_wp2_with fail
  refine (ref_Length s.o3k s.o3n wd _).mono ?_
  rintro e w1 ⟨rfl, hbq⟩
  replace hI := (⟨hI.1.trans (hbq.mono hI.1.size), hI.2.1.below hbq hI.2.1.lt, hI.2.2.1.below hbq hI.2.2.1.lt, hI.2.2.2.below hbq hI.2.2.2.lt⟩ : (fun W => Below w.heap.size w W ∧ Blk W w.heap.size 28 s.arr ∧ Blk W (w.heap.size + 1) 48 #[.int .i64 x, .int .i64 y, .int .i64 wd, .int .i64 ht] ∧ Blk W (w.heap.size + 1 + 1) 58 Fr.zero.arr) w1)
  clear hbq c30 c31 cW
  have c26 : w1.cell? ⟨w.heap.size, 26, none⟩ = some (.int .i64 s.o1k) := hI.2.1.cell 26
  have c27 : w1.cell? ⟨w.heap.size, 27, none⟩ = some (.int .i64 s.o1n) := hI.2.1.cell 27
  have cW : w1.cell? ⟨w.heap.size + 1, 2, none⟩ = some (.int .i64 wd) := hI.2.2.1.cell 2
  go_wp2_with fail
  refine (ref_Length s.o1k s.o1n wd _).mono ?_
  rintro e w2 ⟨rfl, hbq⟩
  replace hI := (⟨hI.1.trans (hbq.mono hI.1.size), hI.2.1.below hbq hI.2.1.lt, hI.2.2.1.below hbq hI.2.2.1.lt, hI.2.2.2.below hbq hI.2.2.2.lt⟩ : (fun W => Below w.heap.size w W ∧ Blk W w.heap.size 28 s.arr ∧ Blk W (w.heap.size + 1) 48 #[.int .i64 x, .int .i64 y, .int .i64 wd, .int .i64 ht] ∧ Blk W (w.heap.size + 1 + 1) 58 Fr.zero.arr) w2)
  clear hbq c26 c27 cW
  go_upto_region 3 with fail
  go_cut [16] (fun s16 wx => ∃ g, s16 = .pointer (some ⟨g, 0, none⟩) ∧ Ra w wx s x y wd ht Fr.zero (s.rframed wd) g)
  case first =>
    refine wp_region_noPanic ?_
    refine Ord.region_M (S := fun W => (Below w.heap.size w W ∧ Blk W w.heap.size 28 s.arr ∧ Blk W (w.heap.size + 1) 48 #[.int .i64 x, .int .i64 y, .int .i64 wd, .int .i64 ht] ∧ Blk W (w.heap.size + 1 + 1) 58 Fr.zero.arr) ∧ W.cell? ⟨w.heap.size + 1, 2, none⟩ = some (.int .i64 wd)) 12 (.one 0 true (.one 1 true (.one 2 true (.one 4 true (.one 5 true (.one 6 true (.one 8 true (.two 3 (.two 7 (.two 9 (.one 10 true (.one 11 false (.one 12 false .nil))) 11 (.one 9 false (.one 10 true (.one 12 false .nil)))) 11 (.one 7 false (.one 9 false (.one 10 true (.one 12 false .nil))))) 11 (.one 3 false (.one 7 false (.one 9 false (.one 10 true (.one 12 false .nil))))))))))))) (by kernel_rfl) (by kernel_rfl) (by kernel_rfl) (by kernel_rfl) (by decide) (fun _ _ _ _ _ h => h) (hS0' _ ⟨hI.1.drew, hI.2.1.drew, hI.2.2.1.drew, hI.2.2.2.drew⟩) (fun hS0 => ?_)
    simp only [Ord.layT, List.getElem?_cons_zero, List.getElem?_cons_succ]
    (refine Ord.takeM (yieldsIf_load_mid rfl _ _ rfl w.heap.size 0 rfl _ _ (fun w' h => h.1.2.1.range) Try.underlying28 rfl (by simpa using info_style' s)) ?_; (try simp only [Act.put, List.setIfInBounds_toArray, List.set_cons_zero, List.set_cons_succ]))
    (refine Ord.takeM (v := ?_) (Or.inl ⟨rfl, ?_⟩) ?_; rotate_left; (intro w hSw; (try dsimp only at hSw); go_simp; try (with_reducible rfl)); (try simp only [Act.put, List.setIfInBounds_toArray, List.set_cons_zero, List.set_cons_succ]))
    (refine Ord.takeM (v := ?_) (Or.inl ⟨rfl, ?_⟩) ?_; rotate_left; (intro w hSw; (try dsimp only at hSw); go_simp; try (with_reducible rfl)); (try simp only [Act.put, List.setIfInBounds_toArray, List.set_cons_zero, List.set_cons_succ]))
    (refine Ord.takeM (yieldsIf_load_mid rfl _ _ rfl w.heap.size 0 rfl _ _ (fun w' h => h.1.2.1.range) Try.underlying28 rfl (by simpa using info_style' s)) ?_; (try simp only [Act.put, List.setIfInBounds_toArray, List.set_cons_zero, List.set_cons_succ]))
    (refine Ord.takeM (v := ?_) (Or.inl ⟨rfl, ?_⟩) ?_; rotate_left; (intro w hSw; (try dsimp only at hSw); go_simp; try (with_reducible rfl)); (try simp only [Act.put, List.setIfInBounds_toArray, List.set_cons_zero, List.set_cons_succ]))
    (refine Ord.takeM (v := ?_) (Or.inl ⟨rfl, ?_⟩) ?_; rotate_left; (intro w hSw; (try dsimp only at hSw); go_simp; try (with_reducible rfl)); (try simp only [Act.put, List.setIfInBounds_toArray, List.set_cons_zero, List.set_cons_succ]))
    (refine Ord.takeM (yieldsIf_load_mid rfl _ _ rfl w.heap.size 0 rfl _ _ (fun w' h => h.1.2.1.range) Try.underlying28 rfl (by simpa using info_style' s)) ?_; (try simp only [Act.put, List.setIfInBounds_toArray, List.set_cons_zero, List.set_cons_succ]))
    refine Ord.twoM rfl rfl rfl rfl (fun K hK => ?_) (fun K hK => ?_)
    · go_simp
      refine (ref_Margin s wd _).mono ?_
      rintro e v1 ⟨rfl, hbq⟩
      have hS1 := hS0' v1 ⟨hS0.1.1.trans (hbq.mono hS0.1.1.size), hS0.1.2.1.below hbq hS0.1.2.1.lt, hS0.1.2.2.1.below hbq hS0.1.2.2.1.lt, hS0.1.2.2.2.below hbq hS0.1.2.2.2.lt⟩
      go_wp2_with fail
      refine hK.out _ _ hS1 (fun _ => ?_)
      clear hK K hbq hS0
      (try simp only [Act.put, List.setIfInBounds_toArray, List.set_cons_zero, List.set_cons_succ])
      refine Ord.twoM rfl rfl rfl rfl (fun K hK => ?_) (fun K hK => ?_)
      · go_simp
        refine (ref_Padding s wd _).mono ?_
        rintro e v2 ⟨rfl, hbq⟩
        have hS2 := hS0' v2 ⟨hS1.1.1.trans (hbq.mono hS1.1.1.size), hS1.1.2.1.below hbq hS1.1.2.1.lt, hS1.1.2.2.1.below hbq hS1.1.2.2.1.lt, hS1.1.2.2.2.below hbq hS1.1.2.2.2.lt⟩
        go_wp2_with fail
        refine hK.out _ _ hS2 (fun _ => ?_)
        clear hK K hbq hS1
        (try simp only [Act.put, List.setIfInBounds_toArray, List.set_cons_zero, List.set_cons_succ])
        refine Ord.twoM rfl rfl rfl rfl (fun K hK => ?_) (fun K hK => ?_)
        · go_simp
          refine (ref_Border s _).mono ?_
          rintro e v3 ⟨rfl, hbq⟩
          have hS3 := hS0' v3 ⟨hS2.1.1.trans (hbq.mono hS2.1.1.size), hS2.1.2.1.below hbq hS2.1.2.1.lt, hS2.1.2.2.1.below hbq hS2.1.2.2.1.lt, hS2.1.2.2.2.below hbq hS2.1.2.2.2.lt⟩
          go_wp2_with fail
          refine hK.out _ _ hS3 (fun _ => ?_)
          clear hK K hbq hS2
          (try simp only [Act.put, List.setIfInBounds_toArray, List.set_cons_zero, List.set_cons_succ])
          simp only [Sd.arr]
          (refine Ord.takeM (v := ?_) (Or.inl ⟨rfl, ?_⟩) ?_; rotate_left; (intro w hSw; (try dsimp only at hSw); go_simp; try (with_reducible rfl)); (try simp only [Act.put, List.setIfInBounds_toArray, List.set_cons_zero, List.set_cons_succ]))
          refine Ord.aloneM rfl rfl (fun K hK => ?_)
          go_simp
          have hS4 := hS0' ((v3).alloc (.cells Fr.zero.arr 58)) ⟨hS3.1.1.alloc hS3.1.1.size _, hS3.1.2.1.alloc _, hS3.1.2.2.1.alloc _, hS3.1.2.2.2.alloc _⟩
          have hZ : Blk ((v3).alloc (.cells Fr.zero.arr 58)) v3.heap.size 58 Fr.zero.arr := Blk.new (v3) 58 Fr.zero.arr
          have hlt : w.heap.size + 1 + 1 < v3.heap.size := hS3.1.2.2.2.lt
          refine hK.out _ _ hS4 (fun _ => ?_)
          clear hK K hS3
          (try simp only [Act.put, List.setIfInBounds_toArray, List.set_cons_zero, List.set_cons_succ])
          generalize v3.heap.size = g at *
          refine Ord.lastM rfl rfl (fun K hK => ?_)
          refine wp_store_row 58 _ _ rfl g (s.rframed wd).arr rfl rfl 58 Fr.zero.arr hZ rfl (info_rf _) (frame_one _) ?_
          intro w9 hFr hc
          have h9 : Ra w w9 s x y wd ht Fr.zero (s.rframed wd) g := ⟨hS4.1.1.trans (hc.below (by omega)), hlt, hS4.1.2.1.chg hc (by omega), hS4.1.2.2.1.chg hc (by omega), hS4.1.2.2.2.chg hc (by omega), hFr⟩
          (try simp only [Act.put, List.setIfInBounds_toArray, List.set_cons_zero, List.set_cons_succ])
          refine hK.out _ _ ?_
          clear hK K hS4 hc hlt hI hS0'
          refine Ord.doneM (NoPanic.normal ?_)
          go_wp2_with fail
          go_meet
          exact ⟨g, rfl, h9⟩
        · go_simp
          have hS3 := hS0' ((v2).alloc (.cells Fr.zero.arr 58)) ⟨hS2.1.1.alloc hS2.1.1.size _, hS2.1.2.1.alloc _, hS2.1.2.2.1.alloc _, hS2.1.2.2.2.alloc _⟩
          have hZ : Blk ((v2).alloc (.cells Fr.zero.arr 58)) v2.heap.size 58 Fr.zero.arr := Blk.new (v2) 58 Fr.zero.arr
          have hlt : w.heap.size + 1 + 1 < v2.heap.size := hS2.1.2.2.2.lt
          refine hK.out _ _ hS3 (fun _ => ?_)
          clear hK K hS2
          (try simp only [Act.put, List.setIfInBounds_toArray, List.set_cons_zero, List.set_cons_succ])
          generalize v2.heap.size = g at *
          refine Ord.aloneM rfl rfl (fun K hK => ?_)
          go_simp
          refine (ref_Border s _).mono ?_
          rintro e v4 ⟨rfl, hbq⟩
          have hS4 := hS0' v4 ⟨hS3.1.1.trans (hbq.mono hS3.1.1.size), hS3.1.2.1.below hbq hS3.1.2.1.lt, hS3.1.2.2.1.below hbq hS3.1.2.2.1.lt, hS3.1.2.2.2.below hbq hS3.1.2.2.2.lt⟩
          replace hZ := hZ.below hbq hZ.lt
          go_wp2_with fail
          refine hK.out _ _ hS4 (fun _ => ?_)
          clear hK K hbq hS3
          (try simp only [Act.put, List.setIfInBounds_toArray, List.set_cons_zero, List.set_cons_succ])
          simp only [Sd.arr]
          (refine Ord.takeM (v := ?_) (Or.inl ⟨rfl, ?_⟩) ?_; rotate_left; (intro w hSw; (try dsimp only at hSw); go_simp; try (with_reducible rfl)); (try simp only [Act.put, List.setIfInBounds_toArray, List.set_cons_zero, List.set_cons_succ]))
          refine Ord.lastM rfl rfl (fun K hK => ?_)
          refine wp_store_row 58 _ _ rfl g (s.rframed wd).arr rfl rfl 58 Fr.zero.arr hZ rfl (info_rf _) (frame_one _) ?_
          intro w9 hFr hc
          have h9 : Ra w w9 s x y wd ht Fr.zero (s.rframed wd) g := ⟨hS4.1.1.trans (hc.below (by omega)), hlt, hS4.1.2.1.chg hc (by omega), hS4.1.2.2.1.chg hc (by omega), hS4.1.2.2.2.chg hc (by omega), hFr⟩
          (try simp only [Act.put, List.setIfInBounds_toArray, List.set_cons_zero, List.set_cons_succ])
          refine hK.out _ _ ?_
          clear hK K hS4 hc hlt hI hS0'
          refine Ord.doneM (NoPanic.normal ?_)
          go_wp2_with fail
          go_meet
          exact ⟨g, rfl, h9⟩
      · go_simp
        have hS2 := hS0' ((v1).alloc (.cells Fr.zero.arr 58)) ⟨hS1.1.1.alloc hS1.1.1.size _, hS1.1.2.1.alloc _, hS1.1.2.2.1.alloc _, hS1.1.2.2.2.alloc _⟩
        have hZ : Blk ((v1).alloc (.cells Fr.zero.arr 58)) v1.heap.size 58 Fr.zero.arr := Blk.new (v1) 58 Fr.zero.arr
        have hlt : w.heap.size + 1 + 1 < v1.heap.size := hS1.1.2.2.2.lt
        refine hK.out _ _ hS2 (fun _ => ?_)
        clear hK K hS1
        (try simp only [Act.put, List.setIfInBounds_toArray, List.set_cons_zero, List.set_cons_succ])
        generalize v1.heap.size = g at *
        refine Ord.aloneM rfl rfl (fun K hK => ?_)
        go_simp
        refine (ref_Padding s wd _).mono ?_
        rintro e v3 ⟨rfl, hbq⟩
        have hS3 := hS0' v3 ⟨hS2.1.1.trans (hbq.mono hS2.1.1.size), hS2.1.2.1.below hbq hS2.1.2.1.lt, hS2.1.2.2.1.below hbq hS2.1.2.2.1.lt, hS2.1.2.2.2.below hbq hS2.1.2.2.2.lt⟩
        replace hZ := hZ.below hbq hZ.lt
        go_wp2_with fail
        refine hK.out _ _ hS3 (fun _ => ?_)
        clear hK K hbq hS2
        (try simp only [Act.put, List.setIfInBounds_toArray, List.set_cons_zero, List.set_cons_succ])
        refine Ord.aloneM rfl rfl (fun K hK => ?_)
        go_simp
        refine (ref_Border s _).mono ?_
        rintro e v4 ⟨rfl, hbq⟩
        have hS4 := hS0' v4 ⟨hS3.1.1.trans (hbq.mono hS3.1.1.size), hS3.1.2.1.below hbq hS3.1.2.1.lt, hS3.1.2.2.1.below hbq hS3.1.2.2.1.lt, hS3.1.2.2.2.below hbq hS3.1.2.2.2.lt⟩
        replace hZ := hZ.below hbq hZ.lt
        go_wp2_with fail
        refine hK.out _ _ hS4 (fun _ => ?_)
        clear hK K hbq hS3
        (try simp only [Act.put, List.setIfInBounds_toArray, List.set_cons_zero, List.set_cons_succ])
        simp only [Sd.arr]
        (refine Ord.takeM (v := ?_) (Or.inl ⟨rfl, ?_⟩) ?_; rotate_left; (intro w hSw; (try dsimp only at hSw); go_simp; try (with_reducible rfl)); (try simp only [Act.put, List.setIfInBounds_toArray, List.set_cons_zero, List.set_cons_succ]))
        refine Ord.lastM rfl rfl (fun K hK => ?_)
        refine wp_store_row 58 _ _ rfl g (s.rframed wd).arr rfl rfl 58 Fr.zero.arr hZ rfl (info_rf _) (frame_one _) ?_
        intro w9 hFr hc
        have h9 : Ra w w9 s x y wd ht Fr.zero (s.rframed wd) g := ⟨hS4.1.1.trans (hc.below (by omega)), hlt, hS4.1.2.1.chg hc (by omega), hS4.1.2.2.1.chg hc (by omega), hS4.1.2.2.2.chg hc (by omega), hFr⟩
        (try simp only [Act.put, List.setIfInBounds_toArray, List.set_cons_zero, List.set_cons_succ])
        refine hK.out _ _ ?_
        clear hK K hS4 hc hlt hI hS0'
        refine Ord.doneM (NoPanic.normal ?_)
        go_wp2_with fail
        go_meet
        exact ⟨g, rfl, h9⟩
    · go_simp
      have hS1 := hS0' ((w2.drew).alloc (.cells Fr.zero.arr 58)) ⟨hS0.1.1.alloc hS0.1.1.size _, hS0.1.2.1.alloc _, hS0.1.2.2.1.alloc _, hS0.1.2.2.2.alloc _⟩
      have hZ : Blk ((w2.drew).alloc (.cells Fr.zero.arr 58)) w2.heap.size 58 Fr.zero.arr := Blk.new (w2.drew) 58 Fr.zero.arr
      have hlt : w.heap.size + 1 + 1 < w2.heap.size := hS0.1.2.2.2.lt
      refine hK.out _ _ hS1 (fun _ => ?_)
      clear hK K hS0
      (try simp only [Act.put, List.setIfInBounds_toArray, List.set_cons_zero, List.set_cons_succ])
      generalize w2.heap.size = g at *
      refine Ord.aloneM rfl rfl (fun K hK => ?_)
      go_simp
      refine (ref_Margin s wd _).mono ?_
      rintro e v2 ⟨rfl, hbq⟩
      have hS2 := hS0' v2 ⟨hS1.1.1.trans (hbq.mono hS1.1.1.size), hS1.1.2.1.below hbq hS1.1.2.1.lt, hS1.1.2.2.1.below hbq hS1.1.2.2.1.lt, hS1.1.2.2.2.below hbq hS1.1.2.2.2.lt⟩
      replace hZ := hZ.below hbq hZ.lt
      go_wp2_with fail
      refine hK.out _ _ hS2 (fun _ => ?_)
      clear hK K hbq hS1
      (try simp only [Act.put, List.setIfInBounds_toArray, List.set_cons_zero, List.set_cons_succ])
      refine Ord.aloneM rfl rfl (fun K hK => ?_)
      go_simp
      refine (ref_Padding s wd _).mono ?_
      rintro e v3 ⟨rfl, hbq⟩
      have hS3 := hS0' v3 ⟨hS2.1.1.trans (hbq.mono hS2.1.1.size), hS2.1.2.1.below hbq hS2.1.2.1.lt, hS2.1.2.2.1.below hbq hS2.1.2.2.1.lt, hS2.1.2.2.2.below hbq hS2.1.2.2.2.lt⟩
      replace hZ := hZ.below hbq hZ.lt
      go_wp2_with fail
      refine hK.out _ _ hS3 (fun _ => ?_)
      clear hK K hbq hS2
      (try simp only [Act.put, List.setIfInBounds_toArray, List.set_cons_zero, List.set_cons_succ])
      refine Ord.aloneM rfl rfl (fun K hK => ?_)
      go_simp
      refine (ref_Border s _).mono ?_
      rintro e v4 ⟨rfl, hbq⟩
      have hS4 := hS0' v4 ⟨hS3.1.1.trans (hbq.mono hS3.1.1.size), hS3.1.2.1.below hbq hS3.1.2.1.lt, hS3.1.2.2.1.below hbq hS3.1.2.2.1.lt, hS3.1.2.2.2.below hbq hS3.1.2.2.2.lt⟩
      replace hZ := hZ.below hbq hZ.lt
      go_wp2_with fail
      refine hK.out _ _ hS4 (fun _ => ?_)
      clear hK K hbq hS3
      (try simp only [Act.put, List.setIfInBounds_toArray, List.set_cons_zero, List.set_cons_succ])
      simp only [Sd.arr]
      (refine Ord.takeM (v := ?_) (Or.inl ⟨rfl, ?_⟩) ?_; rotate_left; (intro w hSw; (try dsimp only at hSw); go_simp; try (with_reducible rfl)); (try simp only [Act.put, List.setIfInBounds_toArray, List.set_cons_zero, List.set_cons_succ]))
      refine Ord.lastM rfl rfl (fun K hK => ?_)
      refine wp_store_row 58 _ _ rfl g (s.rframed wd).arr rfl rfl 58 Fr.zero.arr hZ rfl (info_rf _) (frame_one _) ?_
      intro w9 hFr hc
      have h9 : Ra w w9 s x y wd ht Fr.zero (s.rframed wd) g := ⟨hS4.1.1.trans (hc.below (by omega)), hlt, hS4.1.2.1.chg hc (by omega), hS4.1.2.2.1.chg hc (by omega), hS4.1.2.2.2.chg hc (by omega), hFr⟩
      (try simp only [Act.put, List.setIfInBounds_toArray, List.set_cons_zero, List.set_cons_succ])
      refine hK.out _ _ ?_
      clear hK K hS4 hc hlt hI hS0'
      refine Ord.doneM (NoPanic.normal ?_)
      go_wp2_with fail
      go_meet
      exact ⟨g, rfl, h9⟩
  case rest =>
  clear hI hS0'
  obtain ⟨g, rfl, h⟩ := hcut
  go_wp2_with (first | (first | refine stop_load 28 _ rfl rfl ?_ | refine stop_store 28 _ _ rfl rfl ?_) | (first | refine stop_load 58 _ rfl rfl ?_ | refine stop_store 58 _ _ rfl rfl ?_))
  refine ⟨?_⟩
  refine wl_load rfl 58 _ rfl _ rfl _ _ _ h.frm rfl rfl (info_rf _) ?_
  (try simp only [Act.put, List.setIfInBounds_toArray, List.set_cons_zero, List.set_cons_succ])
  go_wp2_with (first | (first | refine stop_load 28 _ rfl rfl ?_ | refine stop_store 28 _ _ rfl rfl ?_) | (first | refine stop_load 58 _ rfl rfl ?_ | refine stop_store 58 _ _ rfl rfl ?_))
  refine (ref_Inner _ _).mono ?_
  rintro e w7 ⟨rfl, hbq⟩
  replace h := h.on hbq
  clear hbq
  have c4 : w7.cell? ⟨w.heap.size, 4, none⟩ = some (.int .i64 s.wk) := h.sty.cell 4
  have c5 : w7.cell? ⟨w.heap.size, 5, none⟩ = some (.int .i64 s.wn) := h.sty.cell 5
  have cW : w7.cell? ⟨w.heap.size + 1, 2, none⟩ = some (.int .i64 wd) := h.rct.cell 2
  go_wp2_with fail
  refine (ref_Length s.wk s.wn wd _).mono ?_
  rintro e w8 ⟨rfl, hbq⟩
  replace h := h.on hbq
  clear hbq c4 c5 cW
  obtain ⟨ga, ha⟩ : ∃ b, given s.o3k = b := ⟨_, rfl⟩
  obtain ⟨gb, hb⟩ : ∃ b, given s.o1k = b := ⟨_, rfl⟩
  obtain ⟨gc, hc⟩ : ∃ b, given s.wk = b := ⟨_, rfl⟩
  rw [ha, hb, hc]
  replace ha := hid ha
  replace hb := hid hb
  replace hc := hid hc
  go_upto_block 0 with (first | (first | refine stop_load 28 _ rfl rfl ?_ | refine stop_store 28 _ _ rfl rfl ?_) | (first | refine stop_load 58 _ rfl rfl ?_ | refine stop_store 58 _ _ rfl rfl ?_))
  go_cut [] (fun wx => Ra w wx s x y wd ht Fr.zero (s.raframe wd least most) g)
  case first =>
    cases gc with
    | true =>
      have f12 : w8.frozen? ⟨g, 12, none⟩ = false := h.frm.free 12
      have c12 : w8.cell? ⟨g, 12, none⟩ = some (.int .i64 0) := h.frm.cell 12
      go_wp2_with (first | (first | refine stop_load 28 _ rfl rfl ?_ | refine stop_store 28 _ _ rfl rfl ?_) | (first | refine stop_load 58 _ rfl rfl ?_ | refine stop_store 58 _ _ rfl rfl ?_) | (go_at_call 56; refine (ref_Sub _ _ _).mono ?_; rintro e w' ⟨rfl, rfl⟩) | (go_at_call 55; refine (ref_up _ _).mono ?_; rintro e w' ⟨rfl, rfl⟩))
      go_meet
      have e : s.raframe wd least most = { s.rframed wd with w := max (len s.wk s.wn wd) 0 } := by simp [Sty.raframe, Sty.raw, hc.out]
      rw [e]
      exact h.put (frame_put12 h.frm _)
    | false =>
      cases ga with
      | true =>
        cases gb with
        | true =>
          go_upto_region 15 with (first | (first | refine stop_load 28 _ rfl rfl ?_ | refine stop_store 28 _ _ rfl rfl ?_) | (first | refine stop_load 58 _ rfl rfl ?_ | refine stop_store 58 _ _ rfl rfl ?_))
          have hS : ∀ W, Ra w W s x y wd ht Fr.zero (s.rframed wd) g → (fun W => Ra w W s x y wd ht Fr.zero (s.rframed wd) g ∧ W.cell? ⟨w.heap.size + 1, 2, none⟩ = some (.int .i64 wd) ∧ W.cell? ⟨g, 3, none⟩ = some (.int .i64 (s.rframed wd).m.l) ∧ W.cell? ⟨g, 1, none⟩ = some (.int .i64 (s.rframed wd).m.r)) W := fun W h => ⟨h, h.rct.cell 2, h.frm.cell 3, h.frm.cell 1⟩
          refine wp_region_noPanic ?_
          refine Ord.region_M (S := fun W => Ra w W s x y wd ht Fr.zero (s.rframed wd) g ∧ W.cell? ⟨w.heap.size + 1, 2, none⟩ = some (.int .i64 wd) ∧ W.cell? ⟨g, 3, none⟩ = some (.int .i64 (s.rframed wd).m.l) ∧ W.cell? ⟨g, 1, none⟩ = some (.int .i64 (s.rframed wd).m.r)) 16 (.one 0 true (.one 1 true (.one 2 true (.one 3 true (.one 4 true (.one 5 true (.one 6 true (.one 7 true (.one 8 true (.one 9 true (.one 10 true (.one 11 false (.one 12 false (.one 13 false (.one 14 false (.one 15 true (.one 16 false (.nil)))))))))))))))))) (by kernel_rfl) (by kernel_rfl) (by kernel_rfl) (by kernel_rfl) (by decide) (fun _ _ _ _ _ h => h) (hS _ h.drew) (fun hS0 => ?_)
          simp only [Ord.layT, List.getElem?_cons_zero, List.getElem?_cons_succ]
          (refine Ord.takeM (v := ?_) (Or.inl ⟨rfl, ?_⟩) ?_; rotate_left; (intro w hSw; (try dsimp only at hSw); go_simp; try (with_reducible rfl)); (try simp only [Act.put, List.setIfInBounds_toArray, List.set_cons_zero, List.set_cons_succ]))
          (refine Ord.takeM (v := ?_) (Or.inl ⟨rfl, ?_⟩) ?_; rotate_left; (intro w hSw; (try dsimp only at hSw); go_simp; try (with_reducible rfl)); (try simp only [Act.put, List.setIfInBounds_toArray, List.set_cons_zero, List.set_cons_succ]))
          (refine Ord.takeM (v := ?_) (Or.inl ⟨rfl, ?_⟩) ?_; rotate_left; (intro w hSw; (try dsimp only at hSw); go_simp; try (with_reducible rfl)); (try simp only [Act.put, List.setIfInBounds_toArray, List.set_cons_zero, List.set_cons_succ]))
          (refine Ord.takeM (v := ?_) (Or.inl ⟨rfl, ?_⟩) ?_; rotate_left; (intro w hSw; (try dsimp only at hSw); go_simp; try (with_reducible rfl)); (try simp only [Act.put, List.setIfInBounds_toArray, List.set_cons_zero, List.set_cons_succ]))
          (refine Ord.takeM (v := ?_) (Or.inl ⟨rfl, ?_⟩) ?_; rotate_left; (intro w hSw; (try dsimp only at hSw); go_simp; try (with_reducible rfl)); (try simp only [Act.put, List.setIfInBounds_toArray, List.set_cons_zero, List.set_cons_succ]))
          (refine Ord.takeM (v := ?_) (Or.inl ⟨rfl, ?_⟩) ?_; rotate_left; (intro w hSw; (try dsimp only at hSw); go_simp; try (with_reducible rfl)); (try simp only [Act.put, List.setIfInBounds_toArray, List.set_cons_zero, List.set_cons_succ]))
          (refine Ord.takeM (v := ?_) (Or.inl ⟨rfl, ?_⟩) ?_; rotate_left; (intro w hSw; (try dsimp only at hSw); go_simp; try (with_reducible rfl)); (try simp only [Act.put, List.setIfInBounds_toArray, List.set_cons_zero, List.set_cons_succ]))
          (refine Ord.takeM (v := ?_) (Or.inl ⟨rfl, ?_⟩) ?_; rotate_left; (intro w hSw; (try dsimp only at hSw); go_simp; try (with_reducible rfl)); (try simp only [Act.put, List.setIfInBounds_toArray, List.set_cons_zero, List.set_cons_succ]))
          (refine Ord.takeM (v := ?_) (Or.inl ⟨rfl, ?_⟩) ?_; rotate_left; (intro w hSw; (try dsimp only at hSw); go_simp; try (with_reducible rfl)); (try simp only [Act.put, List.setIfInBounds_toArray, List.set_cons_zero, List.set_cons_succ]))
          (refine Ord.takeM (v := ?_) (Or.inl ⟨rfl, ?_⟩) ?_; rotate_left; (intro w hSw; (try dsimp only at hSw); go_simp; try (with_reducible rfl)); (try simp only [Act.put, List.setIfInBounds_toArray, List.set_cons_zero, List.set_cons_succ]))
          (refine Ord.takeM (v := ?_) (Or.inl ⟨rfl, ?_⟩) ?_; rotate_left; (intro w hSw; (try dsimp only at hSw); go_simp; try (with_reducible rfl)); (try simp only [Act.put, List.setIfInBounds_toArray, List.set_cons_zero, List.set_cons_succ]))
          refine Ord.aloneM rfl rfl (fun K hK => ?_)
          go_simp
          have hS1 := hS (w8.alloc (.cells #[.int .i64 (len s.o3k s.o3n wd), .int .i64 (len s.o1k s.o1n wd), .int .i64 (s.rframed wd).m.l, .int .i64 (s.rframed wd).m.r, .int .i64 (s.rframed wd).racross] 2)).drew (h.on (by go_grown))
          refine hK.out _ _ hS1 (fun _ => ?_)
          clear hK K hS0
          (try simp only [Act.put, List.setIfInBounds_toArray, List.set_cons_zero, List.set_cons_succ])
          refine Ord.aloneM rfl rfl (fun K hK => ?_)
          go_simp
          refine (rsum5 (len s.o3k s.o3n wd) (len s.o1k s.o1n wd) (s.rframed wd).m.l (s.rframed wd).m.r (s.rframed wd).racross _ _ (Blk.new w8 2 #[.int .i64 (len s.o3k s.o3n wd), .int .i64 (len s.o1k s.o1n wd), .int .i64 (s.rframed wd).m.l, .int .i64 (s.rframed wd).m.r, .int .i64 (s.rframed wd).racross]).drew).mono ?_
          rintro e w' ⟨rfl, rfl⟩
          go_wp2_with fail
          refine hK.out _ _ hS1 (fun _ => ?_)
          clear hK K
          (try simp only [Act.put, List.setIfInBounds_toArray, List.set_cons_zero, List.set_cons_succ])
          refine Ord.aloneM rfl rfl (fun K hK => ?_)
          go_simp
          refine (ref_Sub _ _ _).mono ?_
          rintro e w' ⟨rfl, rfl⟩
          go_wp2_with fail
          refine hK.out _ _ hS1 (fun _ => ?_)
          clear hK K
          (try simp only [Act.put, List.setIfInBounds_toArray, List.set_cons_zero, List.set_cons_succ])
          refine Ord.aloneM rfl rfl (fun K hK => ?_)
          go_simp
          refine (ref_up _ _).mono ?_
          rintro e w' ⟨rfl, rfl⟩
          go_wp2_with fail
          refine hK.out _ _ hS1 (fun _ => ?_)
          clear hK K
          (try simp only [Act.put, List.setIfInBounds_toArray, List.set_cons_zero, List.set_cons_succ])
          (refine Ord.takeM (v := ?_) (Or.inl ⟨rfl, ?_⟩) ?_; rotate_left; (intro w hSw; (try dsimp only at hSw); go_simp; try (with_reducible rfl)); (try simp only [Act.put, List.setIfInBounds_toArray, List.set_cons_zero, List.set_cons_succ]))
          obtain ⟨w', hw'⟩ : ∃ w', w' = (w8.alloc (.cells #[.int .i64 (len s.o3k s.o3n wd), .int .i64 (len s.o1k s.o1n wd), .int .i64 (s.rframed wd).m.l, .int .i64 (s.rframed wd).m.r, .int .i64 (s.rframed wd).racross] 2)).drew := ⟨_, rfl⟩
          rw [← hw'] at hS1 ⊢
          clear hw'
          obtain ⟨h1, -⟩ := hS1
          have f12 : w'.frozen? ⟨g, 12, none⟩ = false := h1.frm.free 12
          have c12 : w'.cell? ⟨g, 12, none⟩ = some (.int .i64 0) := h1.frm.cell 12
          refine Ord.lastM rfl rfl (fun K hK => ?_)
          go_simp
          refine hK.out _ _ ?_
          clear hK K
          refine Ord.doneM (NoPanic.normal ?_)
          replace h := h1.put (frame_put12 h1.frm (max (sub wd (sums [s.left wd, s.right wd, (s.rframed wd).m.l, (s.rframed wd).m.r, (s.rframed wd).racross] 5)) 0))
          clear f12 c12 h1 hS
          go_wp2_with (first | (first | refine stop_load 28 _ rfl rfl ?_ | refine stop_store 28 _ _ rfl rfl ?_) | (first | refine stop_load 58 _ rfl rfl ?_ | refine stop_store 58 _ _ rfl rfl ?_))
          go_meet
          have e : s.raframe wd least most = { s.rframed wd with w := max (sub wd (sums [s.left wd, s.right wd, (s.rframed wd).m.l, (s.rframed wd).m.r, (s.rframed wd).racross] 5)) 0 } := by simp [Sty.raframe, Sty.raw, hc.out, ha.out, hb.out]
          rw [e]
          exact h
        | false =>
          have er : s.rroom wd = sub wd (len s.o3k s.o3n wd) := by simp [Sty.rroom, ha.out, hb.out, Sty.left]
          replace er := hid er
          have d2 : w8.cell? ⟨w.heap.size + 1, 2, none⟩ = some (.int .i64 wd) := h.rct.cell 2
          go_upto_region 11 with (first | (first | refine stop_load 28 _ rfl rfl ?_ | refine stop_store 28 _ _ rfl rfl ?_) | (first | refine stop_load 58 _ rfl rfl ?_ | refine stop_store 58 _ _ rfl rfl ?_) | (go_at_call 56; refine (ref_Sub _ _ _).mono ?_; rintro e w' ⟨rfl, rfl⟩) | (go_at_call 55; refine (ref_up _ _).mono ?_; rintro e w' ⟨rfl, rfl⟩))
          clear d2
          have hS : ∀ W, Ra w W s x y wd ht Fr.zero (s.rframed wd) g → (fun W => Ra w W s x y wd ht Fr.zero (s.rframed wd) g) W := fun W h => h
          refine wp_region_noPanic ?_
          refine Ord.region_M (S := fun W => Ra w W s x y wd ht Fr.zero (s.rframed wd) g) 7 (.one 0 true (.one 1 true (.one 3 true (.one 4 true (.one 2 false (.one 5 false (.one 6 true (.one 7 false (.nil))))))))) (by kernel_rfl) (by kernel_rfl) (by kernel_rfl) (by kernel_rfl) (by decide) (fun _ _ _ _ _ h => h) (hS _ h.drew) (fun hS0 => ?_)
          simp only [Ord.layT, List.getElem?_cons_zero, List.getElem?_cons_succ]
          (refine Ord.takeM (yieldsIf_load_mid rfl _ _ rfl w.heap.size 0 rfl _ _ (fun w' h => h.sty.range) Try.underlying28 rfl (by simpa using info_style' s)) ?_; (try simp only [Act.put, List.setIfInBounds_toArray, List.set_cons_zero, List.set_cons_succ]))
          (refine Ord.takeM (v := ?_) (Or.inl ⟨rfl, ?_⟩) ?_; rotate_left; (intro w hSw; (try dsimp only at hSw); go_simp; try (with_reducible rfl)); (try simp only [Act.put, List.setIfInBounds_toArray, List.set_cons_zero, List.set_cons_succ]))
          (refine Ord.takeM (v := ?_) (Or.inl ⟨rfl, ?_⟩) ?_; rotate_left; (intro w hSw; (try dsimp only at hSw); go_simp; try (with_reducible rfl)); (try simp only [Act.put, List.setIfInBounds_toArray, List.set_cons_zero, List.set_cons_succ]))
          (refine Ord.takeM (v := ?_) (Or.inl ⟨rfl, ?_⟩) ?_; rotate_left; (intro w hSw; (try dsimp only at hSw); go_simp; try (with_reducible rfl)); (try simp only [Act.put, List.setIfInBounds_toArray, List.set_cons_zero, List.set_cons_succ]))
          refine Ord.aloneM rfl rfl (fun K hK => ?_)
          go_simp
          refine (ref_up _ _).mono ?_
          rintro e w' ⟨rfl, rfl⟩
          go_wp2_with fail
          refine hK.out _ _ hS0 (fun _ => ?_)
          clear hK K
          (try simp only [Act.put, List.setIfInBounds_toArray, List.set_cons_zero, List.set_cons_succ])
          refine Ord.aloneM rfl rfl (fun K hK => ?_)
          go_simp
          refine (ref_fit s _ _ _ _).mono ?_
          rintro e w' ⟨rfl, hbq⟩
          have hS1 := hS w' (hS0.on hbq)
          go_wp2_with fail
          refine hK.out _ _ hS1 (fun _ => ?_)
          clear hK K hbq hS0
          (try simp only [Act.put, List.setIfInBounds_toArray, List.set_cons_zero, List.set_cons_succ])
          (refine Ord.takeM (v := ?_) (Or.inl ⟨rfl, ?_⟩) ?_; rotate_left; (intro w hSw; (try dsimp only at hSw); go_simp; try (with_reducible rfl)); (try simp only [Act.put, List.setIfInBounds_toArray, List.set_cons_zero, List.set_cons_succ]))
          have h1 := hS1
          have f12 : w'.frozen? ⟨g, 12, none⟩ = false := h1.frm.free 12
          have c12 : w'.cell? ⟨g, 12, none⟩ = some (.int .i64 0) := h1.frm.cell 12
          refine Ord.lastM rfl rfl (fun K hK => ?_)
          go_simp
          refine hK.out _ _ ?_
          clear hK K
          refine Ord.doneM (NoPanic.normal ?_)
          replace h := h1.put (frame_put12 h1.frm ((Sty.rfit0 { s with wk := 0, wn := 0 } (max (sub wd (len s.o3k s.o3n wd)) 0) least most).w))
          clear f12 c12 h1 hS
          go_wp2_with (first | (first | refine stop_load 28 _ rfl rfl ?_ | refine stop_store 28 _ _ rfl rfl ?_) | (first | refine stop_load 58 _ rfl rfl ?_ | refine stop_store 58 _ _ rfl rfl ?_))
          go_meet
          have e : s.raframe wd least most = { s.rframed wd with w := (Sty.rfit0 { s with wk := 0, wn := 0 } (max (sub wd (len s.o3k s.o3n wd)) 0) least most).w } := by simp [Sty.raframe, Sty.raw, hc.out, ha.out, hb.out, er.out]
          rw [e]
          exact h
      | false =>
        cases gb with
        | true =>
          have er : s.rroom wd = sub wd (len s.o1k s.o1n wd) := by simp [Sty.rroom, ha.out, hb.out, Sty.right]
          replace er := hid er
          have d2 : w8.cell? ⟨w.heap.size + 1, 2, none⟩ = some (.int .i64 wd) := h.rct.cell 2
          go_upto_region 11 with (first | (first | refine stop_load 28 _ rfl rfl ?_ | refine stop_store 28 _ _ rfl rfl ?_) | (first | refine stop_load 58 _ rfl rfl ?_ | refine stop_store 58 _ _ rfl rfl ?_) | (go_at_call 56; refine (ref_Sub _ _ _).mono ?_; rintro e w' ⟨rfl, rfl⟩) | (go_at_call 55; refine (ref_up _ _).mono ?_; rintro e w' ⟨rfl, rfl⟩))
          clear d2
          have hS : ∀ W, Ra w W s x y wd ht Fr.zero (s.rframed wd) g → (fun W => Ra w W s x y wd ht Fr.zero (s.rframed wd) g) W := fun W h => h
          refine wp_region_noPanic ?_
          refine Ord.region_M (S := fun W => Ra w W s x y wd ht Fr.zero (s.rframed wd) g) 7 (.one 0 true (.one 1 true (.one 3 true (.one 4 true (.one 2 false (.one 5 false (.one 6 true (.one 7 false (.nil))))))))) (by kernel_rfl) (by kernel_rfl) (by kernel_rfl) (by kernel_rfl) (by decide) (fun _ _ _ _ _ h => h) (hS _ h.drew) (fun hS0 => ?_)
          simp only [Ord.layT, List.getElem?_cons_zero, List.getElem?_cons_succ]
          (refine Ord.takeM (yieldsIf_load_mid rfl _ _ rfl w.heap.size 0 rfl _ _ (fun w' h => h.sty.range) Try.underlying28 rfl (by simpa using info_style' s)) ?_; (try simp only [Act.put, List.setIfInBounds_toArray, List.set_cons_zero, List.set_cons_succ]))
          (refine Ord.takeM (v := ?_) (Or.inl ⟨rfl, ?_⟩) ?_; rotate_left; (intro w hSw; (try dsimp only at hSw); go_simp; try (with_reducible rfl)); (try simp only [Act.put, List.setIfInBounds_toArray, List.set_cons_zero, List.set_cons_succ]))
          (refine Ord.takeM (v := ?_) (Or.inl ⟨rfl, ?_⟩) ?_; rotate_left; (intro w hSw; (try dsimp only at hSw); go_simp; try (with_reducible rfl)); (try simp only [Act.put, List.setIfInBounds_toArray, List.set_cons_zero, List.set_cons_succ]))
          (refine Ord.takeM (v := ?_) (Or.inl ⟨rfl, ?_⟩) ?_; rotate_left; (intro w hSw; (try dsimp only at hSw); go_simp; try (with_reducible rfl)); (try simp only [Act.put, List.setIfInBounds_toArray, List.set_cons_zero, List.set_cons_succ]))
          refine Ord.aloneM rfl rfl (fun K hK => ?_)
          go_simp
          refine (ref_up _ _).mono ?_
          rintro e w' ⟨rfl, rfl⟩
          go_wp2_with fail
          refine hK.out _ _ hS0 (fun _ => ?_)
          clear hK K
          (try simp only [Act.put, List.setIfInBounds_toArray, List.set_cons_zero, List.set_cons_succ])
          refine Ord.aloneM rfl rfl (fun K hK => ?_)
          go_simp
          refine (ref_fit s _ _ _ _).mono ?_
          rintro e w' ⟨rfl, hbq⟩
          have hS1 := hS w' (hS0.on hbq)
          go_wp2_with fail
          refine hK.out _ _ hS1 (fun _ => ?_)
          clear hK K hbq hS0
          (try simp only [Act.put, List.setIfInBounds_toArray, List.set_cons_zero, List.set_cons_succ])
          (refine Ord.takeM (v := ?_) (Or.inl ⟨rfl, ?_⟩) ?_; rotate_left; (intro w hSw; (try dsimp only at hSw); go_simp; try (with_reducible rfl)); (try simp only [Act.put, List.setIfInBounds_toArray, List.set_cons_zero, List.set_cons_succ]))
          have h1 := hS1
          have f12 : w'.frozen? ⟨g, 12, none⟩ = false := h1.frm.free 12
          have c12 : w'.cell? ⟨g, 12, none⟩ = some (.int .i64 0) := h1.frm.cell 12
          refine Ord.lastM rfl rfl (fun K hK => ?_)
          go_simp
          refine hK.out _ _ ?_
          clear hK K
          refine Ord.doneM (NoPanic.normal ?_)
          replace h := h1.put (frame_put12 h1.frm ((Sty.rfit0 { s with wk := 0, wn := 0 } (max (sub wd (len s.o1k s.o1n wd)) 0) least most).w))
          clear f12 c12 h1 hS
          go_wp2_with (first | (first | refine stop_load 28 _ rfl rfl ?_ | refine stop_store 28 _ _ rfl rfl ?_) | (first | refine stop_load 58 _ rfl rfl ?_ | refine stop_store 58 _ _ rfl rfl ?_))
          go_meet
          have e : s.raframe wd least most = { s.rframed wd with w := (Sty.rfit0 { s with wk := 0, wn := 0 } (max (sub wd (len s.o1k s.o1n wd)) 0) least most).w } := by simp [Sty.raframe, Sty.raw, hc.out, ha.out, hb.out, er.out]
          rw [e]
          exact h
        | false =>
          have er : s.rroom wd = wd := by simp [Sty.rroom, ha.out, hb.out]
          replace er := hid er
          have d2 : w8.cell? ⟨w.heap.size + 1, 2, none⟩ = some (.int .i64 wd) := h.rct.cell 2
          go_upto_region 11 with (first | (first | refine stop_load 28 _ rfl rfl ?_ | refine stop_store 28 _ _ rfl rfl ?_) | (first | refine stop_load 58 _ rfl rfl ?_ | refine stop_store 58 _ _ rfl rfl ?_) | (go_at_call 56; refine (ref_Sub _ _ _).mono ?_; rintro e w' ⟨rfl, rfl⟩) | (go_at_call 55; refine (ref_up _ _).mono ?_; rintro e w' ⟨rfl, rfl⟩))
          clear d2
          have hS : ∀ W, Ra w W s x y wd ht Fr.zero (s.rframed wd) g → (fun W => Ra w W s x y wd ht Fr.zero (s.rframed wd) g) W := fun W h => h
          refine wp_region_noPanic ?_
          refine Ord.region_M (S := fun W => Ra w W s x y wd ht Fr.zero (s.rframed wd) g) 7 (.one 0 true (.one 1 true (.one 3 true (.one 4 true (.one 2 false (.one 5 false (.one 6 true (.one 7 false (.nil))))))))) (by kernel_rfl) (by kernel_rfl) (by kernel_rfl) (by kernel_rfl) (by decide) (fun _ _ _ _ _ h => h) (hS _ h.drew) (fun hS0 => ?_)
          simp only [Ord.layT, List.getElem?_cons_zero, List.getElem?_cons_succ]
          (refine Ord.takeM (yieldsIf_load_mid rfl _ _ rfl w.heap.size 0 rfl _ _ (fun w' h => h.sty.range) Try.underlying28 rfl (by simpa using info_style' s)) ?_; (try simp only [Act.put, List.setIfInBounds_toArray, List.set_cons_zero, List.set_cons_succ]))
          (refine Ord.takeM (v := ?_) (Or.inl ⟨rfl, ?_⟩) ?_; rotate_left; (intro w hSw; (try dsimp only at hSw); go_simp; try (with_reducible rfl)); (try simp only [Act.put, List.setIfInBounds_toArray, List.set_cons_zero, List.set_cons_succ]))
          (refine Ord.takeM (v := ?_) (Or.inl ⟨rfl, ?_⟩) ?_; rotate_left; (intro w hSw; (try dsimp only at hSw); go_simp; try (with_reducible rfl)); (try simp only [Act.put, List.setIfInBounds_toArray, List.set_cons_zero, List.set_cons_succ]))
          (refine Ord.takeM (v := ?_) (Or.inl ⟨rfl, ?_⟩) ?_; rotate_left; (intro w hSw; (try dsimp only at hSw); go_simp; try (with_reducible rfl)); (try simp only [Act.put, List.setIfInBounds_toArray, List.set_cons_zero, List.set_cons_succ]))
          refine Ord.aloneM rfl rfl (fun K hK => ?_)
          go_simp
          refine (ref_up _ _).mono ?_
          rintro e w' ⟨rfl, rfl⟩
          go_wp2_with fail
          refine hK.out _ _ hS0 (fun _ => ?_)
          clear hK K
          (try simp only [Act.put, List.setIfInBounds_toArray, List.set_cons_zero, List.set_cons_succ])
          refine Ord.aloneM rfl rfl (fun K hK => ?_)
          go_simp
          refine (ref_fit s _ _ _ _).mono ?_
          rintro e w' ⟨rfl, hbq⟩
          have hS1 := hS w' (hS0.on hbq)
          go_wp2_with fail
          refine hK.out _ _ hS1 (fun _ => ?_)
          clear hK K hbq hS0
          (try simp only [Act.put, List.setIfInBounds_toArray, List.set_cons_zero, List.set_cons_succ])
          (refine Ord.takeM (v := ?_) (Or.inl ⟨rfl, ?_⟩) ?_; rotate_left; (intro w hSw; (try dsimp only at hSw); go_simp; try (with_reducible rfl)); (try simp only [Act.put, List.setIfInBounds_toArray, List.set_cons_zero, List.set_cons_succ]))
          have h1 := hS1
          have f12 : w'.frozen? ⟨g, 12, none⟩ = false := h1.frm.free 12
          have c12 : w'.cell? ⟨g, 12, none⟩ = some (.int .i64 0) := h1.frm.cell 12
          refine Ord.lastM rfl rfl (fun K hK => ?_)
          go_simp
          refine hK.out _ _ ?_
          clear hK K
          refine Ord.doneM (NoPanic.normal ?_)
          replace h := h1.put (frame_put12 h1.frm ((Sty.rfit0 { s with wk := 0, wn := 0 } (max (wd) 0) least most).w))
          clear f12 c12 h1 hS
          go_wp2_with (first | (first | refine stop_load 28 _ rfl rfl ?_ | refine stop_store 28 _ _ rfl rfl ?_) | (first | refine stop_load 58 _ rfl rfl ?_ | refine stop_store 58 _ _ rfl rfl ?_))
          go_meet
          have e : s.raframe wd least most = { s.rframed wd with w := (Sty.rfit0 { s with wk := 0, wn := 0 } (max (wd) 0) least most).w } := by simp [Sty.raframe, Sty.raw, hc.out, ha.out, hb.out, er.out]
          rw [e]
          exact h
  case rest =>
    obtain ⟨F, hF⟩ : ∃ F, s.raframe wd least most = F := ⟨_, rfl⟩
    have hI : F.racross = (s.rframed wd).racross := by rw [← hF]; rfl
    clear h
    have h := hcut
    clear hcut
    rw [hF] at h
    replace hF := hid hF
    replace hI := hid hI.symm
    obtain ⟨wq, hwq⟩ : ∃ wq, wq = wc := ⟨_, rfl⟩
    rw [← hwq] at h ⊢
    clear hwq
    cases ga with
    | true =>
      go_upto_region 17 with fail
      have hS : ∀ W, Ra w W s x y wd ht Fr.zero (F) g → (fun W => Ra w W s x y wd ht Fr.zero (F) g ∧ W.cell? ⟨w.heap.size + 1, 0, none⟩ = some (.int .i64 x) ∧ W.cell? ⟨g, 3, none⟩ = some (.int .i64 F.m.l)) W := fun W h => ⟨h, h.rct.cell 0, h.frm.cell 3⟩
      refine wp_region_noPanic ?_
      refine Ord.region_M (S := fun W => Ra w W s x y wd ht Fr.zero (F) g ∧ W.cell? ⟨w.heap.size + 1, 0, none⟩ = some (.int .i64 x) ∧ W.cell? ⟨g, 3, none⟩ = some (.int .i64 F.m.l)) 10 (.one 0 true (.one 1 true (.one 2 true (.one 3 true (.one 4 true (.one 5 true (.one 8 true (.one 6 false (.one 7 false (.one 9 true (.one 10 false (.nil)))))))))))) (by kernel_rfl) (by kernel_rfl) (by kernel_rfl) (by kernel_rfl) (by decide) (fun _ _ _ _ _ h => h) (hS _ h.drew) (fun hS0 => ?_)
      simp only [Ord.layT, List.getElem?_cons_zero, List.getElem?_cons_succ]
      (refine Ord.takeM (v := ?_) (Or.inl ⟨rfl, ?_⟩) ?_; rotate_left; (intro w hSw; (try dsimp only at hSw); go_simp; try (with_reducible rfl)); (try simp only [Act.put, List.setIfInBounds_toArray, List.set_cons_zero, List.set_cons_succ]))
      (refine Ord.takeM (v := ?_) (Or.inl ⟨rfl, ?_⟩) ?_; rotate_left; (intro w hSw; (try dsimp only at hSw); go_simp; try (with_reducible rfl)); (try simp only [Act.put, List.setIfInBounds_toArray, List.set_cons_zero, List.set_cons_succ]))
      (refine Ord.takeM (v := ?_) (Or.inl ⟨rfl, ?_⟩) ?_; rotate_left; (intro w hSw; (try dsimp only at hSw); go_simp; try (with_reducible rfl)); (try simp only [Act.put, List.setIfInBounds_toArray, List.set_cons_zero, List.set_cons_succ]))
      (refine Ord.takeM (v := ?_) (Or.inl ⟨rfl, ?_⟩) ?_; rotate_left; (intro w hSw; (try dsimp only at hSw); go_simp; try (with_reducible rfl)); (try simp only [Act.put, List.setIfInBounds_toArray, List.set_cons_zero, List.set_cons_succ]))
      (refine Ord.takeM (v := ?_) (Or.inl ⟨rfl, ?_⟩) ?_; rotate_left; (intro w hSw; (try dsimp only at hSw); go_simp; try (with_reducible rfl)); (try simp only [Act.put, List.setIfInBounds_toArray, List.set_cons_zero, List.set_cons_succ]))
      (refine Ord.takeM (v := ?_) (Or.inl ⟨rfl, ?_⟩) ?_; rotate_left; (intro w hSw; (try dsimp only at hSw); go_simp; try (with_reducible rfl)); (try simp only [Act.put, List.setIfInBounds_toArray, List.set_cons_zero, List.set_cons_succ]))
      (refine Ord.takeM (yieldsIf_load_mid rfl _ _ rfl g 0 rfl _ _ (fun w' h => h.1.frm.range) Try.underlying58 rfl info_rf') ?_; (try simp only [Act.put, List.setIfInBounds_toArray, List.set_cons_zero, List.set_cons_succ]))
      refine Ord.aloneM rfl rfl (fun K hK => ?_)
      go_simp
      have hS1 := hS (wq.alloc (.cells #[.int .i64 x, .int .i64 (len s.o3k s.o3n wd), .int .i64 F.m.l] 2)).drew (h.on (by go_grown))
      refine hK.out _ _ hS1 (fun _ => ?_)
      clear hK K hS0
      (try simp only [Act.put, List.setIfInBounds_toArray, List.set_cons_zero, List.set_cons_succ])
      refine Ord.aloneM rfl rfl (fun K hK => ?_)
      go_simp
      refine (rsum3 x (len s.o3k s.o3n wd) F.m.l _ _ (Blk.new wq 2 #[.int .i64 x, .int .i64 (len s.o3k s.o3n wd), .int .i64 F.m.l]).drew).mono ?_
      rintro e w' ⟨rfl, rfl⟩
      go_wp2_with fail
      refine hK.out _ _ hS1 (fun _ => ?_)
      clear hK K
      (try simp only [Act.put, List.setIfInBounds_toArray, List.set_cons_zero, List.set_cons_succ])
      (refine Ord.takeM (v := ?_) (Or.inl ⟨rfl, ?_⟩) ?_; rotate_left; (intro w hSw; (try dsimp only at hSw); go_simp; try (with_reducible rfl)); (try simp only [Act.put, List.setIfInBounds_toArray, List.set_cons_zero, List.set_cons_succ]))
      refine Ord.lastM rfl rfl (fun K hK => ?_)
      refine wp_store_row 58 _ _ rfl (w.heap.size + 1 + 1) F.arr rfl rfl 58 Fr.zero.arr hS1.1.res rfl (info_rf _) (frame_one _) ?_
      intro w9 hR hc'
      have hg := hS1.1.below.trans (hc'.below (by omega))
      (try simp only [Act.put, List.setIfInBounds_toArray, List.set_cons_zero, List.set_cons_succ])
      refine hK.out _ _ ?_
      clear hK K hc' hS h hS1
      refine Ord.doneM (NoPanic.normal ?_)
      go_wp2_with fail
      refine bodyPost_ret (results_pair 10 11 58 _ rfl _ rfl rfl hR _ rfl rfl (info_rf _)) rfl ?_
      exact ⟨by rw [hF.out, hI.out]; simp [Sty.rax, ha.out, Sty.left, Sty.right], hg⟩
    | false =>
      cases gb with
      | true =>
        go_upto_region 19 with fail
        have hS : ∀ W, Ra w W s x y wd ht Fr.zero (F) g → (fun W => Ra w W s x y wd ht Fr.zero (F) g ∧ W.cell? ⟨w.heap.size + 1, 0, none⟩ = some (.int .i64 x) ∧ W.cell? ⟨w.heap.size + 1, 2, none⟩ = some (.int .i64 wd) ∧ W.cell? ⟨g, 1, none⟩ = some (.int .i64 F.m.r) ∧ W.cell? ⟨g, 12, none⟩ = some (.int .i64 F.w)) W := fun W h => ⟨h, h.rct.cell 0, h.rct.cell 2, h.frm.cell 1, h.frm.cell 12⟩
        refine wp_region_noPanic ?_
        refine Ord.region_M (S := fun W => Ra w W s x y wd ht Fr.zero (F) g ∧ W.cell? ⟨w.heap.size + 1, 0, none⟩ = some (.int .i64 x) ∧ W.cell? ⟨w.heap.size + 1, 2, none⟩ = some (.int .i64 wd) ∧ W.cell? ⟨g, 1, none⟩ = some (.int .i64 F.m.r) ∧ W.cell? ⟨g, 12, none⟩ = some (.int .i64 F.w)) 17 (.one 0 true (.one 1 true (.one 2 true (.one 3 true (.one 5 true (.one 6 true (.one 7 true (.one 8 true (.one 9 true (.one 10 true (.one 11 true (.one 15 true (.two 4 (.one 12 false (.one 13 false (.one 14 false (.one 16 true (.one 17 false .nil))))) 12 (.one 4 false (.one 13 false (.one 14 false (.one 16 true (.one 17 false .nil)))))))))))))))))) (by kernel_rfl) (by kernel_rfl) (by kernel_rfl) (by kernel_rfl) (by decide) (fun _ _ _ _ _ h => h) (hS _ h.drew) (fun hS0 => ?_)
        simp only [Ord.layT, List.getElem?_cons_zero, List.getElem?_cons_succ]
        (refine Ord.takeM (v := ?_) (Or.inl ⟨rfl, ?_⟩) ?_; rotate_left; (intro w hSw; (try dsimp only at hSw); go_simp; try (with_reducible rfl)); (try simp only [Act.put, List.setIfInBounds_toArray, List.set_cons_zero, List.set_cons_succ]))
        (refine Ord.takeM (v := ?_) (Or.inl ⟨rfl, ?_⟩) ?_; rotate_left; (intro w hSw; (try dsimp only at hSw); go_simp; try (with_reducible rfl)); (try simp only [Act.put, List.setIfInBounds_toArray, List.set_cons_zero, List.set_cons_succ]))
        (refine Ord.takeM (v := ?_) (Or.inl ⟨rfl, ?_⟩) ?_; rotate_left; (intro w hSw; (try dsimp only at hSw); go_simp; try (with_reducible rfl)); (try simp only [Act.put, List.setIfInBounds_toArray, List.set_cons_zero, List.set_cons_succ]))
        (refine Ord.takeM (v := ?_) (Or.inl ⟨rfl, ?_⟩) ?_; rotate_left; (intro w hSw; (try dsimp only at hSw); go_simp; try (with_reducible rfl)); (try simp only [Act.put, List.setIfInBounds_toArray, List.set_cons_zero, List.set_cons_succ]))
        (refine Ord.takeM (v := ?_) (Or.inl ⟨rfl, ?_⟩) ?_; rotate_left; (intro w hSw; (try dsimp only at hSw); go_simp; try (with_reducible rfl)); (try simp only [Act.put, List.setIfInBounds_toArray, List.set_cons_zero, List.set_cons_succ]))
        (refine Ord.takeM (v := ?_) (Or.inl ⟨rfl, ?_⟩) ?_; rotate_left; (intro w hSw; (try dsimp only at hSw); go_simp; try (with_reducible rfl)); (try simp only [Act.put, List.setIfInBounds_toArray, List.set_cons_zero, List.set_cons_succ]))
        (refine Ord.takeM (v := ?_) (Or.inl ⟨rfl, ?_⟩) ?_; rotate_left; (intro w hSw; (try dsimp only at hSw); go_simp; try (with_reducible rfl)); (try simp only [Act.put, List.setIfInBounds_toArray, List.set_cons_zero, List.set_cons_succ]))
        (refine Ord.takeM (v := ?_) (Or.inl ⟨rfl, ?_⟩) ?_; rotate_left; (intro w hSw; (try dsimp only at hSw); go_simp; try (with_reducible rfl)); (try simp only [Act.put, List.setIfInBounds_toArray, List.set_cons_zero, List.set_cons_succ]))
        (refine Ord.takeM (v := ?_) (Or.inl ⟨rfl, ?_⟩) ?_; rotate_left; (intro w hSw; (try dsimp only at hSw); go_simp; try (with_reducible rfl)); (try simp only [Act.put, List.setIfInBounds_toArray, List.set_cons_zero, List.set_cons_succ]))
        (refine Ord.takeM (v := ?_) (Or.inl ⟨rfl, ?_⟩) ?_; rotate_left; (intro w hSw; (try dsimp only at hSw); go_simp; try (with_reducible rfl)); (try simp only [Act.put, List.setIfInBounds_toArray, List.set_cons_zero, List.set_cons_succ]))
        (refine Ord.takeM (v := ?_) (Or.inl ⟨rfl, ?_⟩) ?_; rotate_left; (intro w hSw; (try dsimp only at hSw); go_simp; try (with_reducible rfl)); (try simp only [Act.put, List.setIfInBounds_toArray, List.set_cons_zero, List.set_cons_succ]))
        (refine Ord.takeM (yieldsIf_load_mid rfl _ _ rfl g 0 rfl _ _ (fun w' h => h.1.frm.range) Try.underlying58 rfl info_rf') ?_; (try simp only [Act.put, List.setIfInBounds_toArray, List.set_cons_zero, List.set_cons_succ]))
        refine Ord.twoM rfl rfl rfl rfl (fun K hK => ?_) (fun K hK => ?_)
        · go_simp
          refine (ref_Add _ _ _).mono ?_
          rintro e w' ⟨rfl, rfl⟩
          go_wp2_with fail
          refine hK.out _ _ hS0 (fun _ => ?_)
          clear hK K
          (try simp only [Act.put, List.setIfInBounds_toArray, List.set_cons_zero, List.set_cons_succ])
          refine Ord.aloneM rfl rfl (fun K hK => ?_)
          go_simp
          have hS1 := hS (wq.alloc (.cells #[.int .i64 (len s.o1k s.o1n wd), .int .i64 F.m.r, .int .i64 (s.rframed wd).racross, .int .i64 F.w] 2)).drew (h.on (by go_grown))
          refine hK.out _ _ hS1 (fun _ => ?_)
          clear hK K hS0
          (try simp only [Act.put, List.setIfInBounds_toArray, List.set_cons_zero, List.set_cons_succ])
          refine Ord.aloneM rfl rfl (fun K hK => ?_)
          go_simp
          refine (rsum4 (len s.o1k s.o1n wd) F.m.r (s.rframed wd).racross F.w _ _ (Blk.new wq 2 #[.int .i64 (len s.o1k s.o1n wd), .int .i64 F.m.r, .int .i64 (s.rframed wd).racross, .int .i64 F.w]).drew).mono ?_
          rintro e w' ⟨rfl, rfl⟩
          go_wp2_with fail
          refine hK.out _ _ hS1 (fun _ => ?_)
          clear hK K
          (try simp only [Act.put, List.setIfInBounds_toArray, List.set_cons_zero, List.set_cons_succ])
          refine Ord.aloneM rfl rfl (fun K hK => ?_)
          go_simp
          refine (ref_Sub _ _ _).mono ?_
          rintro e w' ⟨rfl, rfl⟩
          go_wp2_with fail
          refine hK.out _ _ hS1 (fun _ => ?_)
          clear hK K
          (try simp only [Act.put, List.setIfInBounds_toArray, List.set_cons_zero, List.set_cons_succ])
          (refine Ord.takeM (v := ?_) (Or.inl ⟨rfl, ?_⟩) ?_; rotate_left; (intro w hSw; (try dsimp only at hSw); go_simp; try (with_reducible rfl)); (try simp only [Act.put, List.setIfInBounds_toArray, List.set_cons_zero, List.set_cons_succ]))
          refine Ord.lastM rfl rfl (fun K hK => ?_)
          refine wp_store_row 58 _ _ rfl (w.heap.size + 1 + 1) F.arr rfl rfl 58 Fr.zero.arr hS1.1.res rfl (info_rf _) (frame_one _) ?_
          intro w9 hR hc'
          have hg := hS1.1.below.trans (hc'.below (by omega))
          (try simp only [Act.put, List.setIfInBounds_toArray, List.set_cons_zero, List.set_cons_succ])
          refine hK.out _ _ ?_
          clear hK K hc' hS h hS1
          refine Ord.doneM (NoPanic.normal ?_)
          go_wp2_with fail
          refine bodyPost_ret (results_pair 10 11 58 _ rfl _ rfl rfl hR _ rfl rfl (info_rf _)) rfl ?_
          exact ⟨by rw [hF.out, hI.out]; simp [Sty.rax, ha.out, hb.out, Sty.left, Sty.right], hg⟩
        · go_simp
          have hS1 := hS (wq.alloc (.cells #[.int .i64 (len s.o1k s.o1n wd), .int .i64 F.m.r, .int .i64 (s.rframed wd).racross, .int .i64 F.w] 2)).drew (h.on (by go_grown))
          refine hK.out _ _ hS1 (fun _ => ?_)
          clear hK K hS0
          (try simp only [Act.put, List.setIfInBounds_toArray, List.set_cons_zero, List.set_cons_succ])
          refine Ord.aloneM rfl rfl (fun K hK => ?_)
          go_simp
          refine (ref_Add _ _ _).mono ?_
          rintro e w' ⟨rfl, rfl⟩
          go_wp2_with fail
          refine hK.out _ _ hS1 (fun _ => ?_)
          clear hK K
          (try simp only [Act.put, List.setIfInBounds_toArray, List.set_cons_zero, List.set_cons_succ])
          refine Ord.aloneM rfl rfl (fun K hK => ?_)
          go_simp
          refine (rsum4 (len s.o1k s.o1n wd) F.m.r (s.rframed wd).racross F.w _ _ (Blk.new wq 2 #[.int .i64 (len s.o1k s.o1n wd), .int .i64 F.m.r, .int .i64 (s.rframed wd).racross, .int .i64 F.w]).drew).mono ?_
          rintro e w' ⟨rfl, rfl⟩
          go_wp2_with fail
          refine hK.out _ _ hS1 (fun _ => ?_)
          clear hK K
          (try simp only [Act.put, List.setIfInBounds_toArray, List.set_cons_zero, List.set_cons_succ])
          refine Ord.aloneM rfl rfl (fun K hK => ?_)
          go_simp
          refine (ref_Sub _ _ _).mono ?_
          rintro e w' ⟨rfl, rfl⟩
          go_wp2_with fail
          refine hK.out _ _ hS1 (fun _ => ?_)
          clear hK K
          (try simp only [Act.put, List.setIfInBounds_toArray, List.set_cons_zero, List.set_cons_succ])
          (refine Ord.takeM (v := ?_) (Or.inl ⟨rfl, ?_⟩) ?_; rotate_left; (intro w hSw; (try dsimp only at hSw); go_simp; try (with_reducible rfl)); (try simp only [Act.put, List.setIfInBounds_toArray, List.set_cons_zero, List.set_cons_succ]))
          refine Ord.lastM rfl rfl (fun K hK => ?_)
          refine wp_store_row 58 _ _ rfl (w.heap.size + 1 + 1) F.arr rfl rfl 58 Fr.zero.arr hS1.1.res rfl (info_rf _) (frame_one _) ?_
          intro w9 hR hc'
          have hg := hS1.1.below.trans (hc'.below (by omega))
          (try simp only [Act.put, List.setIfInBounds_toArray, List.set_cons_zero, List.set_cons_succ])
          refine hK.out _ _ ?_
          clear hK K hc' hS h hS1
          refine Ord.doneM (NoPanic.normal ?_)
          go_wp2_with fail
          refine bodyPost_ret (results_pair 10 11 58 _ rfl _ rfl rfl hR _ rfl rfl (info_rf _)) rfl ?_
          exact ⟨by rw [hF.out, hI.out]; simp [Sty.rax, ha.out, hb.out, Sty.left, Sty.right], hg⟩
      | false =>
        go_upto_region 20 with fail
        have hS : ∀ W, Ra w W s x y wd ht Fr.zero (F) g → (fun W => Ra w W s x y wd ht Fr.zero (F) g ∧ W.cell? ⟨g, 3, none⟩ = some (.int .i64 F.m.l)) W := fun W h => ⟨h, h.frm.cell 3⟩
        refine wp_region_noPanic ?_
        refine Ord.region_M (S := fun W => Ra w W s x y wd ht Fr.zero (F) g ∧ W.cell? ⟨g, 3, none⟩ = some (.int .i64 F.m.l)) 7 (.one 0 true (.one 1 true (.one 2 true (.one 3 true (.one 5 true (.one 4 false (.one 6 true (.one 7 false (.nil))))))))) (by kernel_rfl) (by kernel_rfl) (by kernel_rfl) (by kernel_rfl) (by decide) (fun _ _ _ _ _ h => h) (hS _ h.drew) (fun hS0 => ?_)
        simp only [Ord.layT, List.getElem?_cons_zero, List.getElem?_cons_succ]
        (refine Ord.takeM (v := ?_) (Or.inl ⟨rfl, ?_⟩) ?_; rotate_left; (intro w hSw; (try dsimp only at hSw); go_simp; try (with_reducible rfl)); (try simp only [Act.put, List.setIfInBounds_toArray, List.set_cons_zero, List.set_cons_succ]))
        (refine Ord.takeM (v := ?_) (Or.inl ⟨rfl, ?_⟩) ?_; rotate_left; (intro w hSw; (try dsimp only at hSw); go_simp; try (with_reducible rfl)); (try simp only [Act.put, List.setIfInBounds_toArray, List.set_cons_zero, List.set_cons_succ]))
        (refine Ord.takeM (v := ?_) (Or.inl ⟨rfl, ?_⟩) ?_; rotate_left; (intro w hSw; (try dsimp only at hSw); go_simp; try (with_reducible rfl)); (try simp only [Act.put, List.setIfInBounds_toArray, List.set_cons_zero, List.set_cons_succ]))
        (refine Ord.takeM (v := ?_) (Or.inl ⟨rfl, ?_⟩) ?_; rotate_left; (intro w hSw; (try dsimp only at hSw); go_simp; try (with_reducible rfl)); (try simp only [Act.put, List.setIfInBounds_toArray, List.set_cons_zero, List.set_cons_succ]))
        (refine Ord.takeM (yieldsIf_load_mid rfl _ _ rfl g 0 rfl _ _ (fun w' h => h.1.frm.range) Try.underlying58 rfl info_rf') ?_; (try simp only [Act.put, List.setIfInBounds_toArray, List.set_cons_zero, List.set_cons_succ]))
        refine Ord.aloneM rfl rfl (fun K hK => ?_)
        go_simp
        refine (ref_Add _ _ _).mono ?_
        rintro e w' ⟨rfl, rfl⟩
        go_wp2_with fail
        refine hK.out _ _ hS0 (fun _ => ?_)
        clear hK K
        (try simp only [Act.put, List.setIfInBounds_toArray, List.set_cons_zero, List.set_cons_succ])
        (refine Ord.takeM (v := ?_) (Or.inl ⟨rfl, ?_⟩) ?_; rotate_left; (intro w hSw; (try dsimp only at hSw); go_simp; try (with_reducible rfl)); (try simp only [Act.put, List.setIfInBounds_toArray, List.set_cons_zero, List.set_cons_succ]))
        refine Ord.lastM rfl rfl (fun K hK => ?_)
        refine wp_store_row 58 _ _ rfl (w.heap.size + 1 + 1) F.arr rfl rfl 58 Fr.zero.arr hS0.1.res rfl (info_rf _) (frame_one _) ?_
        intro w9 hR hc'
        have hg := hS0.1.below.trans (hc'.below (by omega))
        (try simp only [Act.put, List.setIfInBounds_toArray, List.set_cons_zero, List.set_cons_succ])
        refine hK.out _ _ ?_
        clear hK K hc' hS h hS0
        refine Ord.doneM (NoPanic.normal ?_)
        go_wp2_with fail
        refine bodyPost_ret (results_pair 10 11 58 _ rfl _ rfl rfl hR _ rfl rfl (info_rf _)) rfl ?_
        exact ⟨by rw [hF.out, hI.out]; simp [Sty.rax, ha.out, hb.out, Sty.left, Sty.right], hg⟩
end Go.Proofs.Ytkkabnkhdhlhkaa
