/-
  The walk of place.Across.
-/
import Derived.Test.YtkkabnkhdhlhkaaPlaceB
import Derived.Test.YtkkabnkhdhlhkaaOrdM
import Derived.Deep.DeepCutAuto
import Derived.Deep.CutBlock
namespace Go.Proofs.Ytkkabnkhdhlhkaa
open Go.RowKit Num Mem Opn
set_option linter.unusedVariables false
set_option linter.unusedSimpArgs false

namespace Num
def Sty.left (s : Sty) (wd : Int) : Int := len s.o3k s.o3n wd
def Sty.right (s : Sty) (wd : Int) : Int := len s.o1k s.o1n wd
def Sty.aw (s : Sty) (wd least most : Int) : Int :=
  if given s.wk then max (len s.wk s.wn wd) 0
  else if given s.o3k && given s.o1k then max (sub (sub (sub wd (s.left wd)) (s.right wd)) ((s.framed wd).sum false)) 0
  else (Sty.fit { s with wk := 0, wn := 0 } (max (sub (sub wd (s.left wd)) (s.right wd)) 0) least most).w
def Sty.aframe (s : Sty) (wd least most : Int) : Fr := { s.framed wd with w := s.aw wd least most }
def Sty.ax (s : Sty) (x wd at' : Int) (F : Fr) : Int :=
  if given s.o3k then sums [x, s.left wd, F.m.l] 3
  else if given s.o1k then sub (sub (sub (sub (add x wd) (s.right wd)) F.m.r) F.across) F.w
  else add at' F.m.l
end Num
/-- what Across holds: a style's box, a room's, the result's, a frame's. -/
structure Ac (w W : World) (s : Sty) (x y wd ht : Int) (R F : Fr) (g : Nat) : Prop where
  below : Below w.heap.size w W
  far : w.heap.size + 1 + 1 < g
  sty : Blk W w.heap.size 28 s.arr
  rct : Blk W (w.heap.size + 1) 48 #[.int .i64 x, .int .i64 y, .int .i64 wd, .int .i64 ht]
  res : Blk W (w.heap.size + 1 + 1) 35 R.arr
  frm : Blk W g 35 F.arr
section
variable {w W W' : World} {s : Sty} {x y wd ht : Int} {R F F' : Fr} {g : Nat}
theorem Ac.on (h : Ac w W s x y wd ht R F g) (hb : Below W.heap.size W W') : Ac w W' s x y wd ht R F g :=
  ⟨h.below.trans (hb.mono h.below.size), h.far, h.sty.below hb h.sty.lt, h.rct.below hb h.rct.lt, h.res.below hb h.res.lt, h.frm.below hb h.frm.lt⟩
theorem Ac.drew (h : Ac w W s x y wd ht R F g) : Ac w W.drew s x y wd ht R F g := h.on (by go_grown)
theorem Ac.put {i : Nat} {v : Value} (h : Ac w W s x y wd ht R F g) (hF : Blk (W.setCell ⟨g, i, none⟩ v) g 35 F'.arr) : Ac w (W.setCell ⟨g, i, none⟩ v) s x y wd ht R F' g :=
  have := h.far
  ⟨h.below.trans ((Chg.setCell W ⟨g, i, none⟩ v).below (by simp; omega)), h.far, h.sty.far (by simp; omega) _, h.rct.far (by simp; omega) _, h.res.far (by simp; omega) _, hF⟩
end
theorem wp_store_row {P : Program} {op : Oper} {a : Act} {w : World} {K : Act → World → Prop} {Q : Exit → Act → World → Prop} (ty : TypeId) (x y : Operand) (ho : op.op = .store ty x y)
    (b : Nat) (cells : Array Value) (hx : a.eval x = .pointer (some ⟨b, 0, none⟩)) (hy : a.eval y = .agg cells)
    (t : TypeId) (old : Array Value) (hb : Blk w b t old) (hs : old.size = cells.size) (hi : (P.info? ty).map (·.size) = some cells.size) (h1 : cells.all (·.oneCell') = true)
    (h : ∀ w', Blk w' b t cells → Chg b w w' → K (a.put op.dst undef) w') : op.wp P a w K Q := by
  have hk := setCells_blk b t cells.toList old.toList [] w (by simpa using hb) (by simpa using hs)
  refine wp_store_mid ty x y ho b 0 cells hx hy ?_ hi h1 (h _ (by simpa using hk.1) (by simpa using hk.2))
  intro j hj
  rw [Nat.zero_add, hb.cell]
  exact ⟨by rw [Array.getElem?_eq_getElem (by omega)]; rfl, hb.free j⟩
theorem results_pair {P : Program} {fn : Func} {tmps : Array Value} {w : World} (k s ty b : Nat) (hf : fn.results = #[.tmp k, .cell s ty]) (v : Value) (hk : tmps.getD k undef = v) (hx : tmps.getD s undef = .pointer (some ⟨b, 0, none⟩)) {t : TypeId} {cs : Array Value} (hb : Blk w b t cs)
    (d : TypeDesc) (hu : P.underlying ty = some d) (hd : d.isRow = true) (hi : (P.info? ty).map (·.size) = some cs.size) : (results fn tmps).run P w = .ok (.tuple #[v, .agg cs]) w := by
  have hl := run_loadVar_mid (P := P) w b 0 ty cs.toList d hb.range hu hd (by simpa using hi)
  have hx' : tmps[s]?.getD undef = .pointer (some ⟨b, 0, none⟩) := by simpa using hx
  have hk' : tmps[k]?.getD undef = v := by simpa using hk
  have ha : (asAddr (.pointer (some ⟨b, 0, none⟩))).run P w = .ok ⟨b, 0, none⟩ w := rfl
  simp [results, hf, hx', hk', Sem.run_bind, hl, ha]
theorem Ac.off {w W : World} {s : Sty} {x y wd ht : Int} {R F : Fr} {g q i : Nat} {v : Value} (h : Ac w W s x y wd ht R F g) (hq : g < q) : Ac w (W.setCell ⟨q, i, none⟩ v) s x y wd ht R F g :=
  have := h.far
  ⟨h.below.trans ((Chg.setCell W ⟨q, i, none⟩ v).below (by simp; omega)), h.far, h.sty.far (by simp; omega) _, h.rct.far (by simp; omega) _, h.res.far (by simp; omega) _, h.frm.far (by simp; omega) _⟩
theorem style_put4 {W : World} {g : Nat} {t : TypeId} {s : Sty} (h : Blk W g t s.arr) : Blk ((W.setCell ⟨g, 4, none⟩ (.int .i64 0)).setCell ⟨g, 5, none⟩ (.int .i64 0)) g t (Sty.arr { s with wk := 0, wn := 0 }) := (h.put 4 _).put 5 _
theorem fit_size (f : Fr) : f.arr.size = 13 := rfl
theorem sum3 (a b c : Int) (W : World) (g : Nat) (hb : Blk W g 2 #[.int .i64 a, .int .i64 b, .int .i64 c]) : Calls Try.prog 46 #[.slice (some ⟨g, 0, none⟩) 3 3] W fun e w' => e = .returned (.int .i64 (sums [a, b, c] 3)) ∧ W = w' :=
  fixed_Sum [a, b, c] _ 3 (g + 1) W (by simp) (Ints.ofBlk (l := [a, b, c]) hb (by omega))
set_option maxRecDepth 100000 in
set_option maxHeartbeats 4000000 in
theorem place_Across (s : Sty) (x y wd ht at' least most : Int) (w : World) (hone : s.arr.all (·.oneCell') = true) :
    Calls Try.prog 23 #[.agg s.arr, .agg #[.int .i64 x, .int .i64 y, .int .i64 wd, .int .i64 ht], .int .i64 at', .int .i64 least, .int .i64 most] w fun e w' =>
      e = .returned (.tuple #[.int .i64 (s.ax x wd at' (s.aframe wd least most)), .agg (s.aframe wd least most).arr]) ∧ Below w.heap.size w w' := by
  have hS0' : ∀ W, (Below w.heap.size w W ∧ Blk W w.heap.size 28 s.arr ∧ Blk W (w.heap.size + 1) 48 #[.int .i64 x, .int .i64 y, .int .i64 wd, .int .i64 ht] ∧ Blk W (w.heap.size + 1 + 1) 35 Fr.zero.arr) → (fun W => (Below w.heap.size w W ∧ Blk W w.heap.size 28 s.arr ∧ Blk W (w.heap.size + 1) 48 #[.int .i64 x, .int .i64 y, .int .i64 wd, .int .i64 ht] ∧ Blk W (w.heap.size + 1 + 1) 35 Fr.zero.arr) ∧ W.cell? ⟨w.heap.size + 1, 2, none⟩ = some (.int .i64 wd)) W := fun W h => ⟨h, h.2.2.1.cell 2⟩
  have hI : (fun W => Below w.heap.size w W ∧ Blk W w.heap.size 28 s.arr ∧ Blk W (w.heap.size + 1) 48 #[.int .i64 x, .int .i64 y, .int .i64 wd, .int .i64 ht] ∧ Blk W (w.heap.size + 1 + 1) 35 Fr.zero.arr) (((w.alloc (.cells s.arr 28)).alloc (.cells #[.int .i64 x, .int .i64 y, .int .i64 wd, .int .i64 ht] 48)).alloc (.cells Fr.zero.arr 35)) :=
    ⟨by go_grown, ((Blk.new _ _ _).alloc _).alloc _, (Blk.newAt _ _ _ (by simp)).alloc _, Blk.newAt _ _ _ (by simp)⟩
  go_enter Try.func23, Try.ntmps23
  go_wp2_with (first | (first | refine stop_load 28 _ rfl rfl ?_ | refine stop_store 28 _ _ rfl rfl ?_) | (first | refine stop_load 35 _ rfl rfl ?_ | refine stop_store 35 _ _ rfl rfl ?_))
  refine wp_forget (fun W => Below w.heap.size w W ∧ Blk W w.heap.size 28 s.arr ∧ Blk W (w.heap.size + 1) 48 #[.int .i64 x, .int .i64 y, .int .i64 wd, .int .i64 ht] ∧ Blk W (w.heap.size + 1 + 1) 35 Fr.zero.arr) hI ?_
  clear hI
  intro w0 hI
  go_upto_region 1 with (first | (first | refine stop_load 28 _ rfl rfl ?_ | refine stop_store 28 _ _ rfl rfl ?_) | (first | refine stop_load 35 _ rfl rfl ?_ | refine stop_store 35 _ _ rfl rfl ?_))
  go_cut [12] (fun s12 wx => ∃ g, s12 = .pointer (some ⟨g, 0, none⟩) ∧ Ac w wx s x y wd ht Fr.zero (s.framed wd) g)
  case first =>
    refine wp_region_noPanic ?_
    refine Ord.region_tree (S := fun W => (Below w.heap.size w W ∧ Blk W w.heap.size 28 s.arr ∧ Blk W (w.heap.size + 1) 48 #[.int .i64 x, .int .i64 y, .int .i64 wd, .int .i64 ht] ∧ Blk W (w.heap.size + 1 + 1) 35 Fr.zero.arr) ∧ W.cell? ⟨w.heap.size + 1, 2, none⟩ = some (.int .i64 wd)) (.one 0 true (.one 1 true (.one 2 true (.one 4 true (.one 5 true (.one 6 true (.one 8 true (.two 3 (.two 7 (.two 9 (.one 10 true (.one 11 false (.one 12 false .nil))) 11 (.one 9 false (.one 10 true (.one 12 false (.nil))))) 11 (.one 7 false (.one 9 false (.one 10 true (.one 12 false (.nil)))))) 11 (.one 3 false (.one 7 false (.one 9 false (.one 10 true (.one 12 false (.nil)))))))))))))) (by kernel_rfl) (by kernel_rfl) (by kernel_rfl) (by decide) (fun _ _ _ _ _ h => h) (hS0' _ ⟨hI.1.drew, hI.2.1.drew, hI.2.2.1.drew, hI.2.2.2.drew⟩) (fun hS0 => ?_)
    simp only [Ord.layT, List.getElem?_cons_zero, List.getElem?_cons_succ]
    (refine Ord.takeT (yieldsIf_load_mid rfl _ _ rfl w.heap.size 0 rfl _ _ (fun w' h => h.1.2.1.range) Try.underlying28 rfl (by simpa using info_style' s)) ?_; (try simp only [Act.put, List.setIfInBounds_toArray, List.set_cons_zero, List.set_cons_succ]))
    (refine Ord.takeT (v := ?_) (Or.inl ⟨rfl, ?_⟩) ?_; rotate_left; (intro w hSw; (try dsimp only at hSw); go_simp; try (with_reducible rfl)); (try simp only [Act.put, List.setIfInBounds_toArray, List.set_cons_zero, List.set_cons_succ]))
    (refine Ord.takeT (v := ?_) (Or.inl ⟨rfl, ?_⟩) ?_; rotate_left; (intro w hSw; (try dsimp only at hSw); go_simp; try (with_reducible rfl)); (try simp only [Act.put, List.setIfInBounds_toArray, List.set_cons_zero, List.set_cons_succ]))
    (refine Ord.takeT (yieldsIf_load_mid rfl _ _ rfl w.heap.size 0 rfl _ _ (fun w' h => h.1.2.1.range) Try.underlying28 rfl (by simpa using info_style' s)) ?_; (try simp only [Act.put, List.setIfInBounds_toArray, List.set_cons_zero, List.set_cons_succ]))
    (refine Ord.takeT (v := ?_) (Or.inl ⟨rfl, ?_⟩) ?_; rotate_left; (intro w hSw; (try dsimp only at hSw); go_simp; try (with_reducible rfl)); (try simp only [Act.put, List.setIfInBounds_toArray, List.set_cons_zero, List.set_cons_succ]))
    (refine Ord.takeT (v := ?_) (Or.inl ⟨rfl, ?_⟩) ?_; rotate_left; (intro w hSw; (try dsimp only at hSw); go_simp; try (with_reducible rfl)); (try simp only [Act.put, List.setIfInBounds_toArray, List.set_cons_zero, List.set_cons_succ]))
    (refine Ord.takeT (yieldsIf_load_mid rfl _ _ rfl w.heap.size 0 rfl _ _ (fun w' h => h.1.2.1.range) Try.underlying28 rfl (by simpa using info_style' s)) ?_; (try simp only [Act.put, List.setIfInBounds_toArray, List.set_cons_zero, List.set_cons_succ]))
    refine Ord.twoT rfl rfl rfl rfl (fun K hK => ?_) (fun K hK => ?_)
    · go_simp
      refine (block_Margin s wd _).mono ?_
      rintro e v1 ⟨rfl, hb⟩
      have hS1 := hS0' v1 ⟨hS0.1.1.trans (hb.mono hS0.1.1.size), hS0.1.2.1.below hb hS0.1.2.1.lt, hS0.1.2.2.1.below hb hS0.1.2.2.1.lt, hS0.1.2.2.2.below hb hS0.1.2.2.2.lt⟩
      go_wp2_with fail
      refine hK.out _ _ hS1 (fun _ => ?_)
      clear hK K hb hS0
      (try simp only [Act.put, List.setIfInBounds_toArray, List.set_cons_zero, List.set_cons_succ])
      refine Ord.twoT rfl rfl rfl rfl (fun K hK => ?_) (fun K hK => ?_)
      · go_simp
        refine (block_Padding s wd _).mono ?_
        rintro e v2 ⟨rfl, hb⟩
        have hS2 := hS0' v2 ⟨hS1.1.1.trans (hb.mono hS1.1.1.size), hS1.1.2.1.below hb hS1.1.2.1.lt, hS1.1.2.2.1.below hb hS1.1.2.2.1.lt, hS1.1.2.2.2.below hb hS1.1.2.2.2.lt⟩
        go_wp2_with fail
        refine hK.out _ _ hS2 (fun _ => ?_)
        clear hK K hb hS1
        (try simp only [Act.put, List.setIfInBounds_toArray, List.set_cons_zero, List.set_cons_succ])
        refine Ord.twoT rfl rfl rfl rfl (fun K hK => ?_) (fun K hK => ?_)
        · go_simp
          refine (block_Border s _).mono ?_
          rintro e v3 ⟨rfl, hb⟩
          have hS3 := hS0' v3 ⟨hS2.1.1.trans (hb.mono hS2.1.1.size), hS2.1.2.1.below hb hS2.1.2.1.lt, hS2.1.2.2.1.below hb hS2.1.2.2.1.lt, hS2.1.2.2.2.below hb hS2.1.2.2.2.lt⟩
          go_wp2_with fail
          refine hK.out _ _ hS3 (fun _ => ?_)
          clear hK K hb hS2
          (try simp only [Act.put, List.setIfInBounds_toArray, List.set_cons_zero, List.set_cons_succ])
          simp only [Sd.val]
          (refine Ord.takeT (v := ?_) (Or.inl ⟨rfl, ?_⟩) ?_; rotate_left; (intro w hSw; (try dsimp only at hSw); go_simp; try (with_reducible rfl)); (try simp only [Act.put, List.setIfInBounds_toArray, List.set_cons_zero, List.set_cons_succ]))
          refine Ord.aloneT rfl rfl (fun K hK => ?_)
          go_simp
          have hS4 := hS0' ((v3).alloc (.cells Fr.zero.arr 35)) ⟨hS3.1.1.alloc hS3.1.1.size _, hS3.1.2.1.alloc _, hS3.1.2.2.1.alloc _, hS3.1.2.2.2.alloc _⟩
          have hZ : Blk ((v3).alloc (.cells Fr.zero.arr 35)) v3.heap.size 35 Fr.zero.arr := Blk.new (v3) 35 Fr.zero.arr
          have hlt : w.heap.size + 1 + 1 < v3.heap.size := hS3.1.2.2.2.lt
          have hge : w.heap.size ≤ v3.heap.size := hS3.1.1.size
          refine hK.out _ _ hS4 (fun _ => ?_)
          clear hK K hS3
          (try simp only [Act.put, List.setIfInBounds_toArray, List.set_cons_zero, List.set_cons_succ])
          generalize v3.heap.size = g at *
          skip
          refine Ord.aloneT rfl rfl (fun K hK => ?_)
          refine wp_store_row 35 _ _ rfl _ (s.framed wd).arr rfl rfl 35 Fr.zero.arr hZ rfl (info_frame _) (frame_one _) ?_
          intro w5 hF hc
          have h : Ac w w5 s x y wd ht Fr.zero (s.framed wd) _ := ⟨hS4.1.1.trans (hc.below (by omega)), hlt, hS4.1.2.1.chg hc (by omega), hS4.1.2.2.1.chg hc (by omega), hS4.1.2.2.2.chg hc (by omega), hF⟩
          (try simp only [Act.put, List.setIfInBounds_toArray, List.set_cons_zero, List.set_cons_succ])
          refine hK.out _ _ (hS0' _ ⟨h.below, h.sty, h.rct, h.res⟩) (fun _ => ?_)
          refine Ord.doneT (NoPanic.normal ?_)
          clear hK K hS4 hS0' hF hc hlt
          go_wp2_with fail
          go_meet
          exact ⟨_, rfl, h⟩
        · go_simp
          have hS3 := hS0' ((v2).alloc (.cells Fr.zero.arr 35)) ⟨hS2.1.1.alloc hS2.1.1.size _, hS2.1.2.1.alloc _, hS2.1.2.2.1.alloc _, hS2.1.2.2.2.alloc _⟩
          have hZ : Blk ((v2).alloc (.cells Fr.zero.arr 35)) v2.heap.size 35 Fr.zero.arr := Blk.new (v2) 35 Fr.zero.arr
          have hlt : w.heap.size + 1 + 1 < v2.heap.size := hS2.1.2.2.2.lt
          have hge : w.heap.size ≤ v2.heap.size := hS2.1.1.size
          refine hK.out _ _ hS3 (fun _ => ?_)
          clear hK K hS2
          (try simp only [Act.put, List.setIfInBounds_toArray, List.set_cons_zero, List.set_cons_succ])
          generalize v2.heap.size = g at *
          skip
          refine Ord.aloneT rfl rfl (fun K hK => ?_)
          go_simp
          refine (block_Border s _).mono ?_
          rintro e v4 ⟨rfl, hb⟩
          have hS4 := hS0' v4 ⟨hS3.1.1.trans (hb.mono hS3.1.1.size), hS3.1.2.1.below hb hS3.1.2.1.lt, hS3.1.2.2.1.below hb hS3.1.2.2.1.lt, hS3.1.2.2.2.below hb hS3.1.2.2.2.lt⟩
          replace hZ := hZ.below hb hZ.lt
          go_wp2_with fail
          refine hK.out _ _ hS4 (fun _ => ?_)
          clear hK K hb hS3
          (try simp only [Act.put, List.setIfInBounds_toArray, List.set_cons_zero, List.set_cons_succ])
          simp only [Sd.val]
          (refine Ord.takeT (v := ?_) (Or.inl ⟨rfl, ?_⟩) ?_; rotate_left; (intro w hSw; (try dsimp only at hSw); go_simp; try (with_reducible rfl)); (try simp only [Act.put, List.setIfInBounds_toArray, List.set_cons_zero, List.set_cons_succ]))
          refine Ord.aloneT rfl rfl (fun K hK => ?_)
          refine wp_store_row 35 _ _ rfl _ (s.framed wd).arr rfl rfl 35 Fr.zero.arr hZ rfl (info_frame _) (frame_one _) ?_
          intro w5 hF hc
          have h : Ac w w5 s x y wd ht Fr.zero (s.framed wd) _ := ⟨hS4.1.1.trans (hc.below (by omega)), hlt, hS4.1.2.1.chg hc (by omega), hS4.1.2.2.1.chg hc (by omega), hS4.1.2.2.2.chg hc (by omega), hF⟩
          (try simp only [Act.put, List.setIfInBounds_toArray, List.set_cons_zero, List.set_cons_succ])
          refine hK.out _ _ (hS0' _ ⟨h.below, h.sty, h.rct, h.res⟩) (fun _ => ?_)
          refine Ord.doneT (NoPanic.normal ?_)
          clear hK K hS4 hS0' hF hc hlt
          go_wp2_with fail
          go_meet
          exact ⟨_, rfl, h⟩
      · go_simp
        have hS2 := hS0' ((v1).alloc (.cells Fr.zero.arr 35)) ⟨hS1.1.1.alloc hS1.1.1.size _, hS1.1.2.1.alloc _, hS1.1.2.2.1.alloc _, hS1.1.2.2.2.alloc _⟩
        have hZ : Blk ((v1).alloc (.cells Fr.zero.arr 35)) v1.heap.size 35 Fr.zero.arr := Blk.new (v1) 35 Fr.zero.arr
        have hlt : w.heap.size + 1 + 1 < v1.heap.size := hS1.1.2.2.2.lt
        have hge : w.heap.size ≤ v1.heap.size := hS1.1.1.size
        refine hK.out _ _ hS2 (fun _ => ?_)
        clear hK K hS1
        (try simp only [Act.put, List.setIfInBounds_toArray, List.set_cons_zero, List.set_cons_succ])
        generalize v1.heap.size = g at *
        skip
        refine Ord.aloneT rfl rfl (fun K hK => ?_)
        go_simp
        refine (block_Padding s wd _).mono ?_
        rintro e v3 ⟨rfl, hb⟩
        have hS3 := hS0' v3 ⟨hS2.1.1.trans (hb.mono hS2.1.1.size), hS2.1.2.1.below hb hS2.1.2.1.lt, hS2.1.2.2.1.below hb hS2.1.2.2.1.lt, hS2.1.2.2.2.below hb hS2.1.2.2.2.lt⟩
        replace hZ := hZ.below hb hZ.lt
        go_wp2_with fail
        refine hK.out _ _ hS3 (fun _ => ?_)
        clear hK K hb hS2
        (try simp only [Act.put, List.setIfInBounds_toArray, List.set_cons_zero, List.set_cons_succ])
        refine Ord.aloneT rfl rfl (fun K hK => ?_)
        go_simp
        refine (block_Border s _).mono ?_
        rintro e v4 ⟨rfl, hb⟩
        have hS4 := hS0' v4 ⟨hS3.1.1.trans (hb.mono hS3.1.1.size), hS3.1.2.1.below hb hS3.1.2.1.lt, hS3.1.2.2.1.below hb hS3.1.2.2.1.lt, hS3.1.2.2.2.below hb hS3.1.2.2.2.lt⟩
        replace hZ := hZ.below hb hZ.lt
        go_wp2_with fail
        refine hK.out _ _ hS4 (fun _ => ?_)
        clear hK K hb hS3
        (try simp only [Act.put, List.setIfInBounds_toArray, List.set_cons_zero, List.set_cons_succ])
        simp only [Sd.val]
        (refine Ord.takeT (v := ?_) (Or.inl ⟨rfl, ?_⟩) ?_; rotate_left; (intro w hSw; (try dsimp only at hSw); go_simp; try (with_reducible rfl)); (try simp only [Act.put, List.setIfInBounds_toArray, List.set_cons_zero, List.set_cons_succ]))
        refine Ord.aloneT rfl rfl (fun K hK => ?_)
        refine wp_store_row 35 _ _ rfl _ (s.framed wd).arr rfl rfl 35 Fr.zero.arr hZ rfl (info_frame _) (frame_one _) ?_
        intro w5 hF hc
        have h : Ac w w5 s x y wd ht Fr.zero (s.framed wd) _ := ⟨hS4.1.1.trans (hc.below (by omega)), hlt, hS4.1.2.1.chg hc (by omega), hS4.1.2.2.1.chg hc (by omega), hS4.1.2.2.2.chg hc (by omega), hF⟩
        (try simp only [Act.put, List.setIfInBounds_toArray, List.set_cons_zero, List.set_cons_succ])
        refine hK.out _ _ (hS0' _ ⟨h.below, h.sty, h.rct, h.res⟩) (fun _ => ?_)
        refine Ord.doneT (NoPanic.normal ?_)
        clear hK K hS4 hS0' hF hc hlt
        go_wp2_with fail
        go_meet
        exact ⟨_, rfl, h⟩
    · go_simp
      have hS1 := hS0' ((w0.drew).alloc (.cells Fr.zero.arr 35)) ⟨hS0.1.1.alloc hS0.1.1.size _, hS0.1.2.1.alloc _, hS0.1.2.2.1.alloc _, hS0.1.2.2.2.alloc _⟩
      have hZ : Blk ((w0.drew).alloc (.cells Fr.zero.arr 35)) w0.heap.size 35 Fr.zero.arr := Blk.new (w0.drew) 35 Fr.zero.arr
      have hlt : w.heap.size + 1 + 1 < w0.heap.size := hS0.1.2.2.2.lt
      have hge : w.heap.size ≤ w0.heap.size := hS0.1.1.size
      refine hK.out _ _ hS1 (fun _ => ?_)
      clear hK K hS0
      (try simp only [Act.put, List.setIfInBounds_toArray, List.set_cons_zero, List.set_cons_succ])
      generalize w0.heap.size = g at *
      skip
      refine Ord.aloneT rfl rfl (fun K hK => ?_)
      go_simp
      refine (block_Margin s wd _).mono ?_
      rintro e v2 ⟨rfl, hb⟩
      have hS2 := hS0' v2 ⟨hS1.1.1.trans (hb.mono hS1.1.1.size), hS1.1.2.1.below hb hS1.1.2.1.lt, hS1.1.2.2.1.below hb hS1.1.2.2.1.lt, hS1.1.2.2.2.below hb hS1.1.2.2.2.lt⟩
      replace hZ := hZ.below hb hZ.lt
      go_wp2_with fail
      refine hK.out _ _ hS2 (fun _ => ?_)
      clear hK K hb hS1
      (try simp only [Act.put, List.setIfInBounds_toArray, List.set_cons_zero, List.set_cons_succ])
      refine Ord.aloneT rfl rfl (fun K hK => ?_)
      go_simp
      refine (block_Padding s wd _).mono ?_
      rintro e v3 ⟨rfl, hb⟩
      have hS3 := hS0' v3 ⟨hS2.1.1.trans (hb.mono hS2.1.1.size), hS2.1.2.1.below hb hS2.1.2.1.lt, hS2.1.2.2.1.below hb hS2.1.2.2.1.lt, hS2.1.2.2.2.below hb hS2.1.2.2.2.lt⟩
      replace hZ := hZ.below hb hZ.lt
      go_wp2_with fail
      refine hK.out _ _ hS3 (fun _ => ?_)
      clear hK K hb hS2
      (try simp only [Act.put, List.setIfInBounds_toArray, List.set_cons_zero, List.set_cons_succ])
      refine Ord.aloneT rfl rfl (fun K hK => ?_)
      go_simp
      refine (block_Border s _).mono ?_
      rintro e v4 ⟨rfl, hb⟩
      have hS4 := hS0' v4 ⟨hS3.1.1.trans (hb.mono hS3.1.1.size), hS3.1.2.1.below hb hS3.1.2.1.lt, hS3.1.2.2.1.below hb hS3.1.2.2.1.lt, hS3.1.2.2.2.below hb hS3.1.2.2.2.lt⟩
      replace hZ := hZ.below hb hZ.lt
      go_wp2_with fail
      refine hK.out _ _ hS4 (fun _ => ?_)
      clear hK K hb hS3
      (try simp only [Act.put, List.setIfInBounds_toArray, List.set_cons_zero, List.set_cons_succ])
      simp only [Sd.val]
      (refine Ord.takeT (v := ?_) (Or.inl ⟨rfl, ?_⟩) ?_; rotate_left; (intro w hSw; (try dsimp only at hSw); go_simp; try (with_reducible rfl)); (try simp only [Act.put, List.setIfInBounds_toArray, List.set_cons_zero, List.set_cons_succ]))
      refine Ord.aloneT rfl rfl (fun K hK => ?_)
      refine wp_store_row 35 _ _ rfl _ (s.framed wd).arr rfl rfl 35 Fr.zero.arr hZ rfl (info_frame _) (frame_one _) ?_
      intro w5 hF hc
      have h : Ac w w5 s x y wd ht Fr.zero (s.framed wd) _ := ⟨hS4.1.1.trans (hc.below (by omega)), hlt, hS4.1.2.1.chg hc (by omega), hS4.1.2.2.1.chg hc (by omega), hS4.1.2.2.2.chg hc (by omega), hF⟩
      (try simp only [Act.put, List.setIfInBounds_toArray, List.set_cons_zero, List.set_cons_succ])
      refine hK.out _ _ (hS0' _ ⟨h.below, h.sty, h.rct, h.res⟩) (fun _ => ?_)
      refine Ord.doneT (NoPanic.normal ?_)
      clear hK K hS4 hS0' hF hc hlt
      go_wp2_with fail
      go_meet
      exact ⟨_, rfl, h⟩
  case rest =>
  obtain ⟨g, rfl, h⟩ := hcut
  clear hI hS0'
  rename_i w5
  have c30 : wc.cell? ⟨w.heap.size, 30, none⟩ = some (.int .i64 s.o3k) := h.sty.cell 30
  have c31 : wc.cell? ⟨w.heap.size, 31, none⟩ = some (.int .i64 s.o3n) := h.sty.cell 31
  have cW : wc.cell? ⟨w.heap.size + 1, 2, none⟩ = some (.int .i64 wd) := h.rct.cell 2
  go_wp2_with (first | (first | refine stop_load 28 _ rfl rfl ?_ | refine stop_store 28 _ _ rfl rfl ?_) | (first | refine stop_load 35 _ rfl rfl ?_ | refine stop_store 35 _ _ rfl rfl ?_))
  refine (block_Length s.o3k s.o3n wd _).mono ?_
  rintro e w6 ⟨rfl, hb⟩
  replace h := h.on hb
  clear hb c30 c31 cW
  have c26 : w6.cell? ⟨w.heap.size, 26, none⟩ = some (.int .i64 s.o1k) := h.sty.cell 26
  have c27 : w6.cell? ⟨w.heap.size, 27, none⟩ = some (.int .i64 s.o1n) := h.sty.cell 27
  have cW : w6.cell? ⟨w.heap.size + 1, 2, none⟩ = some (.int .i64 wd) := h.rct.cell 2
  go_wp2_with (first | (first | refine stop_load 28 _ rfl rfl ?_ | refine stop_store 28 _ _ rfl rfl ?_) | (first | refine stop_load 35 _ rfl rfl ?_ | refine stop_store 35 _ _ rfl rfl ?_))
  refine (block_Length s.o1k s.o1n wd _).mono ?_
  rintro e w7 ⟨rfl, hb⟩
  replace h := h.on hb
  clear hb c26 c27 cW
  have c4 : w7.cell? ⟨w.heap.size, 4, none⟩ = some (.int .i64 s.wk) := h.sty.cell 4
  have c5 : w7.cell? ⟨w.heap.size, 5, none⟩ = some (.int .i64 s.wn) := h.sty.cell 5
  have cW : w7.cell? ⟨w.heap.size + 1, 2, none⟩ = some (.int .i64 wd) := h.rct.cell 2
  go_wp2_with (first | (first | refine stop_load 28 _ rfl rfl ?_ | refine stop_store 28 _ _ rfl rfl ?_) | (first | refine stop_load 35 _ rfl rfl ?_ | refine stop_store 35 _ _ rfl rfl ?_))
  refine (block_Length s.wk s.wn wd _).mono ?_
  rintro e w8 ⟨rfl, hb⟩
  replace h := h.on hb
  clear hb c4 c5 cW
  obtain ⟨ga, ha⟩ : ∃ b, given s.o3k = b := ⟨_, rfl⟩
  obtain ⟨gb, hb⟩ : ∃ b, given s.o1k = b := ⟨_, rfl⟩
  obtain ⟨gc, hc⟩ : ∃ b, given s.wk = b := ⟨_, rfl⟩
  rw [ha, hb, hc]
  replace ha := hid ha
  replace hb := hid hb
  replace hc := hid hc
  go_upto_block 0 with (first | (first | refine stop_load 28 _ rfl rfl ?_ | refine stop_store 28 _ _ rfl rfl ?_) | (first | refine stop_load 35 _ rfl rfl ?_ | refine stop_store 35 _ _ rfl rfl ?_))
  go_cut [] (fun wx => Ac w wx s x y wd ht Fr.zero (s.aframe wd least most) g)
  case first =>
    cases gc with
    | true =>
      have f12 : w8.frozen? ⟨g, 12, none⟩ = false := h.frm.free 12
      have c12 : w8.cell? ⟨g, 12, none⟩ = some (.int .i64 (s.framed wd).w) := h.frm.cell 12
      go_wp2_with (first | (first | refine stop_load 28 _ rfl rfl ?_ | refine stop_store 28 _ _ rfl rfl ?_) | (first | refine stop_load 35 _ rfl rfl ?_ | refine stop_store 35 _ _ rfl rfl ?_))
      go_meet
      have e : s.aframe wd least most = { s.framed wd with w := max (len s.wk s.wn wd) 0 } := by simp [Sty.aframe, Sty.aw, hc.out]
      rw [e]
      exact h.put (frame_put12 h.frm _)
    | false =>
      cases ga with
      | true =>
        cases gb with
        | true =>
          go_wp2_with (first | (first | refine stop_load 28 _ rfl rfl ?_ | refine stop_store 28 _ _ rfl rfl ?_) | (first | refine stop_load 35 _ rfl rfl ?_ | refine stop_store 35 _ _ rfl rfl ?_))
          have hS : ∀ W, Ac w W s x y wd ht Fr.zero (s.framed wd) g → (fun W => Ac w W s x y wd ht Fr.zero (s.framed wd) g ∧ W.cell? ⟨w.heap.size + 1, 2, none⟩ = some (.int .i64 wd)) W := fun W h => ⟨h, h.rct.cell 2⟩
          refine wp_region_noPanic ?_
          refine Ord.region_M (S := fun W => Ac w W s x y wd ht Fr.zero (s.framed wd) g ∧ W.cell? ⟨w.heap.size + 1, 2, none⟩ = some (.int .i64 wd)) 11 (.one 0 true (.one 1 true (.one 2 true (.one 4 true (.one 6 true (.one 3 false (.one 5 false (.one 7 false (.one 8 false (.one 9 true (.one 10 true (.one 11 false (.nil))))))))))))) (by kernel_rfl) (by kernel_rfl) (by kernel_rfl) (by kernel_rfl) (by decide) (fun _ _ _ _ _ h => h) (hS _ h.drew) (fun hS0 => ?_)
          simp only [Ord.layT, List.getElem?_cons_zero, List.getElem?_cons_succ]
          (refine Ord.takeM (v := ?_) (Or.inl ⟨rfl, ?_⟩) ?_; rotate_left; (intro w hSw; (try dsimp only at hSw); go_simp; try (with_reducible rfl)); (try simp only [Act.put, List.setIfInBounds_toArray, List.set_cons_zero, List.set_cons_succ]))
          (refine Ord.takeM (v := ?_) (Or.inl ⟨rfl, ?_⟩) ?_; rotate_left; (intro w hSw; (try dsimp only at hSw); go_simp; try (with_reducible rfl)); (try simp only [Act.put, List.setIfInBounds_toArray, List.set_cons_zero, List.set_cons_succ]))
          (refine Ord.takeM (v := ?_) (Or.inl ⟨rfl, ?_⟩) ?_; rotate_left; (intro w hSw; (try dsimp only at hSw); go_simp; try (with_reducible rfl)); (try simp only [Act.put, List.setIfInBounds_toArray, List.set_cons_zero, List.set_cons_succ]))
          (refine Ord.takeM (v := ?_) (Or.inl ⟨rfl, ?_⟩) ?_; rotate_left; (intro w hSw; (try dsimp only at hSw); go_simp; try (with_reducible rfl)); (try simp only [Act.put, List.setIfInBounds_toArray, List.set_cons_zero, List.set_cons_succ]))
          (refine Ord.takeM (yieldsIf_load_mid rfl _ _ rfl g 0 rfl _ _ (fun w' h => h.1.frm.range) Try.underlying35 rfl info_frame') ?_; (try simp only [Act.put, List.setIfInBounds_toArray, List.set_cons_zero, List.set_cons_succ]))
          refine Ord.aloneM rfl rfl (fun K hK => ?_)
          go_simp
          refine (fixed_Sub _ _ _).mono ?_
          rintro e w' ⟨rfl, rfl⟩
          go_wp2_with fail
          refine hK.out _ _ hS0 (fun _ => ?_)
          clear hK K
          (try simp only [Act.put, List.setIfInBounds_toArray, List.set_cons_zero, List.set_cons_succ])
          refine Ord.aloneM rfl rfl (fun K hK => ?_)
          go_simp
          refine (fixed_Sub _ _ _).mono ?_
          rintro e w' ⟨rfl, rfl⟩
          go_wp2_with fail
          refine hK.out _ _ hS0 (fun _ => ?_)
          clear hK K
          (try simp only [Act.put, List.setIfInBounds_toArray, List.set_cons_zero, List.set_cons_succ])
          refine Ord.aloneM rfl rfl (fun K hK => ?_)
          go_simp
          refine (place_sum (s.framed wd) false _).mono ?_
          rintro e w' ⟨rfl, hbq⟩
          have hS1 := hS w' (hS0.1.on hbq)
          go_wp2_with fail
          refine hK.out _ _ hS1 (fun _ => ?_)
          clear hK K hbq hS0
          (try simp only [Act.put, List.setIfInBounds_toArray, List.set_cons_zero, List.set_cons_succ])
          refine Ord.aloneM rfl rfl (fun K hK => ?_)
          go_simp
          refine (fixed_Sub _ _ _).mono ?_
          rintro e w' ⟨rfl, rfl⟩
          go_wp2_with fail
          refine hK.out _ _ hS1 (fun _ => ?_)
          clear hK K
          (try simp only [Act.put, List.setIfInBounds_toArray, List.set_cons_zero, List.set_cons_succ])
          (refine Ord.takeM (v := ?_) (Or.inl ⟨rfl, ?_⟩) ?_; rotate_left; (intro w hSw; (try dsimp only at hSw); go_simp; try (with_reducible rfl)); (try simp only [Act.put, List.setIfInBounds_toArray, List.set_cons_zero, List.set_cons_succ]))
          (refine Ord.takeM (v := ?_) (Or.inl ⟨rfl, ?_⟩) ?_; rotate_left; (intro w hSw; (try dsimp only at hSw); go_simp; try (with_reducible rfl)); (try simp only [Act.put, List.setIfInBounds_toArray, List.set_cons_zero, List.set_cons_succ]))
          obtain ⟨h1, -⟩ := hS1
          have f12 : w'.frozen? ⟨g, 12, none⟩ = false := h1.frm.free 12
          have c12 : w'.cell? ⟨g, 12, none⟩ = some (.int .i64 0) := h1.frm.cell 12
          refine Ord.lastM rfl rfl (fun K hK => ?_)
          go_simp
          refine hK.out _ _ ?_
          clear hK K
          refine Ord.doneM (NoPanic.normal ?_)
          replace h := h1.put (frame_put12 h1.frm (max (sub (sub (sub wd (s.left wd)) (s.right wd)) ((s.framed wd).sum false)) 0))
          clear f12 c12 h1 hS
          go_wp2_with (first | (first | refine stop_load 28 _ rfl rfl ?_ | refine stop_store 28 _ _ rfl rfl ?_) | (first | refine stop_load 35 _ rfl rfl ?_ | refine stop_store 35 _ _ rfl rfl ?_))
          go_meet
          have e : s.aframe wd least most = { s.framed wd with w := max (sub (sub (sub wd (s.left wd)) (s.right wd)) ((s.framed wd).sum false)) 0 } := by simp [Sty.aframe, Sty.aw, hc.out, ha.out, hb.out]
          rw [e]
          exact h
        | false =>
          go_wp2_with (first | (first | refine stop_load 28 _ rfl rfl ?_ | refine stop_store 28 _ _ rfl rfl ?_) | (first | refine stop_load 35 _ rfl rfl ?_ | refine stop_store 35 _ _ rfl rfl ?_))
          refine ⟨?_⟩
          refine wl_load rfl 28 _ rfl _ rfl _ _ _ h.sty rfl rfl (info_style' s) ?_
          (try simp only [Act.put, List.setIfInBounds_toArray, List.set_cons_zero, List.set_cons_succ])
          go_wp2_with (first | (first | refine stop_load 28 _ rfl rfl ?_ | refine stop_store 28 _ _ rfl rfl ?_) | (first | refine stop_load 35 _ rfl rfl ?_ | refine stop_store 35 _ _ rfl rfl ?_))
          refine ⟨?_⟩
          refine wl_store rfl 28 _ _ rfl w8.heap.size s.arr rfl rfl 28 Sty.zero.arr (Blk.new _ _ _) rfl (info_style' _) hone ?_
          intro w9 hA hc'
          have hlt : g < w8.heap.size := h.frm.lt
          replace h := h.on (((Below.refl _ w8).alloc (Nat.le_refl _) _).trans (hc'.below (Nat.le_refl _)))
          clear hc'
          generalize w8.heap.size = q at *
          (try simp only [Act.put, List.setIfInBounds_toArray, List.set_cons_zero, List.set_cons_succ])
          have c4 : w9.cell? ⟨q, 4, none⟩ = some (.int .i64 s.wk) := hA.cell 4
          have c5 : w9.cell? ⟨q, 5, none⟩ = some (.int .i64 s.wn) := hA.cell 5
          have f4 : w9.frozen? ⟨q, 4, none⟩ = false := hA.free 4
          have f5 : w9.frozen? ⟨q, 5, none⟩ = false := hA.free 5
          go_wp2_with (first | (first | refine stop_load 28 _ rfl rfl ?_ | refine stop_store 28 _ _ rfl rfl ?_) | (first | refine stop_load 35 _ rfl rfl ?_ | refine stop_store 35 _ _ rfl rfl ?_))
          refine wp_forget (fun W => Ac w W s x y wd ht Fr.zero (s.framed wd) g ∧ Blk W q 28 (Sty.arr { s with wk := 0, wn := 0 })) ⟨(h.off hlt).off hlt, style_put4 hA⟩ ?_
          clear h hA c4 c5 f4 f5
          rintro w10 ⟨h, hA⟩
          have hS : ∀ W, (Ac w W s x y wd ht Fr.zero (s.framed wd) g ∧ Blk W q 28 (Sty.arr { s with wk := 0, wn := 0 })) → (fun W => (Ac w W s x y wd ht Fr.zero (s.framed wd) g ∧ Blk W q 28 (Sty.arr { s with wk := 0, wn := 0 })) ∧ W.cell? ⟨w.heap.size + 1, 2, none⟩ = some (.int .i64 wd)) W := fun W h => ⟨h, h.1.rct.cell 2⟩
          refine wp_region_noPanic ?_
          refine Ord.region_M (S := fun W => (Ac w W s x y wd ht Fr.zero (s.framed wd) g ∧ Blk W q 28 (Sty.arr { s with wk := 0, wn := 0 })) ∧ W.cell? ⟨w.heap.size + 1, 2, none⟩ = some (.int .i64 wd)) 13 (.one 0 true (.one 1 true (.one 2 true (.one 3 true (.one 5 true (.one 8 true (.one 9 true (.one 4 false (.one 6 false (.one 7 true (.one 10 false (.one 11 true (.one 12 true (.one 13 false (.nil))))))))))))))) (by kernel_rfl) (by kernel_rfl) (by kernel_rfl) (by kernel_rfl) (by decide) (fun _ _ _ _ _ h => h) (hS _ ⟨h.drew, hA.drew⟩) (fun hS0 => ?_)
          simp only [Ord.layT, List.getElem?_cons_zero, List.getElem?_cons_succ]
          (refine Ord.takeM (yieldsIf_load_mid rfl _ _ rfl q 0 rfl _ _ (fun w' h => h.1.2.range) Try.underlying28 rfl (by simpa using info_style' { s with wk := 0, wn := 0 })) ?_; (try simp only [Act.put, List.setIfInBounds_toArray, List.set_cons_zero, List.set_cons_succ]))
          (refine Ord.takeM (v := ?_) (Or.inl ⟨rfl, ?_⟩) ?_; rotate_left; (intro w hSw; (try dsimp only at hSw); go_simp; try (with_reducible rfl)); (try simp only [Act.put, List.setIfInBounds_toArray, List.set_cons_zero, List.set_cons_succ]))
          (refine Ord.takeM (v := ?_) (Or.inl ⟨rfl, ?_⟩) ?_; rotate_left; (intro w hSw; (try dsimp only at hSw); go_simp; try (with_reducible rfl)); (try simp only [Act.put, List.setIfInBounds_toArray, List.set_cons_zero, List.set_cons_succ]))
          (refine Ord.takeM (v := ?_) (Or.inl ⟨rfl, ?_⟩) ?_; rotate_left; (intro w hSw; (try dsimp only at hSw); go_simp; try (with_reducible rfl)); (try simp only [Act.put, List.setIfInBounds_toArray, List.set_cons_zero, List.set_cons_succ]))
          (refine Ord.takeM (v := ?_) (Or.inl ⟨rfl, ?_⟩) ?_; rotate_left; (intro w hSw; (try dsimp only at hSw); go_simp; try (with_reducible rfl)); (try simp only [Act.put, List.setIfInBounds_toArray, List.set_cons_zero, List.set_cons_succ]))
          (refine Ord.takeM (v := ?_) (Or.inl ⟨rfl, ?_⟩) ?_; rotate_left; (intro w hSw; (try dsimp only at hSw); go_simp; try (with_reducible rfl)); (try simp only [Act.put, List.setIfInBounds_toArray, List.set_cons_zero, List.set_cons_succ]))
          (refine Ord.takeM (v := ?_) (Or.inl ⟨rfl, ?_⟩) ?_; rotate_left; (intro w hSw; (try dsimp only at hSw); go_simp; try (with_reducible rfl)); (try simp only [Act.put, List.setIfInBounds_toArray, List.set_cons_zero, List.set_cons_succ]))
          refine Ord.aloneM rfl rfl (fun K hK => ?_)
          go_simp
          refine (fixed_Sub _ _ _).mono ?_
          rintro e w' ⟨rfl, rfl⟩
          go_wp2_with fail
          refine hK.out _ _ hS0 (fun _ => ?_)
          clear hK K
          (try simp only [Act.put, List.setIfInBounds_toArray, List.set_cons_zero, List.set_cons_succ])
          refine Ord.aloneM rfl rfl (fun K hK => ?_)
          go_simp
          refine (fixed_Sub _ _ _).mono ?_
          rintro e w' ⟨rfl, rfl⟩
          go_wp2_with fail
          refine hK.out _ _ hS0 (fun _ => ?_)
          clear hK K
          (try simp only [Act.put, List.setIfInBounds_toArray, List.set_cons_zero, List.set_cons_succ])
          (refine Ord.takeM (v := ?_) (Or.inl ⟨rfl, ?_⟩) ?_; rotate_left; (intro w hSw; (try dsimp only at hSw); go_simp; try (with_reducible rfl)); (try simp only [Act.put, List.setIfInBounds_toArray, List.set_cons_zero, List.set_cons_succ]))
          refine Ord.aloneM rfl rfl (fun K hK => ?_)
          go_simp
          refine (block_Fit { s with wk := 0, wn := 0 } _ _ _ _).mono ?_
          rintro e w' ⟨rfl, hbq⟩
          have hS1 := hS w' (⟨hS0.1.1.on hbq, hS0.1.2.below hbq hS0.1.2.lt⟩)
          go_wp2_with fail
          refine hK.out _ _ hS1 (fun _ => ?_)
          clear hK K hbq hS0
          (try simp only [Act.put, List.setIfInBounds_toArray, List.set_cons_zero, List.set_cons_succ])
          (refine Ord.takeM (v := ?_) (Or.inl ⟨rfl, ?_⟩) ?_; rotate_left; (intro w hSw; (try dsimp only at hSw); go_simp; try (with_reducible rfl)); (try simp only [Act.put, List.setIfInBounds_toArray, List.set_cons_zero, List.set_cons_succ]))
          (refine Ord.takeM (v := ?_) (Or.inl ⟨rfl, ?_⟩) ?_; rotate_left; (intro w hSw; (try dsimp only at hSw); go_simp; try (with_reducible rfl)); (try simp only [Act.put, List.setIfInBounds_toArray, List.set_cons_zero, List.set_cons_succ]))
          obtain ⟨⟨h1, hA1⟩, -⟩ := hS1
          have f12 : w'.frozen? ⟨g, 12, none⟩ = false := h1.frm.free 12
          have c12 : w'.cell? ⟨g, 12, none⟩ = some (.int .i64 0) := h1.frm.cell 12
          refine Ord.lastM rfl rfl (fun K hK => ?_)
          go_simp
          refine hK.out _ _ ?_
          clear hK K
          refine Ord.doneM (NoPanic.normal ?_)
          replace h := h1.put (frame_put12 h1.frm (Sty.fit { s with wk := 0, wn := 0 } (max (sub (sub wd (s.left wd)) (s.right wd)) 0) least most).w)
          clear f12 c12 h1 hA1 hA hS
          go_wp2_with (first | (first | refine stop_load 28 _ rfl rfl ?_ | refine stop_store 28 _ _ rfl rfl ?_) | (first | refine stop_load 35 _ rfl rfl ?_ | refine stop_store 35 _ _ rfl rfl ?_))
          go_meet
          have e : s.aframe wd least most = { s.framed wd with w := (Sty.fit { s with wk := 0, wn := 0 } (max (sub (sub wd (s.left wd)) (s.right wd)) 0) least most).w } := by simp [Sty.aframe, Sty.aw, hc.out, ha.out, hb.out]
          rw [e]
          exact h
      | false =>
        cases gb with
        | true =>
          go_wp2_with (first | (first | refine stop_load 28 _ rfl rfl ?_ | refine stop_store 28 _ _ rfl rfl ?_) | (first | refine stop_load 35 _ rfl rfl ?_ | refine stop_store 35 _ _ rfl rfl ?_))
          refine ⟨?_⟩
          refine wl_load rfl 28 _ rfl _ rfl _ _ _ h.sty rfl rfl (info_style' s) ?_
          (try simp only [Act.put, List.setIfInBounds_toArray, List.set_cons_zero, List.set_cons_succ])
          go_wp2_with (first | (first | refine stop_load 28 _ rfl rfl ?_ | refine stop_store 28 _ _ rfl rfl ?_) | (first | refine stop_load 35 _ rfl rfl ?_ | refine stop_store 35 _ _ rfl rfl ?_))
          refine ⟨?_⟩
          refine wl_store rfl 28 _ _ rfl w8.heap.size s.arr rfl rfl 28 Sty.zero.arr (Blk.new _ _ _) rfl (info_style' _) hone ?_
          intro w9 hA hc'
          have hlt : g < w8.heap.size := h.frm.lt
          replace h := h.on (((Below.refl _ w8).alloc (Nat.le_refl _) _).trans (hc'.below (Nat.le_refl _)))
          clear hc'
          generalize w8.heap.size = q at *
          (try simp only [Act.put, List.setIfInBounds_toArray, List.set_cons_zero, List.set_cons_succ])
          have c4 : w9.cell? ⟨q, 4, none⟩ = some (.int .i64 s.wk) := hA.cell 4
          have c5 : w9.cell? ⟨q, 5, none⟩ = some (.int .i64 s.wn) := hA.cell 5
          have f4 : w9.frozen? ⟨q, 4, none⟩ = false := hA.free 4
          have f5 : w9.frozen? ⟨q, 5, none⟩ = false := hA.free 5
          go_wp2_with (first | (first | refine stop_load 28 _ rfl rfl ?_ | refine stop_store 28 _ _ rfl rfl ?_) | (first | refine stop_load 35 _ rfl rfl ?_ | refine stop_store 35 _ _ rfl rfl ?_))
          refine wp_forget (fun W => Ac w W s x y wd ht Fr.zero (s.framed wd) g ∧ Blk W q 28 (Sty.arr { s with wk := 0, wn := 0 })) ⟨(h.off hlt).off hlt, style_put4 hA⟩ ?_
          clear h hA c4 c5 f4 f5
          rintro w10 ⟨h, hA⟩
          have hS : ∀ W, (Ac w W s x y wd ht Fr.zero (s.framed wd) g ∧ Blk W q 28 (Sty.arr { s with wk := 0, wn := 0 })) → (fun W => (Ac w W s x y wd ht Fr.zero (s.framed wd) g ∧ Blk W q 28 (Sty.arr { s with wk := 0, wn := 0 })) ∧ W.cell? ⟨w.heap.size + 1, 2, none⟩ = some (.int .i64 wd)) W := fun W h => ⟨h, h.1.rct.cell 2⟩
          refine wp_region_noPanic ?_
          refine Ord.region_M (S := fun W => (Ac w W s x y wd ht Fr.zero (s.framed wd) g ∧ Blk W q 28 (Sty.arr { s with wk := 0, wn := 0 })) ∧ W.cell? ⟨w.heap.size + 1, 2, none⟩ = some (.int .i64 wd)) 13 (.one 0 true (.one 1 true (.one 2 true (.one 3 true (.one 5 true (.one 8 true (.one 9 true (.one 4 false (.one 6 false (.one 7 true (.one 10 false (.one 11 true (.one 12 true (.one 13 false (.nil))))))))))))))) (by kernel_rfl) (by kernel_rfl) (by kernel_rfl) (by kernel_rfl) (by decide) (fun _ _ _ _ _ h => h) (hS _ ⟨h.drew, hA.drew⟩) (fun hS0 => ?_)
          simp only [Ord.layT, List.getElem?_cons_zero, List.getElem?_cons_succ]
          (refine Ord.takeM (yieldsIf_load_mid rfl _ _ rfl q 0 rfl _ _ (fun w' h => h.1.2.range) Try.underlying28 rfl (by simpa using info_style' { s with wk := 0, wn := 0 })) ?_; (try simp only [Act.put, List.setIfInBounds_toArray, List.set_cons_zero, List.set_cons_succ]))
          (refine Ord.takeM (v := ?_) (Or.inl ⟨rfl, ?_⟩) ?_; rotate_left; (intro w hSw; (try dsimp only at hSw); go_simp; try (with_reducible rfl)); (try simp only [Act.put, List.setIfInBounds_toArray, List.set_cons_zero, List.set_cons_succ]))
          (refine Ord.takeM (v := ?_) (Or.inl ⟨rfl, ?_⟩) ?_; rotate_left; (intro w hSw; (try dsimp only at hSw); go_simp; try (with_reducible rfl)); (try simp only [Act.put, List.setIfInBounds_toArray, List.set_cons_zero, List.set_cons_succ]))
          (refine Ord.takeM (v := ?_) (Or.inl ⟨rfl, ?_⟩) ?_; rotate_left; (intro w hSw; (try dsimp only at hSw); go_simp; try (with_reducible rfl)); (try simp only [Act.put, List.setIfInBounds_toArray, List.set_cons_zero, List.set_cons_succ]))
          (refine Ord.takeM (v := ?_) (Or.inl ⟨rfl, ?_⟩) ?_; rotate_left; (intro w hSw; (try dsimp only at hSw); go_simp; try (with_reducible rfl)); (try simp only [Act.put, List.setIfInBounds_toArray, List.set_cons_zero, List.set_cons_succ]))
          (refine Ord.takeM (v := ?_) (Or.inl ⟨rfl, ?_⟩) ?_; rotate_left; (intro w hSw; (try dsimp only at hSw); go_simp; try (with_reducible rfl)); (try simp only [Act.put, List.setIfInBounds_toArray, List.set_cons_zero, List.set_cons_succ]))
          (refine Ord.takeM (v := ?_) (Or.inl ⟨rfl, ?_⟩) ?_; rotate_left; (intro w hSw; (try dsimp only at hSw); go_simp; try (with_reducible rfl)); (try simp only [Act.put, List.setIfInBounds_toArray, List.set_cons_zero, List.set_cons_succ]))
          refine Ord.aloneM rfl rfl (fun K hK => ?_)
          go_simp
          refine (fixed_Sub _ _ _).mono ?_
          rintro e w' ⟨rfl, rfl⟩
          go_wp2_with fail
          refine hK.out _ _ hS0 (fun _ => ?_)
          clear hK K
          (try simp only [Act.put, List.setIfInBounds_toArray, List.set_cons_zero, List.set_cons_succ])
          refine Ord.aloneM rfl rfl (fun K hK => ?_)
          go_simp
          refine (fixed_Sub _ _ _).mono ?_
          rintro e w' ⟨rfl, rfl⟩
          go_wp2_with fail
          refine hK.out _ _ hS0 (fun _ => ?_)
          clear hK K
          (try simp only [Act.put, List.setIfInBounds_toArray, List.set_cons_zero, List.set_cons_succ])
          (refine Ord.takeM (v := ?_) (Or.inl ⟨rfl, ?_⟩) ?_; rotate_left; (intro w hSw; (try dsimp only at hSw); go_simp; try (with_reducible rfl)); (try simp only [Act.put, List.setIfInBounds_toArray, List.set_cons_zero, List.set_cons_succ]))
          refine Ord.aloneM rfl rfl (fun K hK => ?_)
          go_simp
          refine (block_Fit { s with wk := 0, wn := 0 } _ _ _ _).mono ?_
          rintro e w' ⟨rfl, hbq⟩
          have hS1 := hS w' (⟨hS0.1.1.on hbq, hS0.1.2.below hbq hS0.1.2.lt⟩)
          go_wp2_with fail
          refine hK.out _ _ hS1 (fun _ => ?_)
          clear hK K hbq hS0
          (try simp only [Act.put, List.setIfInBounds_toArray, List.set_cons_zero, List.set_cons_succ])
          (refine Ord.takeM (v := ?_) (Or.inl ⟨rfl, ?_⟩) ?_; rotate_left; (intro w hSw; (try dsimp only at hSw); go_simp; try (with_reducible rfl)); (try simp only [Act.put, List.setIfInBounds_toArray, List.set_cons_zero, List.set_cons_succ]))
          (refine Ord.takeM (v := ?_) (Or.inl ⟨rfl, ?_⟩) ?_; rotate_left; (intro w hSw; (try dsimp only at hSw); go_simp; try (with_reducible rfl)); (try simp only [Act.put, List.setIfInBounds_toArray, List.set_cons_zero, List.set_cons_succ]))
          obtain ⟨⟨h1, hA1⟩, -⟩ := hS1
          have f12 : w'.frozen? ⟨g, 12, none⟩ = false := h1.frm.free 12
          have c12 : w'.cell? ⟨g, 12, none⟩ = some (.int .i64 0) := h1.frm.cell 12
          refine Ord.lastM rfl rfl (fun K hK => ?_)
          go_simp
          refine hK.out _ _ ?_
          clear hK K
          refine Ord.doneM (NoPanic.normal ?_)
          replace h := h1.put (frame_put12 h1.frm (Sty.fit { s with wk := 0, wn := 0 } (max (sub (sub wd (s.left wd)) (s.right wd)) 0) least most).w)
          clear f12 c12 h1 hA1 hA hS
          go_wp2_with (first | (first | refine stop_load 28 _ rfl rfl ?_ | refine stop_store 28 _ _ rfl rfl ?_) | (first | refine stop_load 35 _ rfl rfl ?_ | refine stop_store 35 _ _ rfl rfl ?_))
          go_meet
          have e : s.aframe wd least most = { s.framed wd with w := (Sty.fit { s with wk := 0, wn := 0 } (max (sub (sub wd (s.left wd)) (s.right wd)) 0) least most).w } := by simp [Sty.aframe, Sty.aw, hc.out, ha.out, hb.out]
          rw [e]
          exact h
        | false =>
          go_wp2_with (first | (first | refine stop_load 28 _ rfl rfl ?_ | refine stop_store 28 _ _ rfl rfl ?_) | (first | refine stop_load 35 _ rfl rfl ?_ | refine stop_store 35 _ _ rfl rfl ?_))
          refine ⟨?_⟩
          refine wl_load rfl 28 _ rfl _ rfl _ _ _ h.sty rfl rfl (info_style' s) ?_
          (try simp only [Act.put, List.setIfInBounds_toArray, List.set_cons_zero, List.set_cons_succ])
          go_wp2_with (first | (first | refine stop_load 28 _ rfl rfl ?_ | refine stop_store 28 _ _ rfl rfl ?_) | (first | refine stop_load 35 _ rfl rfl ?_ | refine stop_store 35 _ _ rfl rfl ?_))
          refine ⟨?_⟩
          refine wl_store rfl 28 _ _ rfl w8.heap.size s.arr rfl rfl 28 Sty.zero.arr (Blk.new _ _ _) rfl (info_style' _) hone ?_
          intro w9 hA hc'
          have hlt : g < w8.heap.size := h.frm.lt
          replace h := h.on (((Below.refl _ w8).alloc (Nat.le_refl _) _).trans (hc'.below (Nat.le_refl _)))
          clear hc'
          generalize w8.heap.size = q at *
          (try simp only [Act.put, List.setIfInBounds_toArray, List.set_cons_zero, List.set_cons_succ])
          have c4 : w9.cell? ⟨q, 4, none⟩ = some (.int .i64 s.wk) := hA.cell 4
          have c5 : w9.cell? ⟨q, 5, none⟩ = some (.int .i64 s.wn) := hA.cell 5
          have f4 : w9.frozen? ⟨q, 4, none⟩ = false := hA.free 4
          have f5 : w9.frozen? ⟨q, 5, none⟩ = false := hA.free 5
          go_wp2_with (first | (first | refine stop_load 28 _ rfl rfl ?_ | refine stop_store 28 _ _ rfl rfl ?_) | (first | refine stop_load 35 _ rfl rfl ?_ | refine stop_store 35 _ _ rfl rfl ?_))
          refine wp_forget (fun W => Ac w W s x y wd ht Fr.zero (s.framed wd) g ∧ Blk W q 28 (Sty.arr { s with wk := 0, wn := 0 })) ⟨(h.off hlt).off hlt, style_put4 hA⟩ ?_
          clear h hA c4 c5 f4 f5
          rintro w10 ⟨h, hA⟩
          have hS : ∀ W, (Ac w W s x y wd ht Fr.zero (s.framed wd) g ∧ Blk W q 28 (Sty.arr { s with wk := 0, wn := 0 })) → (fun W => (Ac w W s x y wd ht Fr.zero (s.framed wd) g ∧ Blk W q 28 (Sty.arr { s with wk := 0, wn := 0 })) ∧ W.cell? ⟨w.heap.size + 1, 2, none⟩ = some (.int .i64 wd)) W := fun W h => ⟨h, h.1.rct.cell 2⟩
          refine wp_region_noPanic ?_
          refine Ord.region_M (S := fun W => (Ac w W s x y wd ht Fr.zero (s.framed wd) g ∧ Blk W q 28 (Sty.arr { s with wk := 0, wn := 0 })) ∧ W.cell? ⟨w.heap.size + 1, 2, none⟩ = some (.int .i64 wd)) 13 (.one 0 true (.one 1 true (.one 2 true (.one 3 true (.one 5 true (.one 8 true (.one 9 true (.one 4 false (.one 6 false (.one 7 true (.one 10 false (.one 11 true (.one 12 true (.one 13 false (.nil))))))))))))))) (by kernel_rfl) (by kernel_rfl) (by kernel_rfl) (by kernel_rfl) (by decide) (fun _ _ _ _ _ h => h) (hS _ ⟨h.drew, hA.drew⟩) (fun hS0 => ?_)
          simp only [Ord.layT, List.getElem?_cons_zero, List.getElem?_cons_succ]
          (refine Ord.takeM (yieldsIf_load_mid rfl _ _ rfl q 0 rfl _ _ (fun w' h => h.1.2.range) Try.underlying28 rfl (by simpa using info_style' { s with wk := 0, wn := 0 })) ?_; (try simp only [Act.put, List.setIfInBounds_toArray, List.set_cons_zero, List.set_cons_succ]))
          (refine Ord.takeM (v := ?_) (Or.inl ⟨rfl, ?_⟩) ?_; rotate_left; (intro w hSw; (try dsimp only at hSw); go_simp; try (with_reducible rfl)); (try simp only [Act.put, List.setIfInBounds_toArray, List.set_cons_zero, List.set_cons_succ]))
          (refine Ord.takeM (v := ?_) (Or.inl ⟨rfl, ?_⟩) ?_; rotate_left; (intro w hSw; (try dsimp only at hSw); go_simp; try (with_reducible rfl)); (try simp only [Act.put, List.setIfInBounds_toArray, List.set_cons_zero, List.set_cons_succ]))
          (refine Ord.takeM (v := ?_) (Or.inl ⟨rfl, ?_⟩) ?_; rotate_left; (intro w hSw; (try dsimp only at hSw); go_simp; try (with_reducible rfl)); (try simp only [Act.put, List.setIfInBounds_toArray, List.set_cons_zero, List.set_cons_succ]))
          (refine Ord.takeM (v := ?_) (Or.inl ⟨rfl, ?_⟩) ?_; rotate_left; (intro w hSw; (try dsimp only at hSw); go_simp; try (with_reducible rfl)); (try simp only [Act.put, List.setIfInBounds_toArray, List.set_cons_zero, List.set_cons_succ]))
          (refine Ord.takeM (v := ?_) (Or.inl ⟨rfl, ?_⟩) ?_; rotate_left; (intro w hSw; (try dsimp only at hSw); go_simp; try (with_reducible rfl)); (try simp only [Act.put, List.setIfInBounds_toArray, List.set_cons_zero, List.set_cons_succ]))
          (refine Ord.takeM (v := ?_) (Or.inl ⟨rfl, ?_⟩) ?_; rotate_left; (intro w hSw; (try dsimp only at hSw); go_simp; try (with_reducible rfl)); (try simp only [Act.put, List.setIfInBounds_toArray, List.set_cons_zero, List.set_cons_succ]))
          refine Ord.aloneM rfl rfl (fun K hK => ?_)
          go_simp
          refine (fixed_Sub _ _ _).mono ?_
          rintro e w' ⟨rfl, rfl⟩
          go_wp2_with fail
          refine hK.out _ _ hS0 (fun _ => ?_)
          clear hK K
          (try simp only [Act.put, List.setIfInBounds_toArray, List.set_cons_zero, List.set_cons_succ])
          refine Ord.aloneM rfl rfl (fun K hK => ?_)
          go_simp
          refine (fixed_Sub _ _ _).mono ?_
          rintro e w' ⟨rfl, rfl⟩
          go_wp2_with fail
          refine hK.out _ _ hS0 (fun _ => ?_)
          clear hK K
          (try simp only [Act.put, List.setIfInBounds_toArray, List.set_cons_zero, List.set_cons_succ])
          (refine Ord.takeM (v := ?_) (Or.inl ⟨rfl, ?_⟩) ?_; rotate_left; (intro w hSw; (try dsimp only at hSw); go_simp; try (with_reducible rfl)); (try simp only [Act.put, List.setIfInBounds_toArray, List.set_cons_zero, List.set_cons_succ]))
          refine Ord.aloneM rfl rfl (fun K hK => ?_)
          go_simp
          refine (block_Fit { s with wk := 0, wn := 0 } _ _ _ _).mono ?_
          rintro e w' ⟨rfl, hbq⟩
          have hS1 := hS w' (⟨hS0.1.1.on hbq, hS0.1.2.below hbq hS0.1.2.lt⟩)
          go_wp2_with fail
          refine hK.out _ _ hS1 (fun _ => ?_)
          clear hK K hbq hS0
          (try simp only [Act.put, List.setIfInBounds_toArray, List.set_cons_zero, List.set_cons_succ])
          (refine Ord.takeM (v := ?_) (Or.inl ⟨rfl, ?_⟩) ?_; rotate_left; (intro w hSw; (try dsimp only at hSw); go_simp; try (with_reducible rfl)); (try simp only [Act.put, List.setIfInBounds_toArray, List.set_cons_zero, List.set_cons_succ]))
          (refine Ord.takeM (v := ?_) (Or.inl ⟨rfl, ?_⟩) ?_; rotate_left; (intro w hSw; (try dsimp only at hSw); go_simp; try (with_reducible rfl)); (try simp only [Act.put, List.setIfInBounds_toArray, List.set_cons_zero, List.set_cons_succ]))
          obtain ⟨⟨h1, hA1⟩, -⟩ := hS1
          have f12 : w'.frozen? ⟨g, 12, none⟩ = false := h1.frm.free 12
          have c12 : w'.cell? ⟨g, 12, none⟩ = some (.int .i64 0) := h1.frm.cell 12
          refine Ord.lastM rfl rfl (fun K hK => ?_)
          go_simp
          refine hK.out _ _ ?_
          clear hK K
          refine Ord.doneM (NoPanic.normal ?_)
          replace h := h1.put (frame_put12 h1.frm (Sty.fit { s with wk := 0, wn := 0 } (max (sub (sub wd (s.left wd)) (s.right wd)) 0) least most).w)
          clear f12 c12 h1 hA1 hA hS
          go_wp2_with (first | (first | refine stop_load 28 _ rfl rfl ?_ | refine stop_store 28 _ _ rfl rfl ?_) | (first | refine stop_load 35 _ rfl rfl ?_ | refine stop_store 35 _ _ rfl rfl ?_))
          go_meet
          have e : s.aframe wd least most = { s.framed wd with w := (Sty.fit { s with wk := 0, wn := 0 } (max (sub (sub wd (s.left wd)) (s.right wd)) 0) least most).w } := by simp [Sty.aframe, Sty.aw, hc.out, ha.out, hb.out]
          rw [e]
          exact h
  case rest =>
    clear h
    have h := hcut
    clear hcut
    obtain ⟨F, hF⟩ : ∃ F, s.aframe wd least most = F := ⟨_, rfl⟩
    rw [hF] at h
    replace hF := hid hF
    go_wp2_with (first | (first | refine stop_load 28 _ rfl rfl ?_ | refine stop_store 28 _ _ rfl rfl ?_) | (first | refine stop_load 35 _ rfl rfl ?_ | refine stop_store 35 _ _ rfl rfl ?_))
    refine ⟨?_⟩
    refine wl_load rfl 35 _ rfl _ rfl _ _ _ h.frm rfl rfl (info_frame _) ?_
    (try simp only [Act.put, List.setIfInBounds_toArray, List.set_cons_zero, List.set_cons_succ])
    go_wp2_with (first | (first | refine stop_load 28 _ rfl rfl ?_ | refine stop_store 28 _ _ rfl rfl ?_) | (first | refine stop_load 35 _ rfl rfl ?_ | refine stop_store 35 _ _ rfl rfl ?_))
    refine (block_Inner F _).mono ?_
    rintro e w7 ⟨rfl, hbq⟩
    replace h := h.on hbq
    clear hbq
    cases ga with
    | true =>
      go_wp2_with (first | (first | refine stop_load 28 _ rfl rfl ?_ | refine stop_store 28 _ _ rfl rfl ?_) | (first | refine stop_load 35 _ rfl rfl ?_ | refine stop_store 35 _ _ rfl rfl ?_))
      have hS : ∀ W, Ac w W s x y wd ht Fr.zero (F) g → (fun W => Ac w W s x y wd ht Fr.zero (F) g ∧ W.cell? ⟨w.heap.size + 1, 0, none⟩ = some (.int .i64 x) ∧ W.cell? ⟨g, 3, none⟩ = some (.int .i64 F.m.l)) W := fun W h => ⟨h, h.rct.cell 0, h.frm.cell 3⟩
      refine wp_region_noPanic ?_
      refine Ord.region_M (S := fun W => Ac w W s x y wd ht Fr.zero (F) g ∧ W.cell? ⟨w.heap.size + 1, 0, none⟩ = some (.int .i64 x) ∧ W.cell? ⟨g, 3, none⟩ = some (.int .i64 F.m.l)) 10 (.one 0 true (.one 1 true (.one 2 true (.one 3 true (.one 4 true (.one 5 true (.one 8 true (.one 6 false (.one 7 false (.one 9 true (.one 10 false (.nil)))))))))))) (by kernel_rfl) (by kernel_rfl) (by kernel_rfl) (by kernel_rfl) (by decide) (fun _ _ _ _ _ h => h) (hS _ h.drew) (fun hS0 => ?_)
      simp only [Ord.layT, List.getElem?_cons_zero, List.getElem?_cons_succ]
      (refine Ord.takeM (v := ?_) (Or.inl ⟨rfl, ?_⟩) ?_; rotate_left; (intro w hSw; (try dsimp only at hSw); go_simp; try (with_reducible rfl)); (try simp only [Act.put, List.setIfInBounds_toArray, List.set_cons_zero, List.set_cons_succ]))
      (refine Ord.takeM (v := ?_) (Or.inl ⟨rfl, ?_⟩) ?_; rotate_left; (intro w hSw; (try dsimp only at hSw); go_simp; try (with_reducible rfl)); (try simp only [Act.put, List.setIfInBounds_toArray, List.set_cons_zero, List.set_cons_succ]))
      (refine Ord.takeM (v := ?_) (Or.inl ⟨rfl, ?_⟩) ?_; rotate_left; (intro w hSw; (try dsimp only at hSw); go_simp; try (with_reducible rfl)); (try simp only [Act.put, List.setIfInBounds_toArray, List.set_cons_zero, List.set_cons_succ]))
      (refine Ord.takeM (v := ?_) (Or.inl ⟨rfl, ?_⟩) ?_; rotate_left; (intro w hSw; (try dsimp only at hSw); go_simp; try (with_reducible rfl)); (try simp only [Act.put, List.setIfInBounds_toArray, List.set_cons_zero, List.set_cons_succ]))
      (refine Ord.takeM (v := ?_) (Or.inl ⟨rfl, ?_⟩) ?_; rotate_left; (intro w hSw; (try dsimp only at hSw); go_simp; try (with_reducible rfl)); (try simp only [Act.put, List.setIfInBounds_toArray, List.set_cons_zero, List.set_cons_succ]))
      (refine Ord.takeM (v := ?_) (Or.inl ⟨rfl, ?_⟩) ?_; rotate_left; (intro w hSw; (try dsimp only at hSw); go_simp; try (with_reducible rfl)); (try simp only [Act.put, List.setIfInBounds_toArray, List.set_cons_zero, List.set_cons_succ]))
      (refine Ord.takeM (yieldsIf_load_mid rfl _ _ rfl g 0 rfl _ _ (fun w' h => h.1.frm.range) Try.underlying35 rfl info_frame') ?_; (try simp only [Act.put, List.setIfInBounds_toArray, List.set_cons_zero, List.set_cons_succ]))
      refine Ord.aloneM rfl rfl (fun K hK => ?_)
      go_simp
      have hS1 := hS (w7.alloc (.cells #[.int .i64 x, .int .i64 (len s.o3k s.o3n wd), .int .i64 F.m.l] 2)).drew (h.on (by go_grown))
      refine hK.out _ _ hS1 (fun _ => ?_)
      clear hK K hS0
      (try simp only [Act.put, List.setIfInBounds_toArray, List.set_cons_zero, List.set_cons_succ])
      refine Ord.aloneM rfl rfl (fun K hK => ?_)
      go_simp
      refine (sum3 x (len s.o3k s.o3n wd) F.m.l _ _ (Blk.new w7 2 #[.int .i64 x, .int .i64 (len s.o3k s.o3n wd), .int .i64 F.m.l]).drew).mono ?_
      rintro e w' ⟨rfl, rfl⟩
      go_wp2_with fail
      refine hK.out _ _ hS1 (fun _ => ?_)
      clear hK K
      (try simp only [Act.put, List.setIfInBounds_toArray, List.set_cons_zero, List.set_cons_succ])
      (refine Ord.takeM (v := ?_) (Or.inl ⟨rfl, ?_⟩) ?_; rotate_left; (intro w hSw; (try dsimp only at hSw); go_simp; try (with_reducible rfl)); (try simp only [Act.put, List.setIfInBounds_toArray, List.set_cons_zero, List.set_cons_succ]))
      refine Ord.lastM rfl rfl (fun K hK => ?_)
      refine wp_store_row 35 _ _ rfl (w.heap.size + 1 + 1) F.arr rfl rfl 35 Fr.zero.arr hS1.1.res rfl (info_frame _) (frame_one _) ?_
      intro w9 hR hc'
      have hg := hS1.1.below.trans (hc'.below (by omega))
      (try simp only [Act.put, List.setIfInBounds_toArray, List.set_cons_zero, List.set_cons_succ])
      refine hK.out _ _ ?_
      clear hK K hc' hS h hS1
      refine Ord.doneM (NoPanic.normal ?_)
      go_wp2_with fail
      refine bodyPost_ret (results_pair 10 11 35 _ rfl _ rfl rfl hR _ rfl rfl (info_frame _)) rfl ?_
      exact ⟨by rw [hF.out]; simp [Sty.ax, ha.out, Sty.left, Sty.right], hg⟩
    | false =>
      cases gb with
      | true =>
        have d0 : w7.cell? ⟨w.heap.size + 1, 0, none⟩ = some (.int .i64 x) := h.rct.cell 0
        have d2 : w7.cell? ⟨w.heap.size + 1, 2, none⟩ = some (.int .i64 wd) := h.rct.cell 2
        go_wp2_with (first | (go_at_call 40; refine (fixed_Add _ _ _).mono ?_; rintro e w' ⟨rfl, rfl⟩) | (go_at_call 35; refine (fixed_Sub _ _ _).mono ?_; rintro e w' ⟨rfl, rfl⟩))
        clear d0 d2
        have hS : ∀ W, Ac w W s x y wd ht Fr.zero (F) g → (fun W => Ac w W s x y wd ht Fr.zero (F) g ∧ W.cell? ⟨g, 1, none⟩ = some (.int .i64 F.m.r) ∧ W.cell? ⟨g, 12, none⟩ = some (.int .i64 F.w)) W := fun W h => ⟨h, h.frm.cell 1, h.frm.cell 12⟩
        refine wp_region_noPanic ?_
        refine Ord.region_M (S := fun W => Ac w W s x y wd ht Fr.zero (F) g ∧ W.cell? ⟨g, 1, none⟩ = some (.int .i64 F.m.r) ∧ W.cell? ⟨g, 12, none⟩ = some (.int .i64 F.w)) 12 (.one 0 true (.one 1 true (.one 2 true (.one 3 true (.one 5 true (.one 7 true (.one 8 true (.one 10 true (.one 4 false (.one 6 false (.one 9 false (.one 11 true (.one 12 false (.nil)))))))))))))) (by kernel_rfl) (by kernel_rfl) (by kernel_rfl) (by kernel_rfl) (by decide) (fun _ _ _ _ _ h => h) (hS _ h.drew) (fun hS0 => ?_)
        simp only [Ord.layT, List.getElem?_cons_zero, List.getElem?_cons_succ]
        (refine Ord.takeM (v := ?_) (Or.inl ⟨rfl, ?_⟩) ?_; rotate_left; (intro w hSw; (try dsimp only at hSw); go_simp; try (with_reducible rfl)); (try simp only [Act.put, List.setIfInBounds_toArray, List.set_cons_zero, List.set_cons_succ]))
        (refine Ord.takeM (v := ?_) (Or.inl ⟨rfl, ?_⟩) ?_; rotate_left; (intro w hSw; (try dsimp only at hSw); go_simp; try (with_reducible rfl)); (try simp only [Act.put, List.setIfInBounds_toArray, List.set_cons_zero, List.set_cons_succ]))
        (refine Ord.takeM (v := ?_) (Or.inl ⟨rfl, ?_⟩) ?_; rotate_left; (intro w hSw; (try dsimp only at hSw); go_simp; try (with_reducible rfl)); (try simp only [Act.put, List.setIfInBounds_toArray, List.set_cons_zero, List.set_cons_succ]))
        (refine Ord.takeM (v := ?_) (Or.inl ⟨rfl, ?_⟩) ?_; rotate_left; (intro w hSw; (try dsimp only at hSw); go_simp; try (with_reducible rfl)); (try simp only [Act.put, List.setIfInBounds_toArray, List.set_cons_zero, List.set_cons_succ]))
        (refine Ord.takeM (v := ?_) (Or.inl ⟨rfl, ?_⟩) ?_; rotate_left; (intro w hSw; (try dsimp only at hSw); go_simp; try (with_reducible rfl)); (try simp only [Act.put, List.setIfInBounds_toArray, List.set_cons_zero, List.set_cons_succ]))
        (refine Ord.takeM (v := ?_) (Or.inl ⟨rfl, ?_⟩) ?_; rotate_left; (intro w hSw; (try dsimp only at hSw); go_simp; try (with_reducible rfl)); (try simp only [Act.put, List.setIfInBounds_toArray, List.set_cons_zero, List.set_cons_succ]))
        (refine Ord.takeM (v := ?_) (Or.inl ⟨rfl, ?_⟩) ?_; rotate_left; (intro w hSw; (try dsimp only at hSw); go_simp; try (with_reducible rfl)); (try simp only [Act.put, List.setIfInBounds_toArray, List.set_cons_zero, List.set_cons_succ]))
        (refine Ord.takeM (yieldsIf_load_mid rfl _ _ rfl g 0 rfl _ _ (fun w' h => h.1.frm.range) Try.underlying35 rfl info_frame') ?_; (try simp only [Act.put, List.setIfInBounds_toArray, List.set_cons_zero, List.set_cons_succ]))
        refine Ord.aloneM rfl rfl (fun K hK => ?_)
        go_simp
        refine (fixed_Sub _ _ _).mono ?_
        rintro e w' ⟨rfl, rfl⟩
        go_wp2_with fail
        refine hK.out _ _ hS0 (fun _ => ?_)
        clear hK K
        (try simp only [Act.put, List.setIfInBounds_toArray, List.set_cons_zero, List.set_cons_succ])
        refine Ord.aloneM rfl rfl (fun K hK => ?_)
        go_simp
        refine (fixed_Sub _ _ _).mono ?_
        rintro e w' ⟨rfl, rfl⟩
        go_wp2_with fail
        refine hK.out _ _ hS0 (fun _ => ?_)
        clear hK K
        (try simp only [Act.put, List.setIfInBounds_toArray, List.set_cons_zero, List.set_cons_succ])
        refine Ord.aloneM rfl rfl (fun K hK => ?_)
        go_simp
        refine (fixed_Sub _ _ _).mono ?_
        rintro e w' ⟨rfl, rfl⟩
        go_wp2_with fail
        refine hK.out _ _ hS0 (fun _ => ?_)
        clear hK K
        (try simp only [Act.put, List.setIfInBounds_toArray, List.set_cons_zero, List.set_cons_succ])
        (refine Ord.takeM (v := ?_) (Or.inl ⟨rfl, ?_⟩) ?_; rotate_left; (intro w hSw; (try dsimp only at hSw); go_simp; try (with_reducible rfl)); (try simp only [Act.put, List.setIfInBounds_toArray, List.set_cons_zero, List.set_cons_succ]))
        refine Ord.lastM rfl rfl (fun K hK => ?_)
        refine wp_store_row 35 _ _ rfl (w.heap.size + 1 + 1) F.arr rfl rfl 35 Fr.zero.arr hS0.1.res rfl (info_frame _) (frame_one _) ?_
        intro w9 hR hc'
        have hg := hS0.1.below.trans (hc'.below (by omega))
        (try simp only [Act.put, List.setIfInBounds_toArray, List.set_cons_zero, List.set_cons_succ])
        refine hK.out _ _ ?_
        clear hK K hc' hS h hS0
        refine Ord.doneM (NoPanic.normal ?_)
        go_wp2_with fail
        refine bodyPost_ret (results_pair 10 11 35 _ rfl _ rfl rfl hR _ rfl rfl (info_frame _)) rfl ?_
        exact ⟨by rw [hF.out]; simp [Sty.ax, ha.out, hb.out, Sty.left, Sty.right], hg⟩
      | false =>
        go_wp2_with (first | (first | refine stop_load 28 _ rfl rfl ?_ | refine stop_store 28 _ _ rfl rfl ?_) | (first | refine stop_load 35 _ rfl rfl ?_ | refine stop_store 35 _ _ rfl rfl ?_))
        have hS : ∀ W, Ac w W s x y wd ht Fr.zero (F) g → (fun W => Ac w W s x y wd ht Fr.zero (F) g ∧ W.cell? ⟨g, 3, none⟩ = some (.int .i64 F.m.l)) W := fun W h => ⟨h, h.frm.cell 3⟩
        refine wp_region_noPanic ?_
        refine Ord.region_M (S := fun W => Ac w W s x y wd ht Fr.zero (F) g ∧ W.cell? ⟨g, 3, none⟩ = some (.int .i64 F.m.l)) 7 (.one 0 true (.one 1 true (.one 2 true (.one 3 true (.one 5 true (.one 4 false (.one 6 true (.one 7 false (.nil))))))))) (by kernel_rfl) (by kernel_rfl) (by kernel_rfl) (by kernel_rfl) (by decide) (fun _ _ _ _ _ h => h) (hS _ h.drew) (fun hS0 => ?_)
        simp only [Ord.layT, List.getElem?_cons_zero, List.getElem?_cons_succ]
        (refine Ord.takeM (v := ?_) (Or.inl ⟨rfl, ?_⟩) ?_; rotate_left; (intro w hSw; (try dsimp only at hSw); go_simp; try (with_reducible rfl)); (try simp only [Act.put, List.setIfInBounds_toArray, List.set_cons_zero, List.set_cons_succ]))
        (refine Ord.takeM (v := ?_) (Or.inl ⟨rfl, ?_⟩) ?_; rotate_left; (intro w hSw; (try dsimp only at hSw); go_simp; try (with_reducible rfl)); (try simp only [Act.put, List.setIfInBounds_toArray, List.set_cons_zero, List.set_cons_succ]))
        (refine Ord.takeM (v := ?_) (Or.inl ⟨rfl, ?_⟩) ?_; rotate_left; (intro w hSw; (try dsimp only at hSw); go_simp; try (with_reducible rfl)); (try simp only [Act.put, List.setIfInBounds_toArray, List.set_cons_zero, List.set_cons_succ]))
        (refine Ord.takeM (v := ?_) (Or.inl ⟨rfl, ?_⟩) ?_; rotate_left; (intro w hSw; (try dsimp only at hSw); go_simp; try (with_reducible rfl)); (try simp only [Act.put, List.setIfInBounds_toArray, List.set_cons_zero, List.set_cons_succ]))
        (refine Ord.takeM (yieldsIf_load_mid rfl _ _ rfl g 0 rfl _ _ (fun w' h => h.1.frm.range) Try.underlying35 rfl info_frame') ?_; (try simp only [Act.put, List.setIfInBounds_toArray, List.set_cons_zero, List.set_cons_succ]))
        refine Ord.aloneM rfl rfl (fun K hK => ?_)
        go_simp
        refine (fixed_Add _ _ _).mono ?_
        rintro e w' ⟨rfl, rfl⟩
        go_wp2_with fail
        refine hK.out _ _ hS0 (fun _ => ?_)
        clear hK K
        (try simp only [Act.put, List.setIfInBounds_toArray, List.set_cons_zero, List.set_cons_succ])
        (refine Ord.takeM (v := ?_) (Or.inl ⟨rfl, ?_⟩) ?_; rotate_left; (intro w hSw; (try dsimp only at hSw); go_simp; try (with_reducible rfl)); (try simp only [Act.put, List.setIfInBounds_toArray, List.set_cons_zero, List.set_cons_succ]))
        refine Ord.lastM rfl rfl (fun K hK => ?_)
        refine wp_store_row 35 _ _ rfl (w.heap.size + 1 + 1) F.arr rfl rfl 35 Fr.zero.arr hS0.1.res rfl (info_frame _) (frame_one _) ?_
        intro w9 hR hc'
        have hg := hS0.1.below.trans (hc'.below (by omega))
        (try simp only [Act.put, List.setIfInBounds_toArray, List.set_cons_zero, List.set_cons_succ])
        refine hK.out _ _ ?_
        clear hK K hc' hS h hS0
        refine Ord.doneM (NoPanic.normal ?_)
        go_wp2_with fail
        refine bodyPost_ret (results_pair 10 11 35 _ rfl _ rfl rfl hR _ rfl rfl (info_frame _)) rfl ?_
        exact ⟨by rw [hF.out]; simp [Sty.ax, ha.out, hb.out, Sty.left, Sty.right], hg⟩
end Go.Proofs.Ytkkabnkhdhlhkaa
