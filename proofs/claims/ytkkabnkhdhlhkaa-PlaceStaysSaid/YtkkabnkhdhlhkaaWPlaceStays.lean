/-
  The walk of PlaceStays, and its plain law.
-/
import Derived.Test.YtkkabnkhdhlhkaaPlainC
import Derived.Test.YtkkabnkhdhlhkaaPlaceG
namespace Go.Proofs.Ytkkabnkhdhlhkaa
open Go.RowKit Num Mem Opn
set_option linter.unusedVariables false
set_option linter.unusedSimpArgs false
namespace Num
def Sty.u1 (s : Sty) : Sty := ⟨s.d0, s.d1, s.d2, s.d3, knd s.wk, few s.wn, knd s.hk, few s.hn, knd s.m0k, few s.m0n, knd s.m1k, few s.m1n, knd s.m2k, few s.m2n, knd s.m3k, few s.m3n, knd s.p0k, few s.p0n, knd s.p1k, few s.p1n, knd s.p2k, few s.p2n, knd s.p3k, few s.p3n, 0, few s.o0n, knd s.o1k, few s.o1n, knd s.o2k, few s.o2n, knd s.o3k, few s.o3n, few s.b0, few s.b1, few s.b2, few s.b3, s.e0, s.e1, s.e2, s.e3, s.e4, s.e5, s.e6, s.e7, s.e8, s.e9, s.e10, s.e11, s.e12, s.e13, s.e14, s.e15⟩
def Sty.u2 (s : Sty) : Sty := ⟨s.d0, s.d1, s.d2, s.d3, knd s.wk, few s.wn, knd s.hk, few s.hn, knd s.m0k, few s.m0n, knd s.m1k, few s.m1n, knd s.m2k, few s.m2n, knd s.m3k, few s.m3n, knd s.p0k, few s.p0n, knd s.p1k, few s.p1n, knd s.p2k, few s.p2n, knd s.p3k, few s.p3n, 0, 0, knd s.o1k, few s.o1n, knd s.o2k, few s.o2n, knd s.o3k, few s.o3n, few s.b0, few s.b1, few s.b2, few s.b3, s.e0, s.e1, s.e2, s.e3, s.e4, s.e5, s.e6, s.e7, s.e8, s.e9, s.e10, s.e11, s.e12, s.e13, s.e14, s.e15⟩
def Sty.u3 (s : Sty) : Sty := ⟨s.d0, s.d1, s.d2, s.d3, knd s.wk, few s.wn, knd s.hk, few s.hn, knd s.m0k, few s.m0n, knd s.m1k, few s.m1n, knd s.m2k, few s.m2n, knd s.m3k, few s.m3n, knd s.p0k, few s.p0n, knd s.p1k, few s.p1n, knd s.p2k, few s.p2n, knd s.p3k, few s.p3n, 0, 0, 0, few s.o1n, knd s.o2k, few s.o2n, knd s.o3k, few s.o3n, few s.b0, few s.b1, few s.b2, few s.b3, s.e0, s.e1, s.e2, s.e3, s.e4, s.e5, s.e6, s.e7, s.e8, s.e9, s.e10, s.e11, s.e12, s.e13, s.e14, s.e15⟩
def Sty.u4 (s : Sty) : Sty := ⟨s.d0, s.d1, s.d2, s.d3, knd s.wk, few s.wn, knd s.hk, few s.hn, knd s.m0k, few s.m0n, knd s.m1k, few s.m1n, knd s.m2k, few s.m2n, knd s.m3k, few s.m3n, knd s.p0k, few s.p0n, knd s.p1k, few s.p1n, knd s.p2k, few s.p2n, knd s.p3k, few s.p3n, 0, 0, 0, 0, knd s.o2k, few s.o2n, knd s.o3k, few s.o3n, few s.b0, few s.b1, few s.b2, few s.b3, s.e0, s.e1, s.e2, s.e3, s.e4, s.e5, s.e6, s.e7, s.e8, s.e9, s.e10, s.e11, s.e12, s.e13, s.e14, s.e15⟩
def Sty.u5 (s : Sty) : Sty := ⟨s.d0, s.d1, s.d2, s.d3, knd s.wk, few s.wn, knd s.hk, few s.hn, knd s.m0k, few s.m0n, knd s.m1k, few s.m1n, knd s.m2k, few s.m2n, knd s.m3k, few s.m3n, knd s.p0k, few s.p0n, knd s.p1k, few s.p1n, knd s.p2k, few s.p2n, knd s.p3k, few s.p3n, 0, 0, 0, 0, 0, few s.o2n, knd s.o3k, few s.o3n, few s.b0, few s.b1, few s.b2, few s.b3, s.e0, s.e1, s.e2, s.e3, s.e4, s.e5, s.e6, s.e7, s.e8, s.e9, s.e10, s.e11, s.e12, s.e13, s.e14, s.e15⟩
def Sty.u6 (s : Sty) : Sty := ⟨s.d0, s.d1, s.d2, s.d3, knd s.wk, few s.wn, knd s.hk, few s.hn, knd s.m0k, few s.m0n, knd s.m1k, few s.m1n, knd s.m2k, few s.m2n, knd s.m3k, few s.m3n, knd s.p0k, few s.p0n, knd s.p1k, few s.p1n, knd s.p2k, few s.p2n, knd s.p3k, few s.p3n, 0, 0, 0, 0, 0, 0, knd s.o3k, few s.o3n, few s.b0, few s.b1, few s.b2, few s.b3, s.e0, s.e1, s.e2, s.e3, s.e4, s.e5, s.e6, s.e7, s.e8, s.e9, s.e10, s.e11, s.e12, s.e13, s.e14, s.e15⟩
def Sty.u7 (s : Sty) : Sty := ⟨s.d0, s.d1, s.d2, s.d3, knd s.wk, few s.wn, knd s.hk, few s.hn, knd s.m0k, few s.m0n, knd s.m1k, few s.m1n, knd s.m2k, few s.m2n, knd s.m3k, few s.m3n, knd s.p0k, few s.p0n, knd s.p1k, few s.p1n, knd s.p2k, few s.p2n, knd s.p3k, few s.p3n, 0, 0, 0, 0, 0, 0, 0, few s.o3n, few s.b0, few s.b1, few s.b2, few s.b3, s.e0, s.e1, s.e2, s.e3, s.e4, s.e5, s.e6, s.e7, s.e8, s.e9, s.e10, s.e11, s.e12, s.e13, s.e14, s.e15⟩
def Sty.u8 (s : Sty) : Sty := ⟨s.d0, s.d1, s.d2, s.d3, knd s.wk, few s.wn, knd s.hk, few s.hn, knd s.m0k, few s.m0n, knd s.m1k, few s.m1n, knd s.m2k, few s.m2n, knd s.m3k, few s.m3n, knd s.p0k, few s.p0n, knd s.p1k, few s.p1n, knd s.p2k, few s.p2n, knd s.p3k, few s.p3n, 0, 0, 0, 0, 0, 0, 0, 0, few s.b0, few s.b1, few s.b2, few s.b3, s.e0, s.e1, s.e2, s.e3, s.e4, s.e5, s.e6, s.e7, s.e8, s.e9, s.e10, s.e11, s.e12, s.e13, s.e14, s.e15⟩
def Sty.still (s : Sty) : Sty := s.u8
theorem few_lim (n : Int) : Lim 1073741824 (few n) := by have := few_lo n; have := few_hi n; unfold Lim; omega
/-- what PlaceStays asks. -/
theorem stays_law (s : Sty) (x y wd ht a b : Int) (F : Fr) (hF : F = s.still.aframe (few wd) 0 100) :
    s.still.ax (few x) (few wd) (few a) F = few a + F.m.l ∧ s.still.dy (few y) (few ht) (few a) b F = few a + F.m.t ∧ s.still.shift (few wd) (few ht) true = (0, 0) ∧
    Lim 1099511627776 (few a + F.m.l) ∧ Lim 1099511627776 (few a + F.m.t) := by
  have hl : Lim 17179869184 F.m.l := by
    rw [hF]
    have := len_lim (k := s.still.m3k) (n := s.still.m3n) (few_lim s.m3n) (few_lim wd)
    unfold Lim at *
    simp only [Sty.aframe, Sty.framed, Sty.margin]
    omega
  have ht' : Lim 17179869184 F.m.t := by
    rw [hF]
    have := len_lim (k := s.still.m0k) (n := s.still.m0n) (few_lim s.m0n) (few_lim wd)
    unfold Lim at *
    simp only [Sty.aframe, Sty.framed, Sty.margin]
    omega
  have ha := few_lim a
  refine ⟨?_, ?_, ?_, ?_, ?_⟩
  · have e : s.still.ax (few x) (few wd) (few a) F = add (few a) F.m.l := rfl
    rw [e]
    exact add_lim (by unfold Lim at *; omega) (by unfold Lim at *; omega)
  · have e : s.still.dy (few y) (few ht) (few a) b F = add (few a) F.m.t := rfl
    rw [e]
    exact add_lim (by unfold Lim at *; omega) (by unfold Lim at *; omega)
  · simp [Sty.shift, Sty.still, Sty.u8, oneOf, upTo, len, given]
    decide
  · unfold Lim at *; omega
  · unfold Lim at *; omega
end Num
theorem one_still {s : Sty} (h : s.arr.all (·.oneCell') = true) : s.still.arr.all (·.oneCell') = true := by
  simp [Sty.arr, Value.oneCell'] at h
  simp [Sty.arr, Sty.still, Sty.u8, Value.oneCell', h]
theorem style_u1 {W : World} {g : Nat} {t : TypeId} {s : Sty} (h : Blk W g t s.t32.arr) : Blk (W.setCell ⟨g, 24, none⟩ (.int .i64 0)) g t s.u1.arr := h.put 24 _
theorem style_u2 {W : World} {g : Nat} {t : TypeId} {s : Sty} (h : Blk W g t s.u1.arr) : Blk (W.setCell ⟨g, 25, none⟩ (.int .i64 0)) g t s.u2.arr := h.put 25 _
theorem style_u3 {W : World} {g : Nat} {t : TypeId} {s : Sty} (h : Blk W g t s.u2.arr) : Blk (W.setCell ⟨g, 26, none⟩ (.int .i64 0)) g t s.u3.arr := h.put 26 _
theorem style_u4 {W : World} {g : Nat} {t : TypeId} {s : Sty} (h : Blk W g t s.u3.arr) : Blk (W.setCell ⟨g, 27, none⟩ (.int .i64 0)) g t s.u4.arr := h.put 27 _
theorem style_u5 {W : World} {g : Nat} {t : TypeId} {s : Sty} (h : Blk W g t s.u4.arr) : Blk (W.setCell ⟨g, 28, none⟩ (.int .i64 0)) g t s.u5.arr := h.put 28 _
theorem style_u6 {W : World} {g : Nat} {t : TypeId} {s : Sty} (h : Blk W g t s.u5.arr) : Blk (W.setCell ⟨g, 29, none⟩ (.int .i64 0)) g t s.u6.arr := h.put 29 _
theorem style_u7 {W : World} {g : Nat} {t : TypeId} {s : Sty} (h : Blk W g t s.u6.arr) : Blk (W.setCell ⟨g, 30, none⟩ (.int .i64 0)) g t s.u7.arr := h.put 30 _
theorem style_u8 {W : World} {g : Nat} {t : TypeId} {s : Sty} (h : Blk W g t s.u7.arr) : Blk (W.setCell ⟨g, 31, none⟩ (.int .i64 0)) g t s.u8.arr := h.put 31 _
theorem pl_off8 {w W : World} {s : Sty} {x y wd ht : Int} (h : Pl w W s.t32 x y wd ht) : Pl w ((((((((W.setCell ⟨w.heap.size, 24, none⟩ (.int .i64 0)).setCell ⟨w.heap.size, 25, none⟩ (.int .i64 0)).setCell ⟨w.heap.size, 26, none⟩ (.int .i64 0)).setCell ⟨w.heap.size, 27, none⟩ (.int .i64 0)).setCell ⟨w.heap.size, 28, none⟩ (.int .i64 0)).setCell ⟨w.heap.size, 29, none⟩ (.int .i64 0)).setCell ⟨w.heap.size, 30, none⟩ (.int .i64 0)).setCell ⟨w.heap.size, 31, none⟩ (.int .i64 0)) s.still x y wd ht :=
  ⟨((((((((h.below.trans ((Chg.setCell _ ⟨w.heap.size, 24, none⟩ _).below (Nat.le_refl _))).trans ((Chg.setCell _ ⟨w.heap.size, 25, none⟩ _).below (Nat.le_refl _))).trans ((Chg.setCell _ ⟨w.heap.size, 26, none⟩ _).below (Nat.le_refl _))).trans ((Chg.setCell _ ⟨w.heap.size, 27, none⟩ _).below (Nat.le_refl _))).trans ((Chg.setCell _ ⟨w.heap.size, 28, none⟩ _).below (Nat.le_refl _))).trans ((Chg.setCell _ ⟨w.heap.size, 29, none⟩ _).below (Nat.le_refl _))).trans ((Chg.setCell _ ⟨w.heap.size, 30, none⟩ _).below (Nat.le_refl _))).trans ((Chg.setCell _ ⟨w.heap.size, 31, none⟩ _).below (Nat.le_refl _))), (style_u8 (style_u7 (style_u6 (style_u5 (style_u4 (style_u3 (style_u2 (style_u1 h.sty)))))))), ((((((((h.rct.far (by simp) _).far (by simp) _).far (by simp) _).far (by simp) _).far (by simp) _).far (by simp) _).far (by simp) _).far (by simp) _)⟩
set_option maxRecDepth 100000 in
set_option maxHeartbeats 4000000 in
theorem walk_PlaceStays (s : Sty) (x y wd ht at' content : Int) (w : World) (ok : s.Ok) (ix : I64 x) (iy : I64 y) (iwd : I64 wd) (iht : I64 ht) (iat : I64 at') (ict : I64 content) :
    Calls Try.prog 10 #[.agg s.arr, .agg #[.int .i64 x, .int .i64 y, .int .i64 wd, .int .i64 ht], .int .i64 at', .int .i64 content] w fun e w' => e = .returned (.bool true) ∧ Below w.heap.size w w' := by
  have h : Pl w ((w.alloc (.cells s.arr 28)).alloc (.cells #[.int .i64 x, .int .i64 y, .int .i64 wd, .int .i64 ht] 48)) s x y wd ht := ⟨by go_grown, (Blk.new _ _ _).alloc _, Blk.newAt _ _ _ (by simp)⟩
  go_enter Try.func10, Try.ntmps10
  go_upto_region 1 with fail
  refine wp_forget (fun W => Pl w W (s) (x) (y) (wd) (ht)) h ?_
  clear h
  intro w0 h
  go_wp2_with (first | (first | refine stop_load 28 _ rfl rfl ?_ | refine stop_store 28 _ _ rfl rfl ?_) | (first | refine stop_load 35 _ rfl rfl ?_ | refine stop_store 35 _ _ rfl rfl ?_))
  refine ⟨?_⟩
  refine wl_load rfl 28 _ rfl _ rfl _ _ _ h.sty rfl rfl (info_style' _) ?_
  (try simp only [Act.put, List.setIfInBounds_toArray, List.set_cons_zero, List.set_cons_succ])
  go_wp2_with (first | (first | refine stop_load 28 _ rfl rfl ?_ | refine stop_store 28 _ _ rfl rfl ?_) | (first | refine stop_load 35 _ rfl rfl ?_ | refine stop_store 35 _ _ rfl rfl ?_))
  refine (law20_tame s ok _).mono ?_
  rintro e w1 ⟨rfl, hbq⟩
  replace h := h.on hbq
  clear hbq
  go_wp2_with (first | (first | refine stop_load 28 _ rfl rfl ?_ | refine stop_store 28 _ _ rfl rfl ?_) | (first | refine stop_load 35 _ rfl rfl ?_ | refine stop_store 35 _ _ rfl rfl ?_))
  refine ⟨?_⟩
  refine wl_store rfl 28 _ _ rfl w.heap.size s.t32.arr rfl rfl 28 s.arr h.sty rfl (info_style' _) (one_tame ok.one) ?_
  intro w2 hQ hc
  have h2 : Pl w w2 s.t32 x y wd ht := ⟨h.below.trans (hc.below (Nat.le_refl _)), hQ, h.rct.chg hc (by omega)⟩
  clear hQ hc h
  (try simp only [Act.put, List.setIfInBounds_toArray, List.set_cons_zero, List.set_cons_succ])
  go_upto_region 2 with fail
  have hS : ∀ W, Pl w W (s.t32) (x) (y) (wd) (ht) → (fun W => Pl w W (s.t32) (x) (y) (wd) (ht) ∧ W.cell? ⟨w.heap.size + 1, 0, none⟩ = some (.int .i64 (x)) ∧ W.cell? ⟨w.heap.size + 1, 1, none⟩ = some (.int .i64 (y)) ∧ W.cell? ⟨w.heap.size + 1, 2, none⟩ = some (.int .i64 (wd)) ∧ W.cell? ⟨w.heap.size + 1, 3, none⟩ = some (.int .i64 (ht))) W := fun W h => ⟨h, h.rct.cell 0, h.rct.cell 1, h.rct.cell 2, h.rct.cell 3⟩
  refine wp_region_noPanic ?_
  refine Ord.region_M (S := fun W => Pl w W (s.t32) (x) (y) (wd) (ht) ∧ W.cell? ⟨w.heap.size + 1, 0, none⟩ = some (.int .i64 (x)) ∧ W.cell? ⟨w.heap.size + 1, 1, none⟩ = some (.int .i64 (y)) ∧ W.cell? ⟨w.heap.size + 1, 2, none⟩ = some (.int .i64 (wd)) ∧ W.cell? ⟨w.heap.size + 1, 3, none⟩ = some (.int .i64 (ht))) 13 (.one 0 true (.one 1 true (.one 3 true (.one 4 true (.one 6 true (.one 7 true (.one 9 true (.one 10 true (.one 2 false (.one 5 false (.one 8 false (.one 11 false (.one 12 true (.one 13 false (.nil))))))))))))))) (by kernel_rfl) (by kernel_rfl) (by kernel_rfl) (by kernel_rfl) (by decide) (fun _ _ _ _ _ h => h) (hS _ h2.drew) (fun hS0 => ?_)
  simp only [Ord.layT, List.getElem?_cons_zero, List.getElem?_cons_succ]
  (refine Ord.takeM (v := ?_) (Or.inl ⟨rfl, ?_⟩) ?_; rotate_left; (intro w hSw; (try dsimp only at hSw); go_simp; try (with_reducible rfl)); (try simp only [Act.put, List.setIfInBounds_toArray, List.set_cons_zero, List.set_cons_succ]))
  (refine Ord.takeM (v := ?_) (Or.inl ⟨rfl, ?_⟩) ?_; rotate_left; (intro w hSw; (try dsimp only at hSw); go_simp; try (with_reducible rfl)); (try simp only [Act.put, List.setIfInBounds_toArray, List.set_cons_zero, List.set_cons_succ]))
  (refine Ord.takeM (v := ?_) (Or.inl ⟨rfl, ?_⟩) ?_; rotate_left; (intro w hSw; (try dsimp only at hSw); go_simp; try (with_reducible rfl)); (try simp only [Act.put, List.setIfInBounds_toArray, List.set_cons_zero, List.set_cons_succ]))
  (refine Ord.takeM (v := ?_) (Or.inl ⟨rfl, ?_⟩) ?_; rotate_left; (intro w hSw; (try dsimp only at hSw); go_simp; try (with_reducible rfl)); (try simp only [Act.put, List.setIfInBounds_toArray, List.set_cons_zero, List.set_cons_succ]))
  (refine Ord.takeM (v := ?_) (Or.inl ⟨rfl, ?_⟩) ?_; rotate_left; (intro w hSw; (try dsimp only at hSw); go_simp; try (with_reducible rfl)); (try simp only [Act.put, List.setIfInBounds_toArray, List.set_cons_zero, List.set_cons_succ]))
  (refine Ord.takeM (v := ?_) (Or.inl ⟨rfl, ?_⟩) ?_; rotate_left; (intro w hSw; (try dsimp only at hSw); go_simp; try (with_reducible rfl)); (try simp only [Act.put, List.setIfInBounds_toArray, List.set_cons_zero, List.set_cons_succ]))
  (refine Ord.takeM (v := ?_) (Or.inl ⟨rfl, ?_⟩) ?_; rotate_left; (intro w hSw; (try dsimp only at hSw); go_simp; try (with_reducible rfl)); (try simp only [Act.put, List.setIfInBounds_toArray, List.set_cons_zero, List.set_cons_succ]))
  (refine Ord.takeM (v := ?_) (Or.inl ⟨rfl, ?_⟩) ?_; rotate_left; (intro w hSw; (try dsimp only at hSw); go_simp; try (with_reducible rfl)); (try simp only [Act.put, List.setIfInBounds_toArray, List.set_cons_zero, List.set_cons_succ]))
  refine Ord.aloneM rfl rfl (fun K hK => ?_)
  go_simp
  refine (few_any x _ ix).mono ?_
  rintro e w' ⟨rfl, rfl⟩
  go_wp2_with fail
  refine hK.out _ _ hS0 (fun _ => ?_)
  clear hK K
  (try simp only [Act.put, List.setIfInBounds_toArray, List.set_cons_zero, List.set_cons_succ])
  refine Ord.aloneM rfl rfl (fun K hK => ?_)
  go_simp
  refine (few_any y _ iy).mono ?_
  rintro e w' ⟨rfl, rfl⟩
  go_wp2_with fail
  refine hK.out _ _ hS0 (fun _ => ?_)
  clear hK K
  (try simp only [Act.put, List.setIfInBounds_toArray, List.set_cons_zero, List.set_cons_succ])
  refine Ord.aloneM rfl rfl (fun K hK => ?_)
  go_simp
  refine (few_any wd _ iwd).mono ?_
  rintro e w' ⟨rfl, rfl⟩
  go_wp2_with fail
  refine hK.out _ _ hS0 (fun _ => ?_)
  clear hK K
  (try simp only [Act.put, List.setIfInBounds_toArray, List.set_cons_zero, List.set_cons_succ])
  refine Ord.aloneM rfl rfl (fun K hK => ?_)
  go_simp
  refine (few_any ht _ iht).mono ?_
  rintro e w' ⟨rfl, rfl⟩
  go_wp2_with fail
  refine hK.out _ _ hS0 (fun _ => ?_)
  clear hK K
  (try simp only [Act.put, List.setIfInBounds_toArray, List.set_cons_zero, List.set_cons_succ])
  (refine Ord.takeM (v := ?_) (Or.inl ⟨rfl, ?_⟩) ?_; rotate_left; (intro w hSw; (try dsimp only at hSw); go_simp; try (with_reducible rfl)); (try simp only [Act.put, List.setIfInBounds_toArray, List.set_cons_zero, List.set_cons_succ]))
  obtain ⟨h3, -⟩ := hS0
  refine Ord.lastM rfl rfl (fun K hK => ?_)
  refine wp_store_row 48 _ _ rfl (w.heap.size + 1) #[.int .i64 (few x), .int .i64 (few y), .int .i64 (few wd), .int .i64 (few ht)] rfl rfl 48 _ h3.rct rfl (by kernel_rfl) (by simp [Value.oneCell']) ?_
  intro w3 hR hc
  (try simp only [Act.put, List.setIfInBounds_toArray, List.set_cons_zero, List.set_cons_succ])
  refine hK.out _ _ ?_
  have h : Pl w w3 (s.t32) (few x) (few y) (few wd) (few ht) := ⟨h3.below.trans (hc.below (by omega)), h3.sty.chg hc (by omega), hR⟩
  clear hK K h3 h2 hS hR hc
  refine Ord.doneM (NoPanic.normal ?_)
  go_upto_region 3 with fail
  have c24 : w3.cell? ⟨w.heap.size, 24, none⟩ = some (.int .i64 s.t32.o0k) := h.sty.cell 24
  have f24 : w3.frozen? ⟨w.heap.size, 24, none⟩ = false := h.sty.free 24
  have c25 : w3.cell? ⟨w.heap.size, 25, none⟩ = some (.int .i64 s.t32.o0n) := h.sty.cell 25
  have f25 : w3.frozen? ⟨w.heap.size, 25, none⟩ = false := h.sty.free 25
  have c26 : w3.cell? ⟨w.heap.size, 26, none⟩ = some (.int .i64 s.t32.o1k) := h.sty.cell 26
  have f26 : w3.frozen? ⟨w.heap.size, 26, none⟩ = false := h.sty.free 26
  have c27 : w3.cell? ⟨w.heap.size, 27, none⟩ = some (.int .i64 s.t32.o1n) := h.sty.cell 27
  have f27 : w3.frozen? ⟨w.heap.size, 27, none⟩ = false := h.sty.free 27
  have c28 : w3.cell? ⟨w.heap.size, 28, none⟩ = some (.int .i64 s.t32.o2k) := h.sty.cell 28
  have f28 : w3.frozen? ⟨w.heap.size, 28, none⟩ = false := h.sty.free 28
  have c29 : w3.cell? ⟨w.heap.size, 29, none⟩ = some (.int .i64 s.t32.o2n) := h.sty.cell 29
  have f29 : w3.frozen? ⟨w.heap.size, 29, none⟩ = false := h.sty.free 29
  have c30 : w3.cell? ⟨w.heap.size, 30, none⟩ = some (.int .i64 s.t32.o3k) := h.sty.cell 30
  have f30 : w3.frozen? ⟨w.heap.size, 30, none⟩ = false := h.sty.free 30
  have c31 : w3.cell? ⟨w.heap.size, 31, none⟩ = some (.int .i64 s.t32.o3n) := h.sty.cell 31
  have f31 : w3.frozen? ⟨w.heap.size, 31, none⟩ = false := h.sty.free 31
  go_upto_region 5 with (first | (go_at_call 22; refine (few_any _ _ iat).mono ?_; rintro e w' ⟨rfl, rfl⟩))
  have h7 := pl_off8 h
  refine wp_forget (fun W => Pl w W s.still (few x) (few y) (few wd) (few ht)) h7 ?_
  clear h7 h c24 f24 c25 f25 c26 f26 c27 f27 c28 f28 c29 f29 c30 f30 c31 f31
  have law := stays_law s x y wd ht at' (s.still.dh (few ht) (few content) (s.still.aframe (few wd) 0 100)) _ rfl
  have hone := one_still ok.one
  obtain ⟨T, hT⟩ : ∃ T, s.still = T := ⟨_, rfl⟩
  rw [hT] at law hone ⊢
  clear hT
  obtain ⟨law⟩ := Nonempty.intro (hid law)
  intro w4 h
  have r0 : w4.cell? ⟨w.heap.size + 1, 0, none⟩ = some (.int .i64 (few x)) := h.rct.cell 0
  have r1 : w4.cell? ⟨w.heap.size + 1, 1, none⟩ = some (.int .i64 (few y)) := h.rct.cell 1
  have r2 : w4.cell? ⟨w.heap.size + 1, 2, none⟩ = some (.int .i64 (few wd)) := h.rct.cell 2
  have r3 : w4.cell? ⟨w.heap.size + 1, 3, none⟩ = some (.int .i64 (few ht)) := h.rct.cell 3
  go_wp2_with (first | (first | refine stop_load 28 _ rfl rfl ?_ | refine stop_store 28 _ _ rfl rfl ?_) | (first | refine stop_load 35 _ rfl rfl ?_ | refine stop_store 35 _ _ rfl rfl ?_))
  refine ⟨?_⟩
  refine wl_load rfl 28 _ rfl _ rfl _ _ _ h.sty rfl rfl (info_style' _) ?_
  (try simp only [Act.put, List.setIfInBounds_toArray, List.set_cons_zero, List.set_cons_succ])
  go_wp2_with (first | (first | refine stop_load 28 _ rfl rfl ?_ | refine stop_store 28 _ _ rfl rfl ?_) | (first | refine stop_load 35 _ rfl rfl ?_ | refine stop_store 35 _ _ rfl rfl ?_))
  refine (place_Across T (few x) (few y) (few wd) (few ht) (few at') 0 100 _ hone).mono ?_
  obtain ⟨F, hFe⟩ : ∃ F, T.aframe (few wd) 0 100 = F := ⟨_, rfl⟩
  rw [hFe] at law ⊢
  obtain ⟨q1, q2, q3, q4, q5⟩ := law.out
  rw [q1]
  replace q2 := hid q2
  replace q3 := hid q3
  clear law q1 hFe
  rintro e w5 ⟨rfl, hbq⟩
  replace h := h.on hbq
  clear hbq r0 r1 r2 r3
  go_wp2_with (first | (first | refine stop_load 28 _ rfl rfl ?_ | refine stop_store 28 _ _ rfl rfl ?_) | (first | refine stop_load 35 _ rfl rfl ?_ | refine stop_store 35 _ _ rfl rfl ?_))
  refine ⟨?_⟩
  refine wl_store rfl 35 _ _ rfl w5.heap.size F.arr rfl rfl 35 Fr.zero.arr (Blk.new _ _ _) rfl (info_frame _) (frame_one _) ?_
  intro w6 hF hc
  have lt : w.heap.size + 1 < w5.heap.size := h.rct.lt
  replace h := (h.on ((Below.refl _ w5).alloc (Nat.le_refl _) _)).chg hc lt
  clear hc lt
  generalize w5.heap.size = g at *
  (try simp only [Act.put, List.setIfInBounds_toArray, List.set_cons_zero, List.set_cons_succ])
  go_upto_region 6 with (first | (first | refine stop_load 28 _ rfl rfl ?_ | refine stop_store 28 _ _ rfl rfl ?_) | (first | refine stop_load 35 _ rfl rfl ?_ | refine stop_store 35 _ _ rfl rfl ?_))
  have hS : ∀ W, (Pl w W T (few x) (few y) (few wd) (few ht) ∧ Blk W g 35 F.arr) → (fun W => (Pl w W T (few x) (few y) (few wd) (few ht) ∧ Blk W g 35 F.arr) ∧ W.cell? ⟨w.heap.size + 1, 0, none⟩ = some (.int .i64 (few x)) ∧ W.cell? ⟨w.heap.size + 1, 1, none⟩ = some (.int .i64 (few y)) ∧ W.cell? ⟨w.heap.size + 1, 2, none⟩ = some (.int .i64 (few wd)) ∧ W.cell? ⟨w.heap.size + 1, 3, none⟩ = some (.int .i64 (few ht))) W := fun W h => ⟨h, h.1.rct.cell 0, h.1.rct.cell 1, h.1.rct.cell 2, h.1.rct.cell 3⟩
  refine wp_region_noPanic ?_
  refine Ord.region_ord (S := fun W => (Pl w W T (few x) (few y) (few wd) (few ht) ∧ Blk W g 35 F.arr) ∧ W.cell? ⟨w.heap.size + 1, 0, none⟩ = some (.int .i64 (few x)) ∧ W.cell? ⟨w.heap.size + 1, 1, none⟩ = some (.int .i64 (few y)) ∧ W.cell? ⟨w.heap.size + 1, 2, none⟩ = some (.int .i64 (few wd)) ∧ W.cell? ⟨w.heap.size + 1, 3, none⟩ = some (.int .i64 (few ht))) [(0, true), (1, true), (2, true), (3, true), (5, true), (4, false), (6, false), (7, true), (8, true), (9, true), (10, true), (11, true)] (by kernel_rfl) (by kernel_rfl) (by kernel_rfl) (by decide) (fun _ _ _ _ _ h => h) (hS _ ⟨h.drew, hF.drew⟩) (fun hS0 => ?_)
  simp only [Ord.lay, List.getElem?_cons_zero, List.getElem?_cons_succ]
  (refine Ord.take (yieldsIf_load_mid rfl _ _ rfl w.heap.size 0 rfl _ _ (fun w' h => h.1.1.sty.range) Try.underlying28 rfl (by simpa using info_style' T)) ?_; (try simp only [Act.put, List.setIfInBounds_toArray, List.set_cons_zero, List.set_cons_succ]))
  (refine Ord.take (v := ?_) (Or.inl ⟨rfl, ?_⟩) ?_; rotate_left; (intro w hSw; (try dsimp only at hSw); go_simp; try (with_reducible rfl)); (try simp only [Act.put, List.setIfInBounds_toArray, List.set_cons_zero, List.set_cons_succ]))
  (refine Ord.take (v := ?_) (Or.inl ⟨rfl, ?_⟩) ?_; rotate_left; (intro w hSw; (try dsimp only at hSw); go_simp; try (with_reducible rfl)); (try simp only [Act.put, List.setIfInBounds_toArray, List.set_cons_zero, List.set_cons_succ]))
  (refine Ord.take (v := ?_) (Or.inl ⟨rfl, ?_⟩) ?_; rotate_left; (intro w hSw; (try dsimp only at hSw); go_simp; try (with_reducible rfl)); (try simp only [Act.put, List.setIfInBounds_toArray, List.set_cons_zero, List.set_cons_succ]))
  (refine Ord.take (yieldsIf_load_mid rfl _ _ rfl g 0 rfl _ _ (fun w' h => h.1.2.range) Try.underlying35 rfl info_frame') ?_; (try simp only [Act.put, List.setIfInBounds_toArray, List.set_cons_zero, List.set_cons_succ]))
  refine Ord.alone rfl (fun K hK => ?_)
  go_simp
  refine (few_any content _ ict).mono ?_
  rintro e w' ⟨rfl, rfl⟩
  go_wp2_with fail
  refine hK.out _ _ hS0 (fun _ => ?_)
  clear hK K
  (try simp only [Act.put, List.setIfInBounds_toArray, List.set_cons_zero, List.set_cons_succ])
  refine Ord.alone rfl (fun K hK => ?_)
  go_simp
  refine (place_Down T _ _ _ _ _ _ F _).mono ?_
  rintro e w' ⟨rfl, hbq⟩
  have hS1 := hS w' ⟨hS0.1.1.on hbq, hS0.1.2.below hbq hS0.1.2.lt⟩
  go_wp2_with fail
  refine hK.out _ _ hS1 (fun _ => ?_)
  clear hK K hbq hS0
  (try simp only [Act.put, List.setIfInBounds_toArray, List.set_cons_zero, List.set_cons_succ])
  (refine Ord.take (v := ?_) (Or.inl ⟨rfl, ?_⟩) ?_; rotate_left; (intro w hSw; (try dsimp only at hSw); go_simp; try (with_reducible rfl)); (try simp only [Act.put, List.setIfInBounds_toArray, List.set_cons_zero, List.set_cons_succ]))
  (refine Ord.take (v := ?_) (Or.inl ⟨rfl, ?_⟩) ?_; rotate_left; (intro w hSw; (try dsimp only at hSw); go_simp; try (with_reducible rfl)); (try simp only [Act.put, List.setIfInBounds_toArray, List.set_cons_zero, List.set_cons_succ]))
  (refine Ord.take (v := ?_) (Or.inl ⟨rfl, ?_⟩) ?_; rotate_left; (intro w hSw; (try dsimp only at hSw); go_simp; try (with_reducible rfl)); (try simp only [Act.put, List.setIfInBounds_toArray, List.set_cons_zero, List.set_cons_succ]))
  (refine Ord.take (v := ?_) (Or.inl ⟨rfl, ?_⟩) ?_; rotate_left; (intro w hSw; (try dsimp only at hSw); go_simp; try (with_reducible rfl)); (try simp only [Act.put, List.setIfInBounds_toArray, List.set_cons_zero, List.set_cons_succ]))
  (refine Ord.take (v := ?_) (Or.inl ⟨rfl, ?_⟩) ?_; rotate_left; (intro w hSw; (try dsimp only at hSw); go_simp; try (with_reducible rfl)); (try simp only [Act.put, List.setIfInBounds_toArray, List.set_cons_zero, List.set_cons_succ]))
  refine Ord.done (NoPanic.normal ?_)
  clear h hF
  obtain ⟨⟨h, hF⟩, -⟩ := hS1
  clear hS
  have r0 : w'.cell? ⟨w.heap.size + 1, 0, none⟩ = some (.int .i64 (few x)) := h.rct.cell 0
  have r1 : w'.cell? ⟨w.heap.size + 1, 1, none⟩ = some (.int .i64 (few y)) := h.rct.cell 1
  have r2 : w'.cell? ⟨w.heap.size + 1, 2, none⟩ = some (.int .i64 (few wd)) := h.rct.cell 2
  have r3 : w'.cell? ⟨w.heap.size + 1, 3, none⟩ = some (.int .i64 (few ht)) := h.rct.cell 3
  go_wp2_with (first | (first | refine stop_load 28 _ rfl rfl ?_ | refine stop_store 28 _ _ rfl rfl ?_) | (first | refine stop_load 35 _ rfl rfl ?_ | refine stop_store 35 _ _ rfl rfl ?_))
  refine ⟨?_⟩
  refine wl_load rfl 28 _ rfl _ rfl _ _ _ h.sty rfl rfl (info_style' _) ?_
  (try simp only [Act.put, List.setIfInBounds_toArray, List.set_cons_zero, List.set_cons_succ])
  go_wp2_with (first | (first | refine stop_load 28 _ rfl rfl ?_ | refine stop_store 28 _ _ rfl rfl ?_) | (first | refine stop_load 35 _ rfl rfl ?_ | refine stop_store 35 _ _ rfl rfl ?_))
  refine (place_Shift T (few wd) (few ht) true _).mono ?_
  rw [q3.out]
  rintro e w8 ⟨rfl, hbq⟩
  replace hF := hF.below hbq hF.lt
  replace h := h.on hbq
  clear hbq r0 r1 r2 r3
  have c3 : w8.cell? ⟨g, 3, none⟩ = some (.int .i64 F.m.l) := hF.cell 3
  have c0 : w8.cell? ⟨g, 0, none⟩ = some (.int .i64 F.m.t) := hF.cell 0
  have hg := h.below
  have q2' := q2.out
  have W1 : IntKind.i64.wrap (few at' + F.m.l) = few at' + F.m.l := IntWalk.i64_in _ (by unfold Lim at q4; omega)
  have W2 : IntKind.i64.wrap (few at' + F.m.t) = few at' + F.m.t := IntWalk.i64_in _ (by unfold Lim at q5; omega)
  clear h hF q2 q3 q4 q5
  go_wp2_with fail
  refine (law20_known _).mono ?_
  rintro e w9 ⟨rfl, hbq⟩
  replace hg := hg.trans (hbq.mono hg.size)
  clear hbq
  go_wp2_with fail
  go_returns
  exact ⟨rfl, hg⟩
end Go.Proofs.Ytkkabnkhdhlhkaa
