/-
  The walk of PlaceFills, and its plain law.
-/
import Derived.Test.YtkkabnkhdhlhkaaPlainC
import Derived.Test.YtkkabnkhdhlhkaaPlaceG
namespace Go.Proofs.Ytkkabnkhdhlhkaa
open Go.RowKit Num Mem Opn
set_option linter.unusedVariables false
set_option linter.unusedSimpArgs false
namespace Num
def Sty.pf1 (s : Sty) : Sty := ⟨s.d0, s.d1, s.d2, s.d3, 0, few s.wn, knd s.hk, few s.hn, knd s.m0k, few s.m0n, knd s.m1k, few s.m1n, knd s.m2k, few s.m2n, knd s.m3k, few s.m3n, knd s.p0k, few s.p0n, knd s.p1k, few s.p1n, knd s.p2k, few s.p2n, knd s.p3k, few s.p3n, knd s.o0k, few s.o0n, knd s.o1k, few s.o1n, knd s.o2k, few s.o2n, knd s.o3k, few s.o3n, few s.b0, few s.b1, few s.b2, few s.b3, s.e0, s.e1, s.e2, s.e3, s.e4, s.e5, s.e6, s.e7, s.e8, s.e9, s.e10, s.e11, s.e12, s.e13, s.e14, s.e15⟩
def Sty.pf2 (s : Sty) : Sty := ⟨s.d0, s.d1, s.d2, s.d3, 0, 0, knd s.hk, few s.hn, knd s.m0k, few s.m0n, knd s.m1k, few s.m1n, knd s.m2k, few s.m2n, knd s.m3k, few s.m3n, knd s.p0k, few s.p0n, knd s.p1k, few s.p1n, knd s.p2k, few s.p2n, knd s.p3k, few s.p3n, knd s.o0k, few s.o0n, knd s.o1k, few s.o1n, knd s.o2k, few s.o2n, knd s.o3k, few s.o3n, few s.b0, few s.b1, few s.b2, few s.b3, s.e0, s.e1, s.e2, s.e3, s.e4, s.e5, s.e6, s.e7, s.e8, s.e9, s.e10, s.e11, s.e12, s.e13, s.e14, s.e15⟩
def Sty.pf3 (s : Sty) : Sty := ⟨s.d0, s.d1, s.d2, s.d3, 0, 0, knd s.hk, few s.hn, knd s.m0k, few s.m0n, knd s.m1k, few s.m1n, knd s.m2k, few s.m2n, knd s.m3k, few s.m3n, knd s.p0k, few s.p0n, knd s.p1k, few s.p1n, knd s.p2k, few s.p2n, knd s.p3k, few s.p3n, knd s.o0k, few s.o0n, knd s.o1k, few s.o1n, knd s.o2k, few s.o2n, 1, few s.o3n, few s.b0, few s.b1, few s.b2, few s.b3, s.e0, s.e1, s.e2, s.e3, s.e4, s.e5, s.e6, s.e7, s.e8, s.e9, s.e10, s.e11, s.e12, s.e13, s.e14, s.e15⟩
def Sty.pf4 (s : Sty) : Sty := ⟨s.d0, s.d1, s.d2, s.d3, 0, 0, knd s.hk, few s.hn, knd s.m0k, few s.m0n, knd s.m1k, few s.m1n, knd s.m2k, few s.m2n, knd s.m3k, few s.m3n, knd s.p0k, few s.p0n, knd s.p1k, few s.p1n, knd s.p2k, few s.p2n, knd s.p3k, few s.p3n, knd s.o0k, few s.o0n, 1, few s.o1n, knd s.o2k, few s.o2n, 1, few s.o3n, few s.b0, few s.b1, few s.b2, few s.b3, s.e0, s.e1, s.e2, s.e3, s.e4, s.e5, s.e6, s.e7, s.e8, s.e9, s.e10, s.e11, s.e12, s.e13, s.e14, s.e15⟩
theorem few_lim' (n : Int) : Lim 1073741824 (few n) := by have := few_lo n; have := few_hi n; unfold Lim; omega
theorem few_lim2 (n : Int) : Lim 16777216 (few n) := by have := few_lo n; have := few_hi n; unfold Lim; omega
theorem pf_nums (s : Sty) : ∀ x ∈ s.pf4.nums, Lim 1073741824 x := by
  intro x hx
  simp only [Sty.nums, Sty.twelve, Sty.pf4, List.cons_append, List.nil_append, List.mem_cons, List.not_mem_nil, or_false] at hx
  rcases hx with rfl | rfl | rfl | rfl | rfl | rfl | rfl | rfl | rfl | rfl | rfl | rfl | rfl <;> first | exact few_lim' _ | (unfold Lim; omega)
/-- what PlaceFills asks. -/
theorem pfills_law (s : Sty) (x wd a X : Int) (F : Fr) (hF : F = s.pf4.aframe (few wd) 0 0) (hX : X = s.pf4.ax (few x) (few wd) (few a) F) :
    X = few x + few s.o3n + F.m.l ∧ 0 ≤ F.w ∧ (F.w = 0 ∨ X + F.across + F.w + F.m.r + few s.o1n = few x + few wd) ∧
    Lim 1099511627776 X ∧ Lim 1099511627776 F.across ∧ F.w ≤ 1099511627776 ∧ Lim 1099511627776 F.m.r ∧ Lim 1099511627776 F.m.l := by
  have hf := framed_lim (few_lim' wd) (pf_nums s)
  have hA := across_lim hf
  obtain ⟨⟨a1, a2⟩, ⟨b1, b2⟩, ⟨c1, c2⟩, ⟨d1, d2⟩, ⟨e1, e2⟩, ⟨g1, g2⟩⟩ := hf
  have fx := few_lim2 x
  have fw := few_lim2 wd
  have fl := few_lim2 s.o3n
  have fr := few_lim2 s.o1n
  have hm : F.m = (s.pf4.framed (few wd)).m := by rw [hF]; rfl
  have hac : F.across = (s.pf4.framed (few wd)).across := by rw [hF]; rfl
  have hw : F.w = max (sub (sub (sub (few wd) (few s.o3n)) (few s.o1n)) ((s.pf4.framed (few wd)).sum false)) 0 := by rw [hF]; rfl
  have hx : X = add (add (add 0 (few x)) (few s.o3n)) F.m.l := by rw [hX]; rfl
  have hsum : (s.pf4.framed (few wd)).sum false = add (add (s.pf4.framed (few wd)).m.l (s.pf4.framed (few wd)).m.r) (s.pf4.framed (few wd)).across := rfl
  generalize s.pf4.framed (few wd) = G at *
  unfold Lim at fx fw fl fr
  rw [hm] at hx ⊢
  rw [hac]
  rw [hsum, add_lim (a := G.m.l) (b := G.m.r) (by unfold Lim; omega) (by unfold Lim; omega), add_lim (by unfold Lim; omega) (by unfold Lim; omega), sub_lim (a := few wd) (b := few s.o3n) (by unfold Lim; omega) (by unfold Lim; omega), sub_lim (a := few wd - few s.o3n) (b := few s.o1n) (by unfold Lim; omega) (by unfold Lim; omega), sub_lim (by unfold Lim; omega) (by unfold Lim; omega)] at hw
  rw [add_lim (a := 0) (b := few x) (by unfold Lim; omega) (by unfold Lim; omega), add_lim (a := 0 + few x) (b := few s.o3n) (by unfold Lim; omega) (by unfold Lim; omega), add_lim (by unfold Lim; omega) (by unfold Lim; omega)] at hx
  unfold Lim
  omega
end Num
theorem style_pf1 {W : World} {g : Nat} {t : TypeId} {s : Sty} (h : Blk W g t s.t32.arr) : Blk (W.setCell ⟨g, 4, none⟩ (.int .i64 0)) g t s.pf1.arr := h.put 4 _
theorem style_pf2 {W : World} {g : Nat} {t : TypeId} {s : Sty} (h : Blk W g t s.pf1.arr) : Blk (W.setCell ⟨g, 5, none⟩ (.int .i64 0)) g t s.pf2.arr := h.put 5 _
theorem style_pf3 {W : World} {g : Nat} {t : TypeId} {s : Sty} (h : Blk W g t s.pf2.arr) : Blk (W.setCell ⟨g, 30, none⟩ (.int .i64 1)) g t s.pf3.arr := h.put 30 _
theorem style_pf4 {W : World} {g : Nat} {t : TypeId} {s : Sty} (h : Blk W g t s.pf3.arr) : Blk (W.setCell ⟨g, 26, none⟩ (.int .i64 1)) g t s.pf4.arr := h.put 26 _
theorem one_pf {s : Sty} (h : s.arr.all (·.oneCell') = true) : s.pf4.arr.all (·.oneCell') = true := by
  simp [Sty.arr, Value.oneCell'] at h
  simp [Sty.arr, Sty.pf4, Value.oneCell', h]
set_option maxRecDepth 100000 in
set_option maxHeartbeats 4000000 in
theorem walk_PlaceFills (s : Sty) (x y wd ht at' : Int) (w : World) (ok : s.Ok) (ix : I64 x) (iy : I64 y) (iwd : I64 wd) (iht : I64 ht) (iat : I64 at') :
    Calls Try.prog 7 #[.agg s.arr, .agg #[.int .i64 x, .int .i64 y, .int .i64 wd, .int .i64 ht], .int .i64 at'] w fun e w' => e = .returned (.bool true) ∧ Below w.heap.size w w' := by
  have h : Pl w ((w.alloc (.cells s.arr 28)).alloc (.cells #[.int .i64 x, .int .i64 y, .int .i64 wd, .int .i64 ht] 48)) s x y wd ht := ⟨by go_grown, (Blk.new _ _ _).alloc _, Blk.newAt _ _ _ (by simp)⟩
  go_enter Try.func7, Try.ntmps7
  go_upto_region 1 with fail
  refine wp_forget (fun W => Pl w W (s) (x) (y) (wd) (ht)) h ?_
  clear h
  intro w0 h
  go_wp2_with (first | (first | refine stop_load 28 _ rfl rfl ?_ | refine stop_store 28 _ _ rfl rfl ?_) | (first | refine stop_load 35 _ rfl rfl ?_ | refine stop_store 35 _ _ rfl rfl ?_))
  refine ⟨?_⟩
  refine wl_load rfl 28 _ rfl _ rfl _ _ _ h.sty rfl rfl (info_style' _) ?_
  (try simp only [Act.put, List.setIfInBounds_toArray, List.set_cons_zero, List.set_cons_succ])
  go_wp2_with (first | (first | refine stop_load 28 _ rfl rfl ?_ | refine stop_store 28 _ _ rfl rfl ?_) | (first | refine stop_load 35 _ rfl rfl ?_ | refine stop_store 35 _ _ rfl rfl ?_))
  refine (law20_tame s ok _).mono ?_
  rintro e w1 ⟨rfl, hbq⟩
  replace h := h.on hbq
  clear hbq
  go_wp2_with (first | (first | refine stop_load 28 _ rfl rfl ?_ | refine stop_store 28 _ _ rfl rfl ?_) | (first | refine stop_load 35 _ rfl rfl ?_ | refine stop_store 35 _ _ rfl rfl ?_))
  refine ⟨?_⟩
  refine wl_store rfl 28 _ _ rfl w.heap.size s.t32.arr rfl rfl 28 s.arr h.sty rfl (info_style' _) (one_tame ok.one) ?_
  intro w2 hQ hc
  have h2 : Pl w w2 s.t32 x y wd ht := ⟨h.below.trans (hc.below (Nat.le_refl _)), hQ, h.rct.chg hc (by omega)⟩
  clear hQ hc h
  (try simp only [Act.put, List.setIfInBounds_toArray, List.set_cons_zero, List.set_cons_succ])
  go_upto_region 2 with fail
  have hS : ∀ W, Pl w W (s.t32) (x) (y) (wd) (ht) → (fun W => Pl w W (s.t32) (x) (y) (wd) (ht) ∧ W.cell? ⟨w.heap.size + 1, 0, none⟩ = some (.int .i64 (x)) ∧ W.cell? ⟨w.heap.size + 1, 1, none⟩ = some (.int .i64 (y)) ∧ W.cell? ⟨w.heap.size + 1, 2, none⟩ = some (.int .i64 (wd)) ∧ W.cell? ⟨w.heap.size + 1, 3, none⟩ = some (.int .i64 (ht))) W := fun W h => ⟨h, h.rct.cell 0, h.rct.cell 1, h.rct.cell 2, h.rct.cell 3⟩
  refine wp_region_noPanic ?_
  refine Ord.region_M (S := fun W => Pl w W (s.t32) (x) (y) (wd) (ht) ∧ W.cell? ⟨w.heap.size + 1, 0, none⟩ = some (.int .i64 (x)) ∧ W.cell? ⟨w.heap.size + 1, 1, none⟩ = some (.int .i64 (y)) ∧ W.cell? ⟨w.heap.size + 1, 2, none⟩ = some (.int .i64 (wd)) ∧ W.cell? ⟨w.heap.size + 1, 3, none⟩ = some (.int .i64 (ht))) 13 (.one 0 true (.one 1 true (.one 3 true (.one 4 true (.one 6 true (.one 7 true (.one 9 true (.one 10 true (.one 2 false (.one 5 false (.one 8 false (.one 11 false (.one 12 true (.one 13 false (.nil))))))))))))))) (by kernel_rfl) (by kernel_rfl) (by kernel_rfl) (by kernel_rfl) (by decide) (fun _ _ _ _ _ h => h) (hS _ h2.drew) (fun hS0 => ?_)
  simp only [Ord.layT, List.getElem?_cons_zero, List.getElem?_cons_succ]
  (refine Ord.takeM (v := ?_) (Or.inl ⟨rfl, ?_⟩) ?_; rotate_left; (intro w hSw; (try dsimp only at hSw); go_simp; try (with_reducible rfl)); (try simp only [Act.put, List.setIfInBounds_toArray, List.set_cons_zero, List.set_cons_succ]))
  (refine Ord.takeM (v := ?_) (Or.inl ⟨rfl, ?_⟩) ?_; rotate_left; (intro w hSw; (try dsimp only at hSw); go_simp; try (with_reducible rfl)); (try simp only [Act.put, List.setIfInBounds_toArray, List.set_cons_zero, List.set_cons_succ]))
  (refine Ord.takeM (v := ?_) (Or.inl ⟨rfl, ?_⟩) ?_; rotate_left; (intro w hSw; (try dsimp only at hSw); go_simp; try (with_reducible rfl)); (try simp only [Act.put, List.setIfInBounds_toArray, List.set_cons_zero, List.set_cons_succ]))
  (refine Ord.takeM (v := ?_) (Or.inl ⟨rfl, ?_⟩) ?_; rotate_left; (intro w hSw; (try dsimp only at hSw); go_simp; try (with_reducible rfl)); (try simp only [Act.put, List.setIfInBounds_toArray, List.set_cons_zero, List.set_cons_succ]))
  (refine Ord.takeM (v := ?_) (Or.inl ⟨rfl, ?_⟩) ?_; rotate_left; (intro w hSw; (try dsimp only at hSw); go_simp; try (with_reducible rfl)); (try simp only [Act.put, List.setIfInBounds_toArray, List.set_cons_zero, List.set_cons_succ]))
  (refine Ord.takeM (v := ?_) (Or.inl ⟨rfl, ?_⟩) ?_; rotate_left; (intro w hSw; (try dsimp only at hSw); go_simp; try (with_reducible rfl)); (try simp only [Act.put, List.setIfInBounds_toArray, List.set_cons_zero, List.set_cons_succ]))
  (refine Ord.takeM (v := ?_) (Or.inl ⟨rfl, ?_⟩) ?_; rotate_left; (intro w hSw; (try dsimp only at hSw); go_simp; try (with_reducible rfl)); (try simp only [Act.put, List.setIfInBounds_toArray, List.set_cons_zero, List.set_cons_succ]))
  (refine Ord.takeM (v := ?_) (Or.inl ⟨rfl, ?_⟩) ?_; rotate_left; (intro w hSw; (try dsimp only at hSw); go_simp; try (with_reducible rfl)); (try simp only [Act.put, List.setIfInBounds_toArray, List.set_cons_zero, List.set_cons_succ]))
  refine Ord.aloneM rfl rfl (fun K hK => ?_)
  go_simp
  refine (few_any x _ ix).mono ?_
  rintro e w' ⟨rfl, rfl⟩
  go_wp2_with fail
  refine hK.out _ _ hS0 (fun _ => ?_)
  clear hK K
  (try simp only [Act.put, List.setIfInBounds_toArray, List.set_cons_zero, List.set_cons_succ])
  refine Ord.aloneM rfl rfl (fun K hK => ?_)
  go_simp
  refine (few_any y _ iy).mono ?_
  rintro e w' ⟨rfl, rfl⟩
  go_wp2_with fail
  refine hK.out _ _ hS0 (fun _ => ?_)
  clear hK K
  (try simp only [Act.put, List.setIfInBounds_toArray, List.set_cons_zero, List.set_cons_succ])
  refine Ord.aloneM rfl rfl (fun K hK => ?_)
  go_simp
  refine (few_any wd _ iwd).mono ?_
  rintro e w' ⟨rfl, rfl⟩
  go_wp2_with fail
  refine hK.out _ _ hS0 (fun _ => ?_)
  clear hK K
  (try simp only [Act.put, List.setIfInBounds_toArray, List.set_cons_zero, List.set_cons_succ])
  refine Ord.aloneM rfl rfl (fun K hK => ?_)
  go_simp
  refine (few_any ht _ iht).mono ?_
  rintro e w' ⟨rfl, rfl⟩
  go_wp2_with fail
  refine hK.out _ _ hS0 (fun _ => ?_)
  clear hK K
  (try simp only [Act.put, List.setIfInBounds_toArray, List.set_cons_zero, List.set_cons_succ])
  (refine Ord.takeM (v := ?_) (Or.inl ⟨rfl, ?_⟩) ?_; rotate_left; (intro w hSw; (try dsimp only at hSw); go_simp; try (with_reducible rfl)); (try simp only [Act.put, List.setIfInBounds_toArray, List.set_cons_zero, List.set_cons_succ]))
  obtain ⟨h3, -⟩ := hS0
  refine Ord.lastM rfl rfl (fun K hK => ?_)
  refine wp_store_row 48 _ _ rfl (w.heap.size + 1) #[.int .i64 (few x), .int .i64 (few y), .int .i64 (few wd), .int .i64 (few ht)] rfl rfl 48 _ h3.rct rfl (by kernel_rfl) (by simp [Value.oneCell']) ?_
  intro w3 hR hc
  (try simp only [Act.put, List.setIfInBounds_toArray, List.set_cons_zero, List.set_cons_succ])
  refine hK.out _ _ ?_
  have h : Pl w w3 (s.t32) (few x) (few y) (few wd) (few ht) := ⟨h3.below.trans (hc.below (by omega)), h3.sty.chg hc (by omega), hR⟩
  clear hK K h3 h2 hS hR hc
  refine Ord.doneM (NoPanic.normal ?_)
  go_upto_region 3 with fail
  have c4 : w3.cell? ⟨w.heap.size, 4, none⟩ = some (.int .i64 s.t32.wk) := h.sty.cell 4
  have f4 : w3.frozen? ⟨w.heap.size, 4, none⟩ = false := h.sty.free 4
  have c5 : w3.cell? ⟨w.heap.size, 5, none⟩ = some (.int .i64 s.t32.wn) := h.sty.cell 5
  have f5 : w3.frozen? ⟨w.heap.size, 5, none⟩ = false := h.sty.free 5
  have c30 : w3.cell? ⟨w.heap.size, 30, none⟩ = some (.int .i64 s.t32.o3k) := h.sty.cell 30
  have f30 : w3.frozen? ⟨w.heap.size, 30, none⟩ = false := h.sty.free 30
  have c26 : w3.cell? ⟨w.heap.size, 26, none⟩ = some (.int .i64 s.t32.o1k) := h.sty.cell 26
  have f26 : w3.frozen? ⟨w.heap.size, 26, none⟩ = false := h.sty.free 26
  go_upto_region 6 with fail
  have h6 := h.one (style_pf1 h.sty)
  have h7 := h6.one (style_pf2 h6.sty)
  have h8 := h7.one (style_pf3 h7.sty)
  have h9 := h8.one (style_pf4 h8.sty)
  refine wp_forget (fun W => Pl w W s.pf4 (few x) (few y) (few wd) (few ht)) h9 ?_
  clear h6 h7 h8 h9 h c4 c5 f4 f5 c30 f30 c26 f26
  intro w4 h
  have hone := one_pf ok.one
  obtain ⟨F, hF⟩ : ∃ F, s.pf4.aframe (few wd) 0 0 = F := ⟨_, rfl⟩
  obtain ⟨X, hX⟩ : ∃ X, s.pf4.ax (few x) (few wd) (few at') F = X := ⟨_, rfl⟩
  obtain ⟨law⟩ := Nonempty.intro (hid (pfills_law s x wd at' X F hF.symm hX.symm))
  replace hF := hid hF
  replace hX := hid hX
  go_cut [8, 7] (fun s8 s7 wx => ∃ g, s8 = .pointer (some ⟨g, 0, none⟩) ∧ s7 = .int .i64 X ∧ (Pl w wx s.pf4 (few x) (few y) (few wd) (few ht)) ∧ Blk wx g 35 F.arr)
  case first =>
    have hS : ∀ W, Pl w W s.pf4 (few x) (few y) (few wd) (few ht) → (fun W => Pl w W s.pf4 (few x) (few y) (few wd) (few ht) ∧ W.cell? ⟨w.heap.size + 1, 0, none⟩ = some (.int .i64 (few x)) ∧ W.cell? ⟨w.heap.size + 1, 1, none⟩ = some (.int .i64 (few y)) ∧ W.cell? ⟨w.heap.size + 1, 2, none⟩ = some (.int .i64 (few wd)) ∧ W.cell? ⟨w.heap.size + 1, 3, none⟩ = some (.int .i64 (few ht))) W := fun W h => ⟨h, h.rct.cell 0, h.rct.cell 1, h.rct.cell 2, h.rct.cell 3⟩
    refine wp_region_noPanic ?_
    refine Ord.region_M (S := fun W => Pl w W s.pf4 (few x) (few y) (few wd) (few ht) ∧ W.cell? ⟨w.heap.size + 1, 0, none⟩ = some (.int .i64 (few x)) ∧ W.cell? ⟨w.heap.size + 1, 1, none⟩ = some (.int .i64 (few y)) ∧ W.cell? ⟨w.heap.size + 1, 2, none⟩ = some (.int .i64 (few wd)) ∧ W.cell? ⟨w.heap.size + 1, 3, none⟩ = some (.int .i64 (few ht))) 10 (.one 0 true (.one 1 true (.one 2 true (.two 3 (.two 4 (.one 5 true (.one 6 true (.one 7 true (.one 8 false (.one 9 true (.one 10 false .nil)))))) 8 (.one 4 false (.one 5 true (.one 6 true (.one 7 true (.one 9 true (.one 10 false .nil))))))) 8 (.one 3 false (.one 4 false (.one 5 true (.one 6 true (.one 7 true (.one 9 true (.one 10 false .nil))))))))))) (by kernel_rfl) (by kernel_rfl) (by kernel_rfl) (by kernel_rfl) (by decide) (fun _ _ _ _ _ h => h) (hS _ h.drew) (fun hS0 => ?_)
    simp only [Ord.layT, List.getElem?_cons_zero, List.getElem?_cons_succ]
    (refine Ord.takeM (yieldsIf_load_mid rfl _ _ rfl w.heap.size 0 rfl _ _ (fun w' h => h.1.sty.range) Try.underlying28 rfl (by simpa using info_style' s.pf4)) ?_; (try simp only [Act.put, List.setIfInBounds_toArray, List.set_cons_zero, List.set_cons_succ]))
    (refine Ord.takeM (v := ?_) (Or.inl ⟨rfl, ?_⟩) ?_; rotate_left; (intro w hSw; (try dsimp only at hSw); go_simp; try (with_reducible rfl)); (try simp only [Act.put, List.setIfInBounds_toArray, List.set_cons_zero, List.set_cons_succ]))
    (refine Ord.takeM (v := ?_) (Or.inl ⟨rfl, ?_⟩) ?_; rotate_left; (intro w hSw; (try dsimp only at hSw); go_simp; try (with_reducible rfl)); (try simp only [Act.put, List.setIfInBounds_toArray, List.set_cons_zero, List.set_cons_succ]))
    refine Ord.twoM rfl rfl rfl rfl (fun K hK => ?_) (fun K hK => ?_)
    · go_simp
      refine (few_any at' _ iat).mono ?_
      rintro e w' ⟨rfl, rfl⟩
      go_wp2_with fail
      refine hK.out _ _ hS0 (fun _ => ?_)
      clear hK K
      (try simp only [Act.put, List.setIfInBounds_toArray, List.set_cons_zero, List.set_cons_succ])
      refine Ord.twoM rfl rfl rfl rfl (fun K hK => ?_) (fun K hK => ?_)
      · go_simp
        refine (place_Across s.pf4 (few x) (few y) (few wd) (few ht) (few at') 0 0 _ hone).mono ?_
        rw [hF.out, hX.out]
        rintro e v1 ⟨rfl, hbq⟩
        have hS1 := hS v1 (hS0.1.on hbq)
        go_wp2_with fail
        refine hK.out _ _ hS1 (fun _ => ?_)
        clear hK K hbq hS0
        (try simp only [Act.put, List.setIfInBounds_toArray, List.set_cons_zero, List.set_cons_succ])
        (refine Ord.takeM (v := ?_) (Or.inl ⟨rfl, ?_⟩) ?_; rotate_left; (intro w hSw; (try dsimp only at hSw); go_simp; try (with_reducible rfl)); (try simp only [Act.put, List.setIfInBounds_toArray, List.set_cons_zero, List.set_cons_succ]))
        (refine Ord.takeM (v := ?_) (Or.inl ⟨rfl, ?_⟩) ?_; rotate_left; (intro w hSw; (try dsimp only at hSw); go_simp; try (with_reducible rfl)); (try simp only [Act.put, List.setIfInBounds_toArray, List.set_cons_zero, List.set_cons_succ]))
        (refine Ord.takeM (v := ?_) (Or.inl ⟨rfl, ?_⟩) ?_; rotate_left; (intro w hSw; (try dsimp only at hSw); go_simp; try (with_reducible rfl)); (try simp only [Act.put, List.setIfInBounds_toArray, List.set_cons_zero, List.set_cons_succ]))
        refine Ord.aloneM rfl rfl (fun K hK => ?_)
        go_simp
        have hS2 := hS ((v1).alloc (.cells Fr.zero.arr 35)) (hS1.1.on ((Below.refl _ _).alloc (Nat.le_refl _) _))
        have hZ : Blk ((v1).alloc (.cells Fr.zero.arr 35)) v1.heap.size 35 Fr.zero.arr := Blk.new (v1) 35 Fr.zero.arr
        have hlt : w.heap.size + 1 < v1.heap.size := hS1.1.rct.lt
        refine hK.out _ _ hS2 (fun _ => ?_)
        clear hK K hS1
        (try simp only [Act.put, List.setIfInBounds_toArray, List.set_cons_zero, List.set_cons_succ])
        generalize v1.heap.size = g at *
        (refine Ord.takeM (v := ?_) (Or.inl ⟨rfl, ?_⟩) ?_; rotate_left; (intro w hSw; (try dsimp only at hSw); go_simp; try (with_reducible rfl)); (try simp only [Act.put, List.setIfInBounds_toArray, List.set_cons_zero, List.set_cons_succ]))
        refine Ord.lastM rfl rfl (fun K hK => ?_)
        refine wp_store_row 35 _ _ rfl g F.arr rfl rfl 35 Fr.zero.arr hZ rfl (info_frame _) (frame_one _) ?_
        intro w9 hFr hc
        have h9 := hS2.1.chg hc hlt
        (try simp only [Act.put, List.setIfInBounds_toArray, List.set_cons_zero, List.set_cons_succ])
        refine hK.out _ _ ?_
        clear hK K hS2 hc hlt hS h
        refine Ord.doneM (NoPanic.normal ?_)
        go_wp2_with fail
        go_meet
        exact ⟨g, rfl, rfl, h9, hFr⟩
      · go_simp
        have hS1 := hS ((w4.drew).alloc (.cells Fr.zero.arr 35)) (hS0.1.on ((Below.refl _ _).alloc (Nat.le_refl _) _))
        have hZ : Blk ((w4.drew).alloc (.cells Fr.zero.arr 35)) w4.heap.size 35 Fr.zero.arr := Blk.new (w4.drew) 35 Fr.zero.arr
        have hlt : w.heap.size + 1 < w4.heap.size := hS0.1.rct.lt
        refine hK.out _ _ hS1 (fun _ => ?_)
        clear hK K hS0
        (try simp only [Act.put, List.setIfInBounds_toArray, List.set_cons_zero, List.set_cons_succ])
        generalize w4.heap.size = g at *
        refine Ord.aloneM rfl rfl (fun K hK => ?_)
        go_simp
        refine (place_Across s.pf4 (few x) (few y) (few wd) (few ht) (few at') 0 0 _ hone).mono ?_
        rw [hF.out, hX.out]
        rintro e v2 ⟨rfl, hbq⟩
        have hS2 := hS v2 (hS1.1.on hbq)
        replace hZ := hZ.below hbq hZ.lt
        go_wp2_with fail
        refine hK.out _ _ hS2 (fun _ => ?_)
        clear hK K hbq hS1
        (try simp only [Act.put, List.setIfInBounds_toArray, List.set_cons_zero, List.set_cons_succ])
        (refine Ord.takeM (v := ?_) (Or.inl ⟨rfl, ?_⟩) ?_; rotate_left; (intro w hSw; (try dsimp only at hSw); go_simp; try (with_reducible rfl)); (try simp only [Act.put, List.setIfInBounds_toArray, List.set_cons_zero, List.set_cons_succ]))
        (refine Ord.takeM (v := ?_) (Or.inl ⟨rfl, ?_⟩) ?_; rotate_left; (intro w hSw; (try dsimp only at hSw); go_simp; try (with_reducible rfl)); (try simp only [Act.put, List.setIfInBounds_toArray, List.set_cons_zero, List.set_cons_succ]))
        (refine Ord.takeM (v := ?_) (Or.inl ⟨rfl, ?_⟩) ?_; rotate_left; (intro w hSw; (try dsimp only at hSw); go_simp; try (with_reducible rfl)); (try simp only [Act.put, List.setIfInBounds_toArray, List.set_cons_zero, List.set_cons_succ]))
        (refine Ord.takeM (v := ?_) (Or.inl ⟨rfl, ?_⟩) ?_; rotate_left; (intro w hSw; (try dsimp only at hSw); go_simp; try (with_reducible rfl)); (try simp only [Act.put, List.setIfInBounds_toArray, List.set_cons_zero, List.set_cons_succ]))
        refine Ord.lastM rfl rfl (fun K hK => ?_)
        refine wp_store_row 35 _ _ rfl g F.arr rfl rfl 35 Fr.zero.arr hZ rfl (info_frame _) (frame_one _) ?_
        intro w9 hFr hc
        have h9 := hS2.1.chg hc hlt
        (try simp only [Act.put, List.setIfInBounds_toArray, List.set_cons_zero, List.set_cons_succ])
        refine hK.out _ _ ?_
        clear hK K hS2 hc hlt hS h
        refine Ord.doneM (NoPanic.normal ?_)
        go_wp2_with fail
        go_meet
        exact ⟨g, rfl, rfl, h9, hFr⟩
    · go_simp
      have hS1 := hS ((w4.drew).alloc (.cells Fr.zero.arr 35)) (hS0.1.on ((Below.refl _ _).alloc (Nat.le_refl _) _))
      have hZ : Blk ((w4.drew).alloc (.cells Fr.zero.arr 35)) w4.heap.size 35 Fr.zero.arr := Blk.new (w4.drew) 35 Fr.zero.arr
      have hlt : w.heap.size + 1 < w4.heap.size := hS0.1.rct.lt
      refine hK.out _ _ hS1 (fun _ => ?_)
      clear hK K hS0
      (try simp only [Act.put, List.setIfInBounds_toArray, List.set_cons_zero, List.set_cons_succ])
      generalize w4.heap.size = g at *
      refine Ord.aloneM rfl rfl (fun K hK => ?_)
      go_simp
      refine (few_any at' _ iat).mono ?_
      rintro e w' ⟨rfl, rfl⟩
      go_wp2_with fail
      refine hK.out _ _ hS1 (fun _ => ?_)
      clear hK K
      (try simp only [Act.put, List.setIfInBounds_toArray, List.set_cons_zero, List.set_cons_succ])
      refine Ord.aloneM rfl rfl (fun K hK => ?_)
      go_simp
      refine (place_Across s.pf4 (few x) (few y) (few wd) (few ht) (few at') 0 0 _ hone).mono ?_
      rw [hF.out, hX.out]
      rintro e v2 ⟨rfl, hbq⟩
      have hS2 := hS v2 (hS1.1.on hbq)
      replace hZ := hZ.below hbq hZ.lt
      go_wp2_with fail
      refine hK.out _ _ hS2 (fun _ => ?_)
      clear hK K hbq hS1
      (try simp only [Act.put, List.setIfInBounds_toArray, List.set_cons_zero, List.set_cons_succ])
      (refine Ord.takeM (v := ?_) (Or.inl ⟨rfl, ?_⟩) ?_; rotate_left; (intro w hSw; (try dsimp only at hSw); go_simp; try (with_reducible rfl)); (try simp only [Act.put, List.setIfInBounds_toArray, List.set_cons_zero, List.set_cons_succ]))
      (refine Ord.takeM (v := ?_) (Or.inl ⟨rfl, ?_⟩) ?_; rotate_left; (intro w hSw; (try dsimp only at hSw); go_simp; try (with_reducible rfl)); (try simp only [Act.put, List.setIfInBounds_toArray, List.set_cons_zero, List.set_cons_succ]))
      (refine Ord.takeM (v := ?_) (Or.inl ⟨rfl, ?_⟩) ?_; rotate_left; (intro w hSw; (try dsimp only at hSw); go_simp; try (with_reducible rfl)); (try simp only [Act.put, List.setIfInBounds_toArray, List.set_cons_zero, List.set_cons_succ]))
      (refine Ord.takeM (v := ?_) (Or.inl ⟨rfl, ?_⟩) ?_; rotate_left; (intro w hSw; (try dsimp only at hSw); go_simp; try (with_reducible rfl)); (try simp only [Act.put, List.setIfInBounds_toArray, List.set_cons_zero, List.set_cons_succ]))
      refine Ord.lastM rfl rfl (fun K hK => ?_)
      refine wp_store_row 35 _ _ rfl g F.arr rfl rfl 35 Fr.zero.arr hZ rfl (info_frame _) (frame_one _) ?_
      intro w9 hFr hc
      have h9 := hS2.1.chg hc hlt
      (try simp only [Act.put, List.setIfInBounds_toArray, List.set_cons_zero, List.set_cons_succ])
      refine hK.out _ _ ?_
      clear hK K hS2 hc hlt hS h
      refine Ord.doneM (NoPanic.normal ?_)
      go_wp2_with fail
      go_meet
      exact ⟨g, rfl, rfl, h9, hFr⟩
  case rest =>
    clear h hF hX hone
    obtain ⟨g, rfl, rfl, h, hF⟩ := hcut
    go_wp2_with (first | (first | refine stop_load 28 _ rfl rfl ?_ | refine stop_store 28 _ _ rfl rfl ?_) | (first | refine stop_load 35 _ rfl rfl ?_ | refine stop_store 35 _ _ rfl rfl ?_))
    refine ⟨?_⟩
    refine wl_load rfl 35 _ rfl _ rfl _ _ _ hF rfl rfl (info_frame _) ?_
    (try simp only [Act.put, List.setIfInBounds_toArray, List.set_cons_zero, List.set_cons_succ])
    go_wp2_with (first | (first | refine stop_load 28 _ rfl rfl ?_ | refine stop_store 28 _ _ rfl rfl ?_) | (first | refine stop_load 35 _ rfl rfl ?_ | refine stop_store 35 _ _ rfl rfl ?_))
    refine (block_Inner F _).mono ?_
    rintro e w7 ⟨rfl, hbq⟩
    replace hF := hF.below hbq hF.lt
    replace h := h.on hbq
    clear hbq
    have r0 : w7.cell? ⟨w.heap.size + 1, 0, none⟩ = some (.int .i64 (few x)) := h.rct.cell 0
    have r2 : w7.cell? ⟨w.heap.size + 1, 2, none⟩ = some (.int .i64 (few wd)) := h.rct.cell 2
    have s31 : w7.cell? ⟨w.heap.size, 31, none⟩ = some (.int .i64 (few s.o3n)) := h.sty.cell 31
    have s27 : w7.cell? ⟨w.heap.size, 27, none⟩ = some (.int .i64 (few s.o1n)) := h.sty.cell 27
    have c3 : w7.cell? ⟨g, 3, none⟩ = some (.int .i64 F.m.l) := hF.cell 3
    have c1 : w7.cell? ⟨g, 1, none⟩ = some (.int .i64 F.m.r) := hF.cell 1
    have c12 : w7.cell? ⟨g, 12, none⟩ = some (.int .i64 F.w) := hF.cell 12
    have hg := h.below
    clear h hF
    obtain ⟨q1, q2, q3, ⟨q4, q4'⟩, ⟨q5, q5'⟩, q6, ⟨q7, q7'⟩, q8, q8'⟩ := law.out
    have fx := few_lim2 x
    have fw := few_lim2 wd
    have fl := few_lim2 s.o3n
    have fr := few_lim2 s.o1n
    unfold Lim at fx fw fl fr
    have W1 : IntKind.i64.wrap (few x + few s.o3n) = few x + few s.o3n := IntWalk.i64_in _ (by omega)
    have W2 : IntKind.i64.wrap (few x + few s.o3n + F.m.l) = X := by rw [q1]; exact IntWalk.i64_in _ (by omega)
    have W3 : IntKind.i64.wrap (X + F.across) = X + F.across := IntWalk.i64_in _ (by omega)
    have W4 : IntKind.i64.wrap (X + F.across + F.w) = X + F.across + F.w := IntWalk.i64_in _ (by omega)
    have W5 : IntKind.i64.wrap (X + F.across + F.w + F.m.r) = X + F.across + F.w + F.m.r := IntWalk.i64_in _ (by omega)
    have W6 : IntKind.i64.wrap (X + F.across + F.w + F.m.r + few s.o1n) = X + F.across + F.w + F.m.r + few s.o1n := IntWalk.i64_in _ (by omega)
    have W7 : IntKind.i64.wrap (few x + few wd) = few x + few wd := IntWalk.i64_in _ (by omega)
    have q9 : decide (F.w < 0) = false := by simpa using q2
    have ways : (F.w == 0) = true ∨ ((F.w == 0) = false ∧ (X + F.across + F.w + F.m.r + few s.o1n == few x + few wd) = true) := by
      simp only [beq_iff_eq, beq_eq_false_iff_ne]
      omega
    have e1 : X = few x + few s.o3n + F.m.l := q1
    clear law q1 q2 q3 q4 q4' q5 q5' q6 q7 q7' q8 q8' fx fw fl fr
    replace e1 := hid e1
    rcases ways with z0 | ⟨z0, sr⟩ <;> (
    go_wp2_with fail
    refine (law20_known _).mono ?_
    rintro e w9 ⟨rfl, hbq⟩
    replace hg := hg.trans (hbq.mono hg.size)
    clear hbq
    go_wp2_with fail
    go_returns
    exact ⟨rfl, hg⟩)
end Go.Proofs.Ytkkabnkhdhlhkaa
