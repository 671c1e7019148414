/-
  The walk of PlaceMoves, and its plain law.
-/
import Derived.Test.YtkkabnkhdhlhkaaPlainC
import Derived.Laws.StructEq
import Derived.Test.YtkkabnkhdhlhkaaPlaceG
namespace Go.Proofs.Ytkkabnkhdhlhkaa
open Go.RowKit Num Mem Opn
set_option linter.unusedVariables false
set_option linter.unusedSimpArgs false
namespace Num
def Sty.pm1 (s : Sty) : Sty := ⟨s.d0, s.d1, s.d2, s.d3, knd s.wk, few s.wn, knd s.hk, few s.hn, knd s.m0k, few s.m0n, knd s.m1k, few s.m1n, knd s.m2k, few s.m2n, knd s.m3k, few s.m3n, knd s.p0k, few s.p0n, knd s.p1k, few s.p1n, knd s.p2k, few s.p2n, knd s.p3k, few s.p3n, knd s.o0k, few s.o0n, knd s.o1k, few s.o1n, knd s.o2k, few s.o2n, 1, few s.o3n, few s.b0, few s.b1, few s.b2, few s.b3, s.e0, s.e1, s.e2, s.e3, s.e4, s.e5, s.e6, s.e7, s.e8, s.e9, s.e10, s.e11, s.e12, s.e13, s.e14, s.e15⟩
def Sty.pm2 (s : Sty) : Sty := ⟨s.d0, s.d1, s.d2, s.d3, knd s.wk, few s.wn, knd s.hk, few s.hn, knd s.m0k, few s.m0n, knd s.m1k, few s.m1n, knd s.m2k, few s.m2n, knd s.m3k, few s.m3n, knd s.p0k, few s.p0n, knd s.p1k, few s.p1n, knd s.p2k, few s.p2n, knd s.p3k, few s.p3n, knd s.o0k, few s.o0n, knd s.o1k, few s.o1n, 1, few s.o2n, 1, few s.o3n, few s.b0, few s.b1, few s.b2, few s.b3, s.e0, s.e1, s.e2, s.e3, s.e4, s.e5, s.e6, s.e7, s.e8, s.e9, s.e10, s.e11, s.e12, s.e13, s.e14, s.e15⟩
theorem few_lim3 (n : Int) : Lim 1073741824 (few n) := by have := few_lo n; have := few_hi n; unfold Lim; omega
theorem few_lim4 (n : Int) : Lim 16777216 (few n) := by have := few_lo n; have := few_hi n; unfold Lim; omega
theorem pm_nums (s : Sty) : ∀ x ∈ s.pm2.nums, Lim 1073741824 x := by
  intro x hx
  simp only [Sty.nums, Sty.twelve, Sty.pm2, List.cons_append, List.nil_append, List.mem_cons, List.not_mem_nil, or_false] at hx
  rcases hx with rfl | rfl | rfl | rfl | rfl | rfl | rfl | rfl | rfl | rfl | rfl | rfl | rfl <;> exact few_lim3 _
/-- a frame's sides up and down, all small. -/
structure Fr.LimV (f : Fr) : Prop where
  mt : Num.Lim 17179869184 f.m.t
  mb : Num.Lim 17179869184 f.m.b
  pt : 0 ≤ f.p.t ∧ f.p.t ≤ 17179869184
  pb : 0 ≤ f.p.b ∧ f.p.b ≤ 17179869184
  bt : 0 ≤ f.b.t ∧ f.b.t ≤ 17179869184
  bb : 0 ≤ f.b.b ∧ f.b.b ≤ 17179869184
theorem framed_limV {s : Sty} {room : Int} (hr : Lim 1073741824 room) (h : ∀ x ∈ s.nums, Lim 1073741824 x) : (s.framed room).LimV := by
  have l0 := len_lim (k := s.m0k) (h s.m0n (by simp [Sty.nums, Sty.twelve])) hr
  have l1 := len_lim (k := s.m2k) (h s.m2n (by simp [Sty.nums, Sty.twelve])) hr
  have l2 := len_lim (k := s.p0k) (h s.p0n (by simp [Sty.nums, Sty.twelve])) hr
  have l3 := len_lim (k := s.p2k) (h s.p2n (by simp [Sty.nums, Sty.twelve])) hr
  have l4 := h s.b0 (by simp [Sty.nums, Sty.twelve])
  have l5 := h s.b2 (by simp [Sty.nums, Sty.twelve])
  unfold Num.Lim at l0 l1 l2 l3 l4 l5
  refine ⟨?_, ?_, ?_, ?_, ?_, ?_⟩ <;> simp only [Sty.framed, Sty.margin, Sty.padding, Sty.border, Num.Lim] <;> omega
theorem down_lim {f : Fr} (h : f.LimV) : f.down = f.p.t + f.p.b + (f.b.t + f.b.b) := by
  obtain ⟨⟨a1, a2⟩, ⟨b1, b2⟩, ⟨c1, c2⟩, ⟨d1, d2⟩, ⟨e1, e2⟩, ⟨g1, g2⟩⟩ := h
  unfold Fr.down
  rw [add_lim (a := f.p.t) (b := f.p.b) (by unfold Lim; omega) (by unfold Lim; omega), add_lim (a := f.b.t) (b := f.b.b) (by unfold Lim; omega) (by unfold Lim; omega), add_lim (by unfold Lim; omega) (by unfold Lim; omega)]
theorem sums_lim {a b c : Int} (ha : Lim 68719476736 a) (hb : Lim 68719476736 b) (hc : Lim 68719476736 c) : sums [a, b, c] 3 = a + b + c := by
  have e : sums [a, b, c] 3 = add (add (add 0 a) b) c := rfl
  unfold Lim at ha hb hc
  rw [e, add_lim (a := 0) (b := a) (by unfold Lim; omega) (by unfold Lim; omega), add_lim (a := 0 + a) (b := b) (by unfold Lim; omega) (by unfold Lim; omega), add_lim (by unfold Lim; omega) (by unfold Lim; omega)]
  omega
/-- what PlaceMoves asks. -/
theorem pmoves_law (s : Sty) (x y wd ht dx dy ct A B C D H : Int) (F : Fr) (hF : F = s.pm2.aframe (few wd) 5 9) (hA : A = s.pm2.ax (few x) (few wd) 0 F) (hB : B = s.pm2.ax (few x + few dx) (few wd) 0 F)
    (hH : H = s.pm2.dh (few ht) (few ct) F) (hC : C = s.pm2.dy (few y) (few ht) 0 H F) (hD : D = s.pm2.dy (few y + few dy) (few ht) 0 H F) :
    B = A + few dx ∧ D = C + few dy ∧ Lim 1099511627776 A ∧ Lim 1099511627776 C := by
  have hf := framed_lim (few_lim3 wd) (pm_nums s)
  have hv := framed_limV (few_lim3 wd) (pm_nums s)
  have hdn := down_lim hv
  obtain ⟨⟨a1, a2⟩, -⟩ := hf
  obtain ⟨⟨v1, v2⟩, ⟨b1, b2⟩, ⟨c1, c2⟩, ⟨d1, d2⟩, ⟨e1, e2⟩, ⟨g1, g2⟩⟩ := hv
  have fx := few_lim4 x
  have fy := few_lim4 y
  have fh := few_lim4 ht
  have fdx := few_lim4 dx
  have fdy := few_lim4 dy
  have fc := few_lim4 ct
  have fl := few_lim4 s.o3n
  have fb := few_lim4 s.o2n
  have hm : F.m = (s.pm2.framed (few wd)).m := by rw [hF]; rfl
  have hac : F.down = (s.pm2.framed (few wd)).down := by rw [hF]; rfl
  have hsm : F.sum true = add (add (s.pm2.framed (few wd)).m.t (s.pm2.framed (few wd)).m.b) (s.pm2.framed (few wd)).down := by rw [hF]; rfl
  have tl := len_lim (k := s.pm2.o0k) (n := s.pm2.o0n) (room := few ht) (few_lim3 s.o0n) (few_lim3 ht)
  have hl := len_lim (k := s.pm2.hk) (n := s.pm2.hn) (room := few ht) (few_lim3 s.hn) (few_lim3 ht)
  have hA' : A = sums [few x, few s.o3n, F.m.l] 3 := by rw [hA]; rfl
  have hB' : B = sums [few x + few dx, few s.o3n, F.m.l] 3 := by rw [hB]; rfl
  unfold Lim at fx fy fh fdx fdy fc fl fb tl hl
  have hH' : Lim 137438953472 H := by
    rw [hH]
    unfold Sty.dh
    split
    · unfold Lim; omega
    · split
      · have e : s.pm2.top (few ht) = len s.pm2.o0k s.pm2.o0n (few ht) := rfl
        have e' : s.pm2.bottom (few ht) = few s.o2n := rfl
        rw [e, e', hsm, hdn, add_lim (a := (s.pm2.framed (few wd)).m.t) (b := (s.pm2.framed (few wd)).m.b) (by unfold Lim; omega) (by unfold Lim; omega), add_lim (by unfold Lim; omega) (by unfold Lim; omega),
          sub_lim (a := few ht) (by unfold Lim; omega) (by unfold Lim; omega), sub_lim (b := few s.o2n) (by unfold Lim; omega) (by unfold Lim; omega), sub_lim (by unfold Lim; omega) (by unfold Lim; omega)]
        unfold Lim
        omega
      · unfold Lim; omega
  unfold Lim at hH'
  rw [hm, sums_lim (by unfold Lim; omega) (by unfold Lim; omega) (by unfold Lim; omega)] at hA' hB'
  by_cases hg : given s.pm2.o0k = true
  · have hC' : C = sums [few y, len s.pm2.o0k s.pm2.o0n (few ht), F.m.t] 3 := by rw [hC]; unfold Sty.dy; rw [if_pos hg]; rfl
    have hD' : D = sums [few y + few dy, len s.pm2.o0k s.pm2.o0n (few ht), F.m.t] 3 := by rw [hD]; unfold Sty.dy; rw [if_pos hg]; rfl
    rw [hm, sums_lim (by unfold Lim; omega) (by unfold Lim; omega) (by unfold Lim; omega)] at hC' hD'
    unfold Lim
    omega
  · have hC' : C = sub (sub (sub (sub (add (few y) (few ht)) (few s.o2n)) F.m.b) F.down) H := by rw [hC]; unfold Sty.dy; rw [if_neg hg]; rfl
    have hD' : D = sub (sub (sub (sub (add (few y + few dy) (few ht)) (few s.o2n)) F.m.b) F.down) H := by rw [hD]; unfold Sty.dy; rw [if_neg hg]; rfl
    rw [hm, hac, hdn, add_lim (by unfold Lim; omega) (by unfold Lim; omega), sub_lim (b := few s.o2n) (by unfold Lim; omega) (by unfold Lim; omega), sub_lim (b := (s.pm2.framed (few wd)).m.b) (by unfold Lim; omega) (by unfold Lim; omega),
      sub_lim (b := (s.pm2.framed (few wd)).p.t + (s.pm2.framed (few wd)).p.b + ((s.pm2.framed (few wd)).b.t + (s.pm2.framed (few wd)).b.b)) (by unfold Lim; omega) (by unfold Lim; omega), sub_lim (by unfold Lim; omega) (by unfold Lim; omega)] at hC' hD'
    unfold Lim
    omega
end Num
@[go_sem] theorem eq_sides (d : Nat) (a b c e : Int) (w : World) : (Op.equalIn (d + 1 + 1) 33 (.agg #[.int .i64 a, .int .i64 b, .int .i64 c, .int .i64 e]) (.agg #[.int .i64 a, .int .i64 b, .int .i64 c, .int .i64 e])).run Try.prog w = .ok true w := by
  have u3 := Try.underlying2
  rw [run_equalIn_agg w _ 33 _ _ (by kernel_rfl) (by kernel_rfl)]
  simp only [Program.fieldsOf, Try.underlying33]
  go_simp
theorem eq_frame (f : Fr) (w : World) : (Op.equalIn 10000 35 (.agg f.arr) (.agg f.arr)).run Try.prog w = .ok true w := by
  have u3 := Try.underlying2
  rw [show (10000 : Nat) = 9997 + 1 + 1 + 1 from rfl, run_equalIn_agg w _ 35 _ _ (by kernel_rfl) (by kernel_rfl)]
  simp only [Program.fieldsOf, Try.underlying35, Fr.arr]
  go_simp
@[go_sem high] theorem eql_frame (f : Fr) (w : World) : (binOp .eql 35 (.agg f.arr) (.agg f.arr)).run Try.prog w = .ok (.bool true) w := by
  rw [run_eql_struct, eq_frame]
  rfl
theorem style_pm1 {W : World} {g : Nat} {t : TypeId} {s : Sty} (h : Blk W g t s.t32.arr) : Blk (W.setCell ⟨g, 30, none⟩ (.int .i64 1)) g t s.pm1.arr := h.put 30 _
theorem style_pm2 {W : World} {g : Nat} {t : TypeId} {s : Sty} (h : Blk W g t s.pm1.arr) : Blk (W.setCell ⟨g, 28, none⟩ (.int .i64 1)) g t s.pm2.arr := h.put 28 _
theorem one_pm {s : Sty} (h : s.arr.all (·.oneCell') = true) : s.pm2.arr.all (·.oneCell') = true := by
  simp [Sty.arr, Value.oneCell'] at h
  simp [Sty.arr, Sty.pm2, Value.oneCell', h]
set_option maxRecDepth 100000 in
set_option maxHeartbeats 4000000 in
theorem walk_PlaceMoves (s : Sty) (x y wd ht dx dy content : Int) (w : World) (ok : s.Ok) (ix : I64 x) (iy : I64 y) (iwd : I64 wd) (iht : I64 ht) (idx : I64 dx) (idy : I64 dy) (ict : I64 content) :
    Calls Try.prog 11 #[.agg s.arr, .agg #[.int .i64 x, .int .i64 y, .int .i64 wd, .int .i64 ht], .int .i64 dx, .int .i64 dy, .int .i64 content] w fun e w' => e = .returned (.bool true) ∧ Below w.heap.size w w' := by
  have bx := few_lim4 x
  have by' := few_lim4 y
  have bdx := few_lim4 dx
  have bdy := few_lim4 dy
  unfold Lim at bx by' bdx bdy
  have V1 : IntKind.i64.wrap (few x + few dx) = few x + few dx := IntWalk.i64_in _ (by omega)
  have V2 : IntKind.i64.wrap (few y + few dy) = few y + few dy := IntWalk.i64_in _ (by omega)
  clear bx by' bdx bdy
  have h : Pl w ((w.alloc (.cells s.arr 28)).alloc (.cells #[.int .i64 x, .int .i64 y, .int .i64 wd, .int .i64 ht] 48)) s x y wd ht := ⟨by go_grown, (Blk.new _ _ _).alloc _, Blk.newAt _ _ _ (by simp)⟩
  go_enter Try.func11, Try.ntmps11
  go_upto_region 1 with fail
  refine wp_forget (fun W => Pl w W (s) (x) (y) (wd) (ht)) h ?_
  clear h
  intro w0 h
  go_wp2_with (first | (first | refine stop_load 28 _ rfl rfl ?_ | refine stop_store 28 _ _ rfl rfl ?_) | (first | refine stop_load 35 _ rfl rfl ?_ | refine stop_store 35 _ _ rfl rfl ?_))
  refine ⟨?_⟩
  refine wl_load rfl 28 _ rfl _ rfl _ _ _ h.sty rfl rfl (info_style' _) ?_
  (try simp only [Act.put, List.setIfInBounds_toArray, List.set_cons_zero, List.set_cons_succ])
  go_wp2_with (first | (first | refine stop_load 28 _ rfl rfl ?_ | refine stop_store 28 _ _ rfl rfl ?_) | (first | refine stop_load 35 _ rfl rfl ?_ | refine stop_store 35 _ _ rfl rfl ?_))
  refine (law20_tame s ok _).mono ?_
  rintro e w1 ⟨rfl, hbq⟩
  replace h := h.on hbq
  clear hbq
  go_wp2_with (first | (first | refine stop_load 28 _ rfl rfl ?_ | refine stop_store 28 _ _ rfl rfl ?_) | (first | refine stop_load 35 _ rfl rfl ?_ | refine stop_store 35 _ _ rfl rfl ?_))
  refine ⟨?_⟩
  refine wl_store rfl 28 _ _ rfl w.heap.size s.t32.arr rfl rfl 28 s.arr h.sty rfl (info_style' _) (one_tame ok.one) ?_
  intro w2 hQ hc
  have h2 : Pl w w2 s.t32 x y wd ht := ⟨h.below.trans (hc.below (Nat.le_refl _)), hQ, h.rct.chg hc (by omega)⟩
  clear hQ hc h
  (try simp only [Act.put, List.setIfInBounds_toArray, List.set_cons_zero, List.set_cons_succ])
  go_upto_region 2 with fail
  have hS : ∀ W, Pl w W (s.t32) (x) (y) (wd) (ht) → (fun W => Pl w W (s.t32) (x) (y) (wd) (ht) ∧ W.cell? ⟨w.heap.size + 1, 0, none⟩ = some (.int .i64 (x)) ∧ W.cell? ⟨w.heap.size + 1, 1, none⟩ = some (.int .i64 (y)) ∧ W.cell? ⟨w.heap.size + 1, 2, none⟩ = some (.int .i64 (wd)) ∧ W.cell? ⟨w.heap.size + 1, 3, none⟩ = some (.int .i64 (ht))) W := fun W h => ⟨h, h.rct.cell 0, h.rct.cell 1, h.rct.cell 2, h.rct.cell 3⟩
  refine wp_region_noPanic ?_
  refine Ord.region_M (S := fun W => Pl w W (s.t32) (x) (y) (wd) (ht) ∧ W.cell? ⟨w.heap.size + 1, 0, none⟩ = some (.int .i64 (x)) ∧ W.cell? ⟨w.heap.size + 1, 1, none⟩ = some (.int .i64 (y)) ∧ W.cell? ⟨w.heap.size + 1, 2, none⟩ = some (.int .i64 (wd)) ∧ W.cell? ⟨w.heap.size + 1, 3, none⟩ = some (.int .i64 (ht))) 13 (.one 0 true (.one 1 true (.one 3 true (.one 4 true (.one 6 true (.one 7 true (.one 9 true (.one 10 true (.one 2 false (.one 5 false (.one 8 false (.one 11 false (.one 12 true (.one 13 false (.nil))))))))))))))) (by kernel_rfl) (by kernel_rfl) (by kernel_rfl) (by kernel_rfl) (by decide) (fun _ _ _ _ _ h => h) (hS _ h2.drew) (fun hS0 => ?_)
  simp only [Ord.layT, List.getElem?_cons_zero, List.getElem?_cons_succ]
  (refine Ord.takeM (v := ?_) (Or.inl ⟨rfl, ?_⟩) ?_; rotate_left; (intro w hSw; (try dsimp only at hSw); go_simp; try (with_reducible rfl)); (try simp only [Act.put, List.setIfInBounds_toArray, List.set_cons_zero, List.set_cons_succ]))
  (refine Ord.takeM (v := ?_) (Or.inl ⟨rfl, ?_⟩) ?_; rotate_left; (intro w hSw; (try dsimp only at hSw); go_simp; try (with_reducible rfl)); (try simp only [Act.put, List.setIfInBounds_toArray, List.set_cons_zero, List.set_cons_succ]))
  (refine Ord.takeM (v := ?_) (Or.inl ⟨rfl, ?_⟩) ?_; rotate_left; (intro w hSw; (try dsimp only at hSw); go_simp; try (with_reducible rfl)); (try simp only [Act.put, List.setIfInBounds_toArray, List.set_cons_zero, List.set_cons_succ]))
  (refine Ord.takeM (v := ?_) (Or.inl ⟨rfl, ?_⟩) ?_; rotate_left; (intro w hSw; (try dsimp only at hSw); go_simp; try (with_reducible rfl)); (try simp only [Act.put, List.setIfInBounds_toArray, List.set_cons_zero, List.set_cons_succ]))
  (refine Ord.takeM (v := ?_) (Or.inl ⟨rfl, ?_⟩) ?_; rotate_left; (intro w hSw; (try dsimp only at hSw); go_simp; try (with_reducible rfl)); (try simp only [Act.put, List.setIfInBounds_toArray, List.set_cons_zero, List.set_cons_succ]))
  (refine Ord.takeM (v := ?_) (Or.inl ⟨rfl, ?_⟩) ?_; rotate_left; (intro w hSw; (try dsimp only at hSw); go_simp; try (with_reducible rfl)); (try simp only [Act.put, List.setIfInBounds_toArray, List.set_cons_zero, List.set_cons_succ]))
  (refine Ord.takeM (v := ?_) (Or.inl ⟨rfl, ?_⟩) ?_; rotate_left; (intro w hSw; (try dsimp only at hSw); go_simp; try (with_reducible rfl)); (try simp only [Act.put, List.setIfInBounds_toArray, List.set_cons_zero, List.set_cons_succ]))
  (refine Ord.takeM (v := ?_) (Or.inl ⟨rfl, ?_⟩) ?_; rotate_left; (intro w hSw; (try dsimp only at hSw); go_simp; try (with_reducible rfl)); (try simp only [Act.put, List.setIfInBounds_toArray, List.set_cons_zero, List.set_cons_succ]))
  refine Ord.aloneM rfl rfl (fun K hK => ?_)
  go_simp
  refine (few_any x _ ix).mono ?_
  rintro e w' ⟨rfl, rfl⟩
  go_wp2_with fail
  refine hK.out _ _ hS0 (fun _ => ?_)
  clear hK K
  (try simp only [Act.put, List.setIfInBounds_toArray, List.set_cons_zero, List.set_cons_succ])
  refine Ord.aloneM rfl rfl (fun K hK => ?_)
  go_simp
  refine (few_any y _ iy).mono ?_
  rintro e w' ⟨rfl, rfl⟩
  go_wp2_with fail
  refine hK.out _ _ hS0 (fun _ => ?_)
  clear hK K
  (try simp only [Act.put, List.setIfInBounds_toArray, List.set_cons_zero, List.set_cons_succ])
  refine Ord.aloneM rfl rfl (fun K hK => ?_)
  go_simp
  refine (few_any wd _ iwd).mono ?_
  rintro e w' ⟨rfl, rfl⟩
  go_wp2_with fail
  refine hK.out _ _ hS0 (fun _ => ?_)
  clear hK K
  (try simp only [Act.put, List.setIfInBounds_toArray, List.set_cons_zero, List.set_cons_succ])
  refine Ord.aloneM rfl rfl (fun K hK => ?_)
  go_simp
  refine (few_any ht _ iht).mono ?_
  rintro e w' ⟨rfl, rfl⟩
  go_wp2_with fail
  refine hK.out _ _ hS0 (fun _ => ?_)
  clear hK K
  (try simp only [Act.put, List.setIfInBounds_toArray, List.set_cons_zero, List.set_cons_succ])
  (refine Ord.takeM (v := ?_) (Or.inl ⟨rfl, ?_⟩) ?_; rotate_left; (intro w hSw; (try dsimp only at hSw); go_simp; try (with_reducible rfl)); (try simp only [Act.put, List.setIfInBounds_toArray, List.set_cons_zero, List.set_cons_succ]))
  obtain ⟨h3, -⟩ := hS0
  refine Ord.lastM rfl rfl (fun K hK => ?_)
  refine wp_store_row 48 _ _ rfl (w.heap.size + 1) #[.int .i64 (few x), .int .i64 (few y), .int .i64 (few wd), .int .i64 (few ht)] rfl rfl 48 _ h3.rct rfl (by kernel_rfl) (by simp [Value.oneCell']) ?_
  intro w3 hR hc
  (try simp only [Act.put, List.setIfInBounds_toArray, List.set_cons_zero, List.set_cons_succ])
  refine hK.out _ _ ?_
  have h : Pl w w3 (s.t32) (few x) (few y) (few wd) (few ht) := ⟨h3.below.trans (hc.below (by omega)), h3.sty.chg hc (by omega), hR⟩
  clear hK K h3 h2 hS hR hc
  refine Ord.doneM (NoPanic.normal ?_)
  go_upto_region 3 with fail
  have c30 : w3.cell? ⟨w.heap.size, 30, none⟩ = some (.int .i64 s.t32.o3k) := h.sty.cell 30
  have f30 : w3.frozen? ⟨w.heap.size, 30, none⟩ = false := h.sty.free 30
  have c28 : w3.cell? ⟨w.heap.size, 28, none⟩ = some (.int .i64 s.t32.o2k) := h.sty.cell 28
  have f28 : w3.frozen? ⟨w.heap.size, 28, none⟩ = false := h.sty.free 28
  go_upto_region 5 with fail
  have h6 := h.one (style_pm1 h.sty)
  have h9 := h6.one (style_pm2 h6.sty)
  refine wp_forget (fun W => Pl w W s.pm2 (few x) (few y) (few wd) (few ht)) h9 ?_
  clear h6 h9 h c30 f30 c28 f28
  intro w4 h
  have hone := one_pm ok.one
  have r0 : w4.cell? ⟨w.heap.size + 1, 0, none⟩ = some (.int .i64 (few x)) := h.rct.cell 0
  have r1 : w4.cell? ⟨w.heap.size + 1, 1, none⟩ = some (.int .i64 (few y)) := h.rct.cell 1
  have r2 : w4.cell? ⟨w.heap.size + 1, 2, none⟩ = some (.int .i64 (few wd)) := h.rct.cell 2
  have r3 : w4.cell? ⟨w.heap.size + 1, 3, none⟩ = some (.int .i64 (few ht)) := h.rct.cell 3
  go_upto_region 6 with fail
  refine wp_forget (fun W => Pl w W s.pm2 (few x) (few y) (few wd) (few ht) ∧ Blk W w4.heap.size 48 #[.int .i64 (few x), .int .i64 (few y), .int .i64 (few wd), .int .i64 (few ht)]) ⟨h.on (by go_grown), Blk.new _ _ _⟩ ?_
  have lq : w.heap.size + 1 < w4.heap.size := h.rct.lt
  clear r0 r1 r2 r3 h
  generalize w4.heap.size = q at *
  rintro w5 ⟨h, hq⟩
  have hS : ∀ W, (Pl w W s.pm2 (few x) (few y) (few wd) (few ht) ∧ Blk W q 48 #[.int .i64 (few x), .int .i64 (few y), .int .i64 (few wd), .int .i64 (few ht)]) → (fun W => (Pl w W s.pm2 (few x) (few y) (few wd) (few ht) ∧ Blk W q 48 #[.int .i64 (few x), .int .i64 (few y), .int .i64 (few wd), .int .i64 (few ht)]) ∧ W.cell? ⟨q, 0, none⟩ = some (.int .i64 (few x))) W := fun W h => ⟨h, h.2.cell 0⟩
  refine wp_region_noPanic ?_
  refine Ord.region_M (S := fun W => (Pl w W s.pm2 (few x) (few y) (few wd) (few ht) ∧ Blk W q 48 #[.int .i64 (few x), .int .i64 (few y), .int .i64 (few wd), .int .i64 (few ht)]) ∧ W.cell? ⟨q, 0, none⟩ = some (.int .i64 (few x))) 6 (.one 0 true (.one 1 true (.one 2 true (.one 3 false (.one 4 true (.one 5 true (.one 6 false (.nil)))))))) (by kernel_rfl) (by kernel_rfl) (by kernel_rfl) (by kernel_rfl) (by decide) (fun _ _ _ _ _ h => h) (hS _ ⟨h.drew, hq.drew⟩) (fun hS0 => ?_)
  simp only [Ord.layT, List.getElem?_cons_zero, List.getElem?_cons_succ]
  (refine Ord.takeM (v := ?_) (Or.inl ⟨rfl, ?_⟩) ?_; rotate_left; (intro w hSw; (try dsimp only at hSw); go_simp; try (with_reducible rfl)); (try simp only [Act.put, List.setIfInBounds_toArray, List.set_cons_zero, List.set_cons_succ]))
  (refine Ord.takeM (v := ?_) (Or.inl ⟨rfl, ?_⟩) ?_; rotate_left; (intro w hSw; (try dsimp only at hSw); go_simp; try (with_reducible rfl)); (try simp only [Act.put, List.setIfInBounds_toArray, List.set_cons_zero, List.set_cons_succ]))
  (refine Ord.takeM (v := ?_) (Or.inl ⟨rfl, ?_⟩) ?_; rotate_left; (intro w hSw; (try dsimp only at hSw); go_simp; try (with_reducible rfl)); (try simp only [Act.put, List.setIfInBounds_toArray, List.set_cons_zero, List.set_cons_succ]))
  refine Ord.aloneM rfl rfl (fun K hK => ?_)
  go_simp
  refine (few_any dx _ idx).mono ?_
  rintro e w' ⟨rfl, rfl⟩
  go_wp2_with fail
  refine hK.out _ _ hS0 (fun _ => ?_)
  clear hK K
  (try simp only [Act.put, List.setIfInBounds_toArray, List.set_cons_zero, List.set_cons_succ])
  (refine Ord.takeM (v := ?_) (Or.inl ⟨rfl, ?_⟩) ?_; rotate_left; (intro w hSw; (try dsimp only at hSw); go_simp; try (with_reducible rfl)); (try simp only [Act.put, List.setIfInBounds_toArray, List.set_cons_zero, List.set_cons_succ]))
  (refine Ord.takeM (v := ?_) (Or.inl ⟨rfl, ?_⟩) ?_; rotate_left; (intro w hSw; (try dsimp only at hSw); go_simp; try (with_reducible rfl)); (try simp only [Act.put, List.setIfInBounds_toArray, List.set_cons_zero, List.set_cons_succ]))
  obtain ⟨⟨h1, hq1⟩, -⟩ := hS0
  have c : w5.drew.cell? ⟨q, 0, none⟩ = some (.int .i64 (few x)) := hq1.cell 0
  have f : w5.frozen? ⟨q, 0, none⟩ = false := hq.free 0
  have c' : w5.cell? ⟨q, 0, none⟩ = some (.int .i64 (few x)) := hq.cell 0
  refine Ord.lastM rfl rfl (fun K hK => ?_)
  go_simp
  refine hK.out _ _ ?_
  clear hK K
  refine Ord.doneM (NoPanic.normal ?_)
  clear hS c f c'
  go_upto_region 7 with fail
  refine wp_forget (fun W => Pl w W s.pm2 (few x) (few y) (few wd) (few ht) ∧ Blk W q 48 #[.int .i64 (few x + few dx), .int .i64 (few y), .int .i64 (few wd), .int .i64 (few ht)]) ⟨h1.chg (Chg.setCell _ ⟨q, 0, none⟩ _) lq, hq1.put 0 _⟩ ?_
  clear h hq h1 hq1
  rintro w6 ⟨h, hq⟩
  have hS : ∀ W, (Pl w W s.pm2 (few x) (few y) (few wd) (few ht) ∧ Blk W q 48 #[.int .i64 (few x + few dx), .int .i64 (few y), .int .i64 (few wd), .int .i64 (few ht)]) → (fun W => (Pl w W s.pm2 (few x) (few y) (few wd) (few ht) ∧ Blk W q 48 #[.int .i64 (few x + few dx), .int .i64 (few y), .int .i64 (few wd), .int .i64 (few ht)]) ∧ W.cell? ⟨q, 1, none⟩ = some (.int .i64 (few y))) W := fun W h => ⟨h, h.2.cell 1⟩
  refine wp_region_noPanic ?_
  refine Ord.region_M (S := fun W => (Pl w W s.pm2 (few x) (few y) (few wd) (few ht) ∧ Blk W q 48 #[.int .i64 (few x + few dx), .int .i64 (few y), .int .i64 (few wd), .int .i64 (few ht)]) ∧ W.cell? ⟨q, 1, none⟩ = some (.int .i64 (few y))) 6 (.one 0 true (.one 1 true (.one 2 true (.one 3 false (.one 4 true (.one 5 true (.one 6 false (.nil)))))))) (by kernel_rfl) (by kernel_rfl) (by kernel_rfl) (by kernel_rfl) (by decide) (fun _ _ _ _ _ h => h) (hS _ ⟨h.drew, hq.drew⟩) (fun hS0 => ?_)
  simp only [Ord.layT, List.getElem?_cons_zero, List.getElem?_cons_succ]
  (refine Ord.takeM (v := ?_) (Or.inl ⟨rfl, ?_⟩) ?_; rotate_left; (intro w hSw; (try dsimp only at hSw); go_simp; try (with_reducible rfl)); (try simp only [Act.put, List.setIfInBounds_toArray, List.set_cons_zero, List.set_cons_succ]))
  (refine Ord.takeM (v := ?_) (Or.inl ⟨rfl, ?_⟩) ?_; rotate_left; (intro w hSw; (try dsimp only at hSw); go_simp; try (with_reducible rfl)); (try simp only [Act.put, List.setIfInBounds_toArray, List.set_cons_zero, List.set_cons_succ]))
  (refine Ord.takeM (v := ?_) (Or.inl ⟨rfl, ?_⟩) ?_; rotate_left; (intro w hSw; (try dsimp only at hSw); go_simp; try (with_reducible rfl)); (try simp only [Act.put, List.setIfInBounds_toArray, List.set_cons_zero, List.set_cons_succ]))
  refine Ord.aloneM rfl rfl (fun K hK => ?_)
  go_simp
  refine (few_any dy _ idy).mono ?_
  rintro e w' ⟨rfl, rfl⟩
  go_wp2_with fail
  refine hK.out _ _ hS0 (fun _ => ?_)
  clear hK K
  (try simp only [Act.put, List.setIfInBounds_toArray, List.set_cons_zero, List.set_cons_succ])
  (refine Ord.takeM (v := ?_) (Or.inl ⟨rfl, ?_⟩) ?_; rotate_left; (intro w hSw; (try dsimp only at hSw); go_simp; try (with_reducible rfl)); (try simp only [Act.put, List.setIfInBounds_toArray, List.set_cons_zero, List.set_cons_succ]))
  (refine Ord.takeM (v := ?_) (Or.inl ⟨rfl, ?_⟩) ?_; rotate_left; (intro w hSw; (try dsimp only at hSw); go_simp; try (with_reducible rfl)); (try simp only [Act.put, List.setIfInBounds_toArray, List.set_cons_zero, List.set_cons_succ]))
  obtain ⟨⟨h1, hq1⟩, -⟩ := hS0
  have c : w6.drew.cell? ⟨q, 1, none⟩ = some (.int .i64 (few y)) := hq1.cell 1
  have f : w6.frozen? ⟨q, 1, none⟩ = false := hq.free 1
  have c' : w6.cell? ⟨q, 1, none⟩ = some (.int .i64 (few y)) := hq.cell 1
  refine Ord.lastM rfl rfl (fun K hK => ?_)
  go_simp
  refine hK.out _ _ ?_
  clear hK K
  refine Ord.doneM (NoPanic.normal ?_)
  clear hS c f c'
  go_upto_region 8 with fail
  refine wp_forget (fun W => Pl w W s.pm2 (few x) (few y) (few wd) (few ht) ∧ Blk W q 48 #[.int .i64 (few x + few dx), .int .i64 (few y + few dy), .int .i64 (few wd), .int .i64 (few ht)]) ⟨h1.chg (Chg.setCell _ ⟨q, 1, none⟩ _) lq, hq1.put 1 _⟩ ?_
  clear h hq h1 hq1
  rintro w7 ⟨h, hq⟩
  obtain ⟨F, hF⟩ : ∃ F, s.pm2.aframe (few wd) 5 9 = F := ⟨_, rfl⟩
  obtain ⟨A, hA⟩ : ∃ A, s.pm2.ax (few x) (few wd) 0 F = A := ⟨_, rfl⟩
  obtain ⟨B, hB⟩ : ∃ B, s.pm2.ax (few x + few dx) (few wd) 0 F = B := ⟨_, rfl⟩
  obtain ⟨H, hH⟩ : ∃ H, s.pm2.dh (few ht) (few content) F = H := ⟨_, rfl⟩
  obtain ⟨C, hC⟩ : ∃ C, s.pm2.dy (few y) (few ht) 0 H F = C := ⟨_, rfl⟩
  obtain ⟨D, hD⟩ : ∃ D, s.pm2.dy (few y + few dy) (few ht) 0 H F = D := ⟨_, rfl⟩
  obtain ⟨law⟩ := Nonempty.intro (hid (pmoves_law s x y wd ht dx dy content A B C D H F hF.symm hA.symm hB.symm hH.symm hC.symm hD.symm))
  replace hF := hid hF
  replace hA := hid hA
  replace hB := hid hB
  replace hH := hid hH
  replace hC := hid hC
  replace hD := hid hD
  have r0 : w7.cell? ⟨w.heap.size + 1, 0, none⟩ = some (.int .i64 (few x)) := h.rct.cell 0
  have r1 : w7.cell? ⟨w.heap.size + 1, 1, none⟩ = some (.int .i64 (few y)) := h.rct.cell 1
  have r2 : w7.cell? ⟨w.heap.size + 1, 2, none⟩ = some (.int .i64 (few wd)) := h.rct.cell 2
  have r3 : w7.cell? ⟨w.heap.size + 1, 3, none⟩ = some (.int .i64 (few ht)) := h.rct.cell 3
  go_wp2_with (first | (first | refine stop_load 28 _ rfl rfl ?_ | refine stop_store 28 _ _ rfl rfl ?_) | (first | refine stop_load 35 _ rfl rfl ?_ | refine stop_store 35 _ _ rfl rfl ?_))
  refine ⟨?_⟩
  refine wl_load rfl 28 _ rfl _ rfl _ _ _ h.sty rfl rfl (info_style' _) ?_
  (try simp only [Act.put, List.setIfInBounds_toArray, List.set_cons_zero, List.set_cons_succ])
  go_wp2_with (first | (first | refine stop_load 28 _ rfl rfl ?_ | refine stop_store 28 _ _ rfl rfl ?_) | (first | refine stop_load 35 _ rfl rfl ?_ | refine stop_store 35 _ _ rfl rfl ?_))
  refine (place_Across s.pm2 (few x) (few y) (few wd) (few ht) 0 5 9 _ hone).mono ?_
  rw [hF.out, hA.out]
  rintro e w8a ⟨rfl, hbq⟩
  replace h := h.on hbq
  replace hq := hq.below hbq hq.lt
  clear hbq r0 r1 r2 r3
  go_wp2_with (first | (first | refine stop_load 28 _ rfl rfl ?_ | refine stop_store 28 _ _ rfl rfl ?_) | (first | refine stop_load 35 _ rfl rfl ?_ | refine stop_store 35 _ _ rfl rfl ?_))
  refine ⟨?_⟩
  refine wl_store rfl 35 _ _ rfl w8a.heap.size F.arr rfl rfl 35 Fr.zero.arr (Blk.new _ _ _) rfl (info_frame _) (frame_one _) ?_
  intro w8 hF1 hc
  have lt : w.heap.size + 1 < w8a.heap.size := h.rct.lt
  have ltq := hq.lt
  replace h := (h.on ((Below.refl _ w8a).alloc (Nat.le_refl _) _)).chg hc lt
  replace hq := (hq.alloc _).chg hc (by omega)
  clear hc lt ltq 
  generalize w8a.heap.size = g at *
  (try simp only [Act.put, List.setIfInBounds_toArray, List.set_cons_zero, List.set_cons_succ])
  go_upto_region 9 with fail
  have r0 : w8.cell? ⟨q, 0, none⟩ = some (.int .i64 (few x + few dx)) := hq.cell 0
  have r1 : w8.cell? ⟨q, 1, none⟩ = some (.int .i64 (few y + few dy)) := hq.cell 1
  have r2 : w8.cell? ⟨q, 2, none⟩ = some (.int .i64 (few wd)) := hq.cell 2
  have r3 : w8.cell? ⟨q, 3, none⟩ = some (.int .i64 (few ht)) := hq.cell 3
  go_wp2_with (first | (first | refine stop_load 28 _ rfl rfl ?_ | refine stop_store 28 _ _ rfl rfl ?_) | (first | refine stop_load 35 _ rfl rfl ?_ | refine stop_store 35 _ _ rfl rfl ?_))
  refine ⟨?_⟩
  refine wl_load rfl 28 _ rfl _ rfl _ _ _ h.sty rfl rfl (info_style' _) ?_
  (try simp only [Act.put, List.setIfInBounds_toArray, List.set_cons_zero, List.set_cons_succ])
  go_wp2_with (first | (first | refine stop_load 28 _ rfl rfl ?_ | refine stop_store 28 _ _ rfl rfl ?_) | (first | refine stop_load 35 _ rfl rfl ?_ | refine stop_store 35 _ _ rfl rfl ?_))
  refine (place_Across s.pm2 (few x + few dx) (few y + few dy) (few wd) (few ht) 0 5 9 _ hone).mono ?_
  rw [hF.out, hB.out]
  rintro e w9a ⟨rfl, hbq⟩
  replace h := h.on hbq
  replace hq := hq.below hbq hq.lt
  replace hF1 := hF1.below hbq hF1.lt
  clear hbq r0 r1 r2 r3
  go_wp2_with (first | (first | refine stop_load 28 _ rfl rfl ?_ | refine stop_store 28 _ _ rfl rfl ?_) | (first | refine stop_load 35 _ rfl rfl ?_ | refine stop_store 35 _ _ rfl rfl ?_))
  refine ⟨?_⟩
  refine wl_store rfl 35 _ _ rfl w9a.heap.size F.arr rfl rfl 35 Fr.zero.arr (Blk.new _ _ _) rfl (info_frame _) (frame_one _) ?_
  intro w9 hF2 hc
  have lt : w.heap.size + 1 < w9a.heap.size := h.rct.lt
  have ltq := hq.lt
  have lthF1 := hF1.lt
  replace h := (h.on ((Below.refl _ w9a).alloc (Nat.le_refl _) _)).chg hc lt
  replace hq := (hq.alloc _).chg hc (by omega)
  replace hF1 := (hF1.alloc _).chg hc (by omega)
  clear hc lt ltq lthF1
  generalize w9a.heap.size = k at *
  (try simp only [Act.put, List.setIfInBounds_toArray, List.set_cons_zero, List.set_cons_succ])
  go_upto_region 10 with fail
  have hS : ∀ W, (Pl w W s.pm2 (few x) (few y) (few wd) (few ht) ∧ Blk W q 48 #[.int .i64 (few x + few dx), .int .i64 (few y + few dy), .int .i64 (few wd), .int .i64 (few ht)] ∧ Blk W g 35 F.arr ∧ Blk W k 35 F.arr) → (fun W => (Pl w W s.pm2 (few x) (few y) (few wd) (few ht) ∧ Blk W q 48 #[.int .i64 (few x + few dx), .int .i64 (few y + few dy), .int .i64 (few wd), .int .i64 (few ht)] ∧ Blk W g 35 F.arr ∧ Blk W k 35 F.arr) ∧ W.cell? ⟨w.heap.size + 1, 0, none⟩ = some (.int .i64 (few x)) ∧ W.cell? ⟨w.heap.size + 1, 1, none⟩ = some (.int .i64 (few y)) ∧ W.cell? ⟨w.heap.size + 1, 2, none⟩ = some (.int .i64 (few wd)) ∧ W.cell? ⟨w.heap.size + 1, 3, none⟩ = some (.int .i64 (few ht))) W := fun W h => ⟨h, h.1.rct.cell 0, h.1.rct.cell 1, h.1.rct.cell 2, h.1.rct.cell 3⟩
  refine wp_region_noPanic ?_
  refine Ord.region_ord (S := fun W => (Pl w W s.pm2 (few x) (few y) (few wd) (few ht) ∧ Blk W q 48 #[.int .i64 (few x + few dx), .int .i64 (few y + few dy), .int .i64 (few wd), .int .i64 (few ht)] ∧ Blk W g 35 F.arr ∧ Blk W k 35 F.arr) ∧ W.cell? ⟨w.heap.size + 1, 0, none⟩ = some (.int .i64 (few x)) ∧ W.cell? ⟨w.heap.size + 1, 1, none⟩ = some (.int .i64 (few y)) ∧ W.cell? ⟨w.heap.size + 1, 2, none⟩ = some (.int .i64 (few wd)) ∧ W.cell? ⟨w.heap.size + 1, 3, none⟩ = some (.int .i64 (few ht))) [(0, true), (1, true), (2, true), (4, true), (3, false), (5, false), (6, true), (7, true), (8, true), (9, true), (10, true)] (by kernel_rfl) (by kernel_rfl) (by kernel_rfl) (by decide) (fun _ _ _ _ _ h => h) (hS _ ⟨h.drew, hq.drew, hF1.drew, hF2.drew⟩) (fun hS0 => ?_)
  simp only [Ord.lay, List.getElem?_cons_zero, List.getElem?_cons_succ]
  (refine Ord.take (yieldsIf_load_mid rfl _ _ rfl w.heap.size 0 rfl _ _ (fun w' h => h.1.1.sty.range) Try.underlying28 rfl (by simpa using info_style' s.pm2)) ?_; (try simp only [Act.put, List.setIfInBounds_toArray, List.set_cons_zero, List.set_cons_succ]))
  (refine Ord.take (v := ?_) (Or.inl ⟨rfl, ?_⟩) ?_; rotate_left; (intro w hSw; (try dsimp only at hSw); go_simp; try (with_reducible rfl)); (try simp only [Act.put, List.setIfInBounds_toArray, List.set_cons_zero, List.set_cons_succ]))
  (refine Ord.take (v := ?_) (Or.inl ⟨rfl, ?_⟩) ?_; rotate_left; (intro w hSw; (try dsimp only at hSw); go_simp; try (with_reducible rfl)); (try simp only [Act.put, List.setIfInBounds_toArray, List.set_cons_zero, List.set_cons_succ]))
  (refine Ord.take (yieldsIf_load_mid rfl _ _ rfl g 0 rfl _ _ (fun w' h => h.1.2.2.1.range) Try.underlying35 rfl info_frame') ?_; (try simp only [Act.put, List.setIfInBounds_toArray, List.set_cons_zero, List.set_cons_succ]))
  refine Ord.alone rfl (fun K hK => ?_)
  go_simp
  refine (few_any content _ ict).mono ?_
  rintro e w' ⟨rfl, rfl⟩
  go_wp2_with fail
  refine hK.out _ _ hS0 (fun _ => ?_)
  clear hK K
  (try simp only [Act.put, List.setIfInBounds_toArray, List.set_cons_zero, List.set_cons_succ])
  refine Ord.alone rfl (fun K hK => ?_)
  go_simp
  refine (place_Down s.pm2 (few x) (few y) (few wd) (few ht) 0 (few content) F _).mono ?_
  rw [hH.out, hC.out]
  rintro e w10 ⟨rfl, hbq⟩
  have hS1 := hS w10 ⟨hS0.1.1.on hbq, hS0.1.2.1.below hbq hS0.1.2.1.lt, hS0.1.2.2.1.below hbq hS0.1.2.2.1.lt, hS0.1.2.2.2.below hbq hS0.1.2.2.2.lt⟩
  go_wp2_with fail
  refine hK.out _ _ hS1 (fun _ => ?_)
  clear hK K hbq hS0
  (try simp only [Act.put, List.setIfInBounds_toArray, List.set_cons_zero, List.set_cons_succ])
  (refine Ord.take (v := ?_) (Or.inl ⟨rfl, ?_⟩) ?_; rotate_left; (intro w hSw; (try dsimp only at hSw); go_simp; try (with_reducible rfl)); (try simp only [Act.put, List.setIfInBounds_toArray, List.set_cons_zero, List.set_cons_succ]))
  (refine Ord.take (v := ?_) (Or.inl ⟨rfl, ?_⟩) ?_; rotate_left; (intro w hSw; (try dsimp only at hSw); go_simp; try (with_reducible rfl)); (try simp only [Act.put, List.setIfInBounds_toArray, List.set_cons_zero, List.set_cons_succ]))
  (refine Ord.take (v := ?_) (Or.inl ⟨rfl, ?_⟩) ?_; rotate_left; (intro w hSw; (try dsimp only at hSw); go_simp; try (with_reducible rfl)); (try simp only [Act.put, List.setIfInBounds_toArray, List.set_cons_zero, List.set_cons_succ]))
  (refine Ord.take (v := ?_) (Or.inl ⟨rfl, ?_⟩) ?_; rotate_left; (intro w hSw; (try dsimp only at hSw); go_simp; try (with_reducible rfl)); (try simp only [Act.put, List.setIfInBounds_toArray, List.set_cons_zero, List.set_cons_succ]))
  (refine Ord.take (v := ?_) (Or.inl ⟨rfl, ?_⟩) ?_; rotate_left; (intro w hSw; (try dsimp only at hSw); go_simp; try (with_reducible rfl)); (try simp only [Act.put, List.setIfInBounds_toArray, List.set_cons_zero, List.set_cons_succ]))
  refine Ord.done (NoPanic.normal ?_)
  clear h hq hF1 hF2
  obtain ⟨⟨h, hq, hF1, hF2⟩, -⟩ := hS1
  clear hS
  go_upto_region 11 with fail
  have hS : ∀ W, (Pl w W s.pm2 (few x) (few y) (few wd) (few ht) ∧ Blk W q 48 #[.int .i64 (few x + few dx), .int .i64 (few y + few dy), .int .i64 (few wd), .int .i64 (few ht)] ∧ Blk W g 35 F.arr ∧ Blk W k 35 F.arr) → (fun W => (Pl w W s.pm2 (few x) (few y) (few wd) (few ht) ∧ Blk W q 48 #[.int .i64 (few x + few dx), .int .i64 (few y + few dy), .int .i64 (few wd), .int .i64 (few ht)] ∧ Blk W g 35 F.arr ∧ Blk W k 35 F.arr) ∧ W.cell? ⟨q, 0, none⟩ = some (.int .i64 (few x + few dx)) ∧ W.cell? ⟨q, 1, none⟩ = some (.int .i64 (few y + few dy)) ∧ W.cell? ⟨q, 2, none⟩ = some (.int .i64 (few wd)) ∧ W.cell? ⟨q, 3, none⟩ = some (.int .i64 (few ht))) W := fun W h => ⟨h, h.2.1.cell 0, h.2.1.cell 1, h.2.1.cell 2, h.2.1.cell 3⟩
  refine wp_region_noPanic ?_
  refine Ord.region_ord (S := fun W => (Pl w W s.pm2 (few x) (few y) (few wd) (few ht) ∧ Blk W q 48 #[.int .i64 (few x + few dx), .int .i64 (few y + few dy), .int .i64 (few wd), .int .i64 (few ht)] ∧ Blk W g 35 F.arr ∧ Blk W k 35 F.arr) ∧ W.cell? ⟨q, 0, none⟩ = some (.int .i64 (few x + few dx)) ∧ W.cell? ⟨q, 1, none⟩ = some (.int .i64 (few y + few dy)) ∧ W.cell? ⟨q, 2, none⟩ = some (.int .i64 (few wd)) ∧ W.cell? ⟨q, 3, none⟩ = some (.int .i64 (few ht))) [(0, true), (1, true), (2, true), (4, true), (3, false), (5, false), (6, true), (7, true), (8, true), (9, true), (10, true)] (by kernel_rfl) (by kernel_rfl) (by kernel_rfl) (by decide) (fun _ _ _ _ _ h => h) (hS _ ⟨h.drew, hq.drew, hF1.drew, hF2.drew⟩) (fun hS0 => ?_)
  simp only [Ord.lay, List.getElem?_cons_zero, List.getElem?_cons_succ]
  (refine Ord.take (yieldsIf_load_mid rfl _ _ rfl w.heap.size 0 rfl _ _ (fun w' h => h.1.1.sty.range) Try.underlying28 rfl (by simpa using info_style' s.pm2)) ?_; (try simp only [Act.put, List.setIfInBounds_toArray, List.set_cons_zero, List.set_cons_succ]))
  (refine Ord.take (v := ?_) (Or.inl ⟨rfl, ?_⟩) ?_; rotate_left; (intro w hSw; (try dsimp only at hSw); go_simp; try (with_reducible rfl)); (try simp only [Act.put, List.setIfInBounds_toArray, List.set_cons_zero, List.set_cons_succ]))
  (refine Ord.take (v := ?_) (Or.inl ⟨rfl, ?_⟩) ?_; rotate_left; (intro w hSw; (try dsimp only at hSw); go_simp; try (with_reducible rfl)); (try simp only [Act.put, List.setIfInBounds_toArray, List.set_cons_zero, List.set_cons_succ]))
  (refine Ord.take (yieldsIf_load_mid rfl _ _ rfl k 0 rfl _ _ (fun w' h => h.1.2.2.2.range) Try.underlying35 rfl info_frame') ?_; (try simp only [Act.put, List.setIfInBounds_toArray, List.set_cons_zero, List.set_cons_succ]))
  refine Ord.alone rfl (fun K hK => ?_)
  go_simp
  refine (few_any content _ ict).mono ?_
  rintro e w' ⟨rfl, rfl⟩
  go_wp2_with fail
  refine hK.out _ _ hS0 (fun _ => ?_)
  clear hK K
  (try simp only [Act.put, List.setIfInBounds_toArray, List.set_cons_zero, List.set_cons_succ])
  refine Ord.alone rfl (fun K hK => ?_)
  go_simp
  refine (place_Down s.pm2 (few x + few dx) (few y + few dy) (few wd) (few ht) 0 (few content) F _).mono ?_
  rw [hH.out, hD.out]
  rintro e w11 ⟨rfl, hbq⟩
  have hS1 := hS w11 ⟨hS0.1.1.on hbq, hS0.1.2.1.below hbq hS0.1.2.1.lt, hS0.1.2.2.1.below hbq hS0.1.2.2.1.lt, hS0.1.2.2.2.below hbq hS0.1.2.2.2.lt⟩
  go_wp2_with fail
  refine hK.out _ _ hS1 (fun _ => ?_)
  clear hK K hbq hS0
  (try simp only [Act.put, List.setIfInBounds_toArray, List.set_cons_zero, List.set_cons_succ])
  (refine Ord.take (v := ?_) (Or.inl ⟨rfl, ?_⟩) ?_; rotate_left; (intro w hSw; (try dsimp only at hSw); go_simp; try (with_reducible rfl)); (try simp only [Act.put, List.setIfInBounds_toArray, List.set_cons_zero, List.set_cons_succ]))
  (refine Ord.take (v := ?_) (Or.inl ⟨rfl, ?_⟩) ?_; rotate_left; (intro w hSw; (try dsimp only at hSw); go_simp; try (with_reducible rfl)); (try simp only [Act.put, List.setIfInBounds_toArray, List.set_cons_zero, List.set_cons_succ]))
  (refine Ord.take (v := ?_) (Or.inl ⟨rfl, ?_⟩) ?_; rotate_left; (intro w hSw; (try dsimp only at hSw); go_simp; try (with_reducible rfl)); (try simp only [Act.put, List.setIfInBounds_toArray, List.set_cons_zero, List.set_cons_succ]))
  (refine Ord.take (v := ?_) (Or.inl ⟨rfl, ?_⟩) ?_; rotate_left; (intro w hSw; (try dsimp only at hSw); go_simp; try (with_reducible rfl)); (try simp only [Act.put, List.setIfInBounds_toArray, List.set_cons_zero, List.set_cons_succ]))
  (refine Ord.take (v := ?_) (Or.inl ⟨rfl, ?_⟩) ?_; rotate_left; (intro w hSw; (try dsimp only at hSw); go_simp; try (with_reducible rfl)); (try simp only [Act.put, List.setIfInBounds_toArray, List.set_cons_zero, List.set_cons_succ]))
  refine Ord.done (NoPanic.normal ?_)
  clear h hq hF1 hF2
  obtain ⟨⟨h, hq, hF1, hF2⟩, -⟩ := hS1
  clear hS
  clear hF hA hB hH hC hD hq
  obtain ⟨q1, q2, ⟨q3, q4⟩, q5, q6⟩ := law.out
  have bdx := few_lim4 dx
  have bdy := few_lim4 dy
  unfold Lim at bdx bdy
  have W1 : IntKind.i64.wrap (A + few dx) = B := by rw [q1]; exact IntWalk.i64_in _ (by omega)
  have W2 : IntKind.i64.wrap (C + few dy) = D := by rw [q2]; exact IntWalk.i64_in _ (by omega)
  clear law q1 q2 q3 q4 q5 q6 bdx bdy V1 V2
  go_wp2_with (first | (first | refine stop_load 28 _ rfl rfl ?_ | refine stop_store 28 _ _ rfl rfl ?_) | (first | refine stop_load 35 _ rfl rfl ?_ | refine stop_store 35 _ _ rfl rfl ?_) | (go_at_call 22; refine (few_any _ _ (by assumption)).mono ?_; rintro e w' ⟨rfl, rfl⟩))
  refine ⟨?_⟩
  refine wl_load rfl 35 _ rfl _ rfl _ _ _ hF1 rfl rfl (info_frame _) ?_
  (try simp only [Act.put, List.setIfInBounds_toArray, List.set_cons_zero, List.set_cons_succ])
  go_wp2_with (first | (first | refine stop_load 28 _ rfl rfl ?_ | refine stop_store 28 _ _ rfl rfl ?_) | (first | refine stop_load 35 _ rfl rfl ?_ | refine stop_store 35 _ _ rfl rfl ?_) | (go_at_call 22; refine (few_any _ _ (by assumption)).mono ?_; rintro e w' ⟨rfl, rfl⟩))
  refine ⟨?_⟩
  refine wl_load rfl 35 _ rfl _ rfl _ _ _ hF2 rfl rfl (info_frame _) ?_
  (try simp only [Act.put, List.setIfInBounds_toArray, List.set_cons_zero, List.set_cons_succ])
  have hg := h.below
  clear h hF1 hF2
  go_wp2_with (first | (first | refine stop_load 28 _ rfl rfl ?_ | refine stop_store 28 _ _ rfl rfl ?_) | (first | refine stop_load 35 _ rfl rfl ?_ | refine stop_store 35 _ _ rfl rfl ?_) | (go_at_call 22; refine (few_any _ _ (by assumption)).mono ?_; rintro e w' ⟨rfl, rfl⟩))
  refine (law20_known _).mono ?_
  rintro e w12 ⟨rfl, hbq⟩
  replace hg := hg.trans (hbq.mono hg.size)
  clear hbq
  go_wp2_with fail
  go_returns
  exact ⟨rfl, hg⟩
end Go.Proofs.Ytkkabnkhdhlhkaa
