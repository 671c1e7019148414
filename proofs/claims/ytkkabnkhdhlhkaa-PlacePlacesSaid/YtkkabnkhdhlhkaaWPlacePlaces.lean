/-
  The walk of PlacePlaces.
-/
import Derived.Test.YtkkabnkhdhlhkaaPlainP
import Derived.Test.YtkkabnkhdhlhkaaPlaceG
namespace Go.Proofs.Ytkkabnkhdhlhkaa
open Go.RowKit Num Mem Opn
set_option linter.unusedVariables false
set_option linter.unusedSimpArgs false
set_option linter.unusedSimpArgs false
@[go_sem] theorem eq_rsides (d : Nat) (a b c e : Int) (w : World) : (Op.equalIn (d + 1 + 1) 56 (.agg #[.int .i64 a, .int .i64 b, .int .i64 c, .int .i64 e]) (.agg #[.int .i64 a, .int .i64 b, .int .i64 c, .int .i64 e])).run Try.prog w = .ok true w := by
  have u3 := Try.underlying2
  rw [run_equalIn_agg w _ 56 _ _ (by kernel_rfl) (by kernel_rfl)]
  simp only [Program.fieldsOf, Try.underlying56]
  go_simp
theorem eq_rframe (f : Fr) (w : World) : (Op.equalIn 10000 58 (.agg f.arr) (.agg f.arr)).run Try.prog w = .ok true w := by
  have u3 := Try.underlying2
  rw [show (10000 : Nat) = 9997 + 1 + 1 + 1 from rfl, run_equalIn_agg w _ 58 _ _ (by kernel_rfl) (by kernel_rfl)]
  simp only [Program.fieldsOf, Try.underlying58, Fr.arr]
  go_simp
theorem neq_rframe (f : Fr) (w : World) : (binOp .neq 58 (.agg f.arr) (.agg f.arr)).run Try.prog w = .ok (.bool false) w := by
  have := eq_rframe f w
  simp only [binOp, Op.equal, Op.maxDepth, Sem.run_bind, this, Result.andThen_ok]
  rfl
theorem info_rct4 : (Try.prog.info? 48).map (·.size) = some 4 := by kernel_rfl
set_option maxRecDepth 100000 in
set_option maxHeartbeats 8000000 in
theorem walk_PlacePlaces (s : Sty) (x y wd ht at' least most content : Int) (sure : Bool) (w : World) (ok : s.Ok) (ix : I64 x) (iy : I64 y) (iwd : I64 wd) (iht : I64 ht) (iat : I64 at') (ile : I64 least) (imo : I64 most) (ico : I64 content) :
    Calls Try.prog 9 #[.agg s.arr, .agg #[.int .i64 x, .int .i64 y, .int .i64 wd, .int .i64 ht], .int .i64 at', .int .i64 least, .int .i64 most, .int .i64 content, .bool sure] w fun e w' => e = .returned (.bool true) ∧ Below w.heap.size w w' := by
  have hone := one_tame ok.one
  have fl : ∀ n, Lim 16777216 (few n) := fun n => by have := few_lo n; have := few_hi n; unfold Lim; omega
  have hn := t32_nums s
  have o0 : Lim 16777216 s.t32.o0n := fl _
  have o1 : Lim 16777216 s.t32.o1n := fl _
  have o2 : Lim 16777216 s.t32.o2n := fl _
  have o3 : Lim 16777216 s.t32.o3n := fl _
  have oh : Lim 16777216 s.t32.hn := fl _
  obtain ⟨F, hF0⟩ : ∃ F, s.t32.aframe (few wd) (few least) (few most) = F := ⟨_, rfl⟩
  have hFr : s.t32.raframe (few wd) (few least) (few most) = F := by rw [← aframe_eq hn o3 o1 (fl wd), hF0]
  have hW : Lim 137438953472 F.w := by rw [← hF0]; exact raw_lim hn o3 o1 (fl wd) (fl least) (fl most)
  have hn30 : ∀ z ∈ s.t32.nums, Lim 1073741824 z := fun z hz => (hn z hz).more (by decide)
  have hLi : F.Lim := by
    obtain ⟨q1, q2, q3, q4, q5, q6⟩ := framed_lim (s := s.t32) (room := few wd) ((fl wd).more (by decide)) hn30
    rw [← hF0]; exact ⟨q1, q2, q3, q4, q5, q6⟩
  have hLV : F.LimV := by
    obtain ⟨q1, q2, q3, q4, q5, q6⟩ := framed_limV (s := s.t32) (room := few wd) ((fl wd).more (by decide)) hn30
    rw [← hF0]; exact ⟨q1, q2, q3, q4, q5, q6⟩
  obtain ⟨X, hX0⟩ : ∃ X, s.t32.ax (few x) (few wd) (few at') F = X := ⟨_, rfl⟩
  have hXr : s.t32.rax (few x) (few wd) (few at') F = X := by rw [← ax_eq hLi hW o1 (fl x) (fl wd), hX0]
  obtain ⟨H, hH0⟩ : ∃ H, s.t32.dh (few ht) (few content) F = H := ⟨_, rfl⟩
  have hde := dh_eq (s := s.t32) hLV o0 o2 oh (fl ht) (fl content)
  have hHr : s.t32.rdh (few ht) (few content) F = H := by rw [← hde.1, hH0]
  have hHL : Lim 137438953472 H := by rw [← hH0]; exact hde.2
  obtain ⟨C, hC0⟩ : ∃ C, s.t32.dy (few y) (few ht) (few at') H F = C := ⟨_, rfl⟩
  have hCr : s.t32.rdy (few y) (few ht) (few at') H F = C := by rw [← dy_eq hLV hHL o2 (fl y) (fl ht), hC0]
  have HF := hid hF0
  have HFR := hid hFr
  have HX := hid hX0
  have HXR := hid hXr
  have HH := hid hH0
  have HHR := hid hHr
  have HC := hid hC0
  have HCR := hid hCr
  have HSH := hid (shift_eq s.t32 (few wd) (few ht) sure)
  clear hF0 hFr hW hLi hLV hX0 hXr hH0 hde hHr hHL hC0 hCr hn o0 o1 o2 o3 oh fl hn30
  have h : Pl w ((w.alloc (.cells s.arr 28)).alloc (.cells #[.int .i64 x, .int .i64 y, .int .i64 wd, .int .i64 ht] 48)) s x y wd ht := ⟨by go_grown, (Blk.new _ _ _).alloc _, Blk.newAt _ _ _ (by simp)⟩
  go_enter Try.func9, Try.ntmps9
  go_upto_region 1 with fail
  refine wp_forget (fun W => Pl w W (s) (x) (y) (wd) (ht)) h ?_
  clear h
  intro w0 h
  go_wp2_with (first | (first | refine stop_load 28 _ rfl rfl ?_ | refine stop_store 28 _ _ rfl rfl ?_) | (first | refine stop_load 35 _ rfl rfl ?_ | refine stop_store 35 _ _ rfl rfl ?_))
  refine ⟨?_⟩
  refine wl_load rfl 28 _ rfl _ rfl _ _ _ h.sty rfl rfl (info_style' _) ?_
  (try simp only [Act.put, List.setIfInBounds_toArray, List.set_cons_zero, List.set_cons_succ])
  go_wp2_with (first | (first | refine stop_load 28 _ rfl rfl ?_ | refine stop_store 28 _ _ rfl rfl ?_) | (first | refine stop_load 35 _ rfl rfl ?_ | refine stop_store 35 _ _ rfl rfl ?_))
  refine (law20_tame s ok _).mono ?_
  rintro e w1 ⟨rfl, hbq⟩
  replace h := h.on hbq
  clear hbq
  go_wp2_with (first | (first | refine stop_load 28 _ rfl rfl ?_ | refine stop_store 28 _ _ rfl rfl ?_) | (first | refine stop_load 35 _ rfl rfl ?_ | refine stop_store 35 _ _ rfl rfl ?_))
  refine ⟨?_⟩
  refine wl_store rfl 28 _ _ rfl w.heap.size s.t32.arr rfl rfl 28 s.arr h.sty rfl (info_style' _) (one_tame ok.one) ?_
  intro w2 hQ hc
  have h2 : Pl w w2 s.t32 x y wd ht := ⟨h.below.trans (hc.below (Nat.le_refl _)), hQ, h.rct.chg hc (by omega)⟩
  clear hQ hc h
  (try simp only [Act.put, List.setIfInBounds_toArray, List.set_cons_zero, List.set_cons_succ])
  go_upto_region 2 with fail
  have hS : ∀ W, Pl w W (s.t32) (x) (y) (wd) (ht) → (fun W => Pl w W (s.t32) (x) (y) (wd) (ht) ∧ W.cell? ⟨w.heap.size + 1, 0, none⟩ = some (.int .i64 (x)) ∧ W.cell? ⟨w.heap.size + 1, 1, none⟩ = some (.int .i64 (y)) ∧ W.cell? ⟨w.heap.size + 1, 2, none⟩ = some (.int .i64 (wd)) ∧ W.cell? ⟨w.heap.size + 1, 3, none⟩ = some (.int .i64 (ht))) W := fun W h => ⟨h, h.rct.cell 0, h.rct.cell 1, h.rct.cell 2, h.rct.cell 3⟩
  refine wp_region_noPanic ?_
  refine Ord.region_M (S := fun W => Pl w W (s.t32) (x) (y) (wd) (ht) ∧ W.cell? ⟨w.heap.size + 1, 0, none⟩ = some (.int .i64 (x)) ∧ W.cell? ⟨w.heap.size + 1, 1, none⟩ = some (.int .i64 (y)) ∧ W.cell? ⟨w.heap.size + 1, 2, none⟩ = some (.int .i64 (wd)) ∧ W.cell? ⟨w.heap.size + 1, 3, none⟩ = some (.int .i64 (ht))) 13 (.one 0 true (.one 1 true (.one 3 true (.one 4 true (.one 6 true (.one 7 true (.one 9 true (.one 10 true (.one 2 false (.one 5 false (.one 8 false (.one 11 false (.one 12 true (.one 13 false (.nil))))))))))))))) (by kernel_rfl) (by kernel_rfl) (by kernel_rfl) (by kernel_rfl) (by decide) (fun _ _ _ _ _ h => h) (hS _ h2.drew) (fun hS0 => ?_)
  simp only [Ord.layT, List.getElem?_cons_zero, List.getElem?_cons_succ]
  (refine Ord.takeM (v := ?_) (Or.inl ⟨rfl, ?_⟩) ?_; rotate_left; (intro w hSw; (try dsimp only at hSw); go_simp; try (with_reducible rfl)); (try simp only [Act.put, List.setIfInBounds_toArray, List.set_cons_zero, List.set_cons_succ]))
  (refine Ord.takeM (v := ?_) (Or.inl ⟨rfl, ?_⟩) ?_; rotate_left; (intro w hSw; (try dsimp only at hSw); go_simp; try (with_reducible rfl)); (try simp only [Act.put, List.setIfInBounds_toArray, List.set_cons_zero, List.set_cons_succ]))
  (refine Ord.takeM (v := ?_) (Or.inl ⟨rfl, ?_⟩) ?_; rotate_left; (intro w hSw; (try dsimp only at hSw); go_simp; try (with_reducible rfl)); (try simp only [Act.put, List.setIfInBounds_toArray, List.set_cons_zero, List.set_cons_succ]))
  (refine Ord.takeM (v := ?_) (Or.inl ⟨rfl, ?_⟩) ?_; rotate_left; (intro w hSw; (try dsimp only at hSw); go_simp; try (with_reducible rfl)); (try simp only [Act.put, List.setIfInBounds_toArray, List.set_cons_zero, List.set_cons_succ]))
  (refine Ord.takeM (v := ?_) (Or.inl ⟨rfl, ?_⟩) ?_; rotate_left; (intro w hSw; (try dsimp only at hSw); go_simp; try (with_reducible rfl)); (try simp only [Act.put, List.setIfInBounds_toArray, List.set_cons_zero, List.set_cons_succ]))
  (refine Ord.takeM (v := ?_) (Or.inl ⟨rfl, ?_⟩) ?_; rotate_left; (intro w hSw; (try dsimp only at hSw); go_simp; try (with_reducible rfl)); (try simp only [Act.put, List.setIfInBounds_toArray, List.set_cons_zero, List.set_cons_succ]))
  (refine Ord.takeM (v := ?_) (Or.inl ⟨rfl, ?_⟩) ?_; rotate_left; (intro w hSw; (try dsimp only at hSw); go_simp; try (with_reducible rfl)); (try simp only [Act.put, List.setIfInBounds_toArray, List.set_cons_zero, List.set_cons_succ]))
  (refine Ord.takeM (v := ?_) (Or.inl ⟨rfl, ?_⟩) ?_; rotate_left; (intro w hSw; (try dsimp only at hSw); go_simp; try (with_reducible rfl)); (try simp only [Act.put, List.setIfInBounds_toArray, List.set_cons_zero, List.set_cons_succ]))
  refine Ord.aloneM rfl rfl (fun K hK => ?_)
  go_simp
  refine (few_any x _ ix).mono ?_
  rintro e w' ⟨rfl, rfl⟩
  go_wp2_with fail
  refine hK.out _ _ hS0 (fun _ => ?_)
  clear hK K
  (try simp only [Act.put, List.setIfInBounds_toArray, List.set_cons_zero, List.set_cons_succ])
  refine Ord.aloneM rfl rfl (fun K hK => ?_)
  go_simp
  refine (few_any y _ iy).mono ?_
  rintro e w' ⟨rfl, rfl⟩
  go_wp2_with fail
  refine hK.out _ _ hS0 (fun _ => ?_)
  clear hK K
  (try simp only [Act.put, List.setIfInBounds_toArray, List.set_cons_zero, List.set_cons_succ])
  refine Ord.aloneM rfl rfl (fun K hK => ?_)
  go_simp
  refine (few_any wd _ iwd).mono ?_
  rintro e w' ⟨rfl, rfl⟩
  go_wp2_with fail
  refine hK.out _ _ hS0 (fun _ => ?_)
  clear hK K
  (try simp only [Act.put, List.setIfInBounds_toArray, List.set_cons_zero, List.set_cons_succ])
  refine Ord.aloneM rfl rfl (fun K hK => ?_)
  go_simp
  refine (few_any ht _ iht).mono ?_
  rintro e w' ⟨rfl, rfl⟩
  go_wp2_with fail
  refine hK.out _ _ hS0 (fun _ => ?_)
  clear hK K
  (try simp only [Act.put, List.setIfInBounds_toArray, List.set_cons_zero, List.set_cons_succ])
  (refine Ord.takeM (v := ?_) (Or.inl ⟨rfl, ?_⟩) ?_; rotate_left; (intro w hSw; (try dsimp only at hSw); go_simp; try (with_reducible rfl)); (try simp only [Act.put, List.setIfInBounds_toArray, List.set_cons_zero, List.set_cons_succ]))
  obtain ⟨h3, -⟩ := hS0
  refine Ord.lastM rfl rfl (fun K hK => ?_)
  refine wp_store_row 48 _ _ rfl (w.heap.size + 1) #[.int .i64 (few x), .int .i64 (few y), .int .i64 (few wd), .int .i64 (few ht)] rfl rfl 48 _ h3.rct rfl (by kernel_rfl) (by simp [Value.oneCell']) ?_
  intro w3 hR hc
  (try simp only [Act.put, List.setIfInBounds_toArray, List.set_cons_zero, List.set_cons_succ])
  refine hK.out _ _ ?_
  have h : Pl w w3 (s.t32) (few x) (few y) (few wd) (few ht) := ⟨h3.below.trans (hc.below (by omega)), h3.sty.chg hc (by omega), hR⟩
  clear hK K h3 h2 hS hR hc
  refine Ord.doneM (NoPanic.normal ?_)
  go_upto_region 3 with fail

  go_wp2_with fail
  refine (few_any at' _ iat).mono ?_
  rintro e w4 ⟨rfl, rfl⟩
  go_upto_region 4 with fail
  go_cut [15, 16] (fun sa sb wz => ∃ b, sa = .int .i64 X ∧ sb = .pointer (some ⟨b, 0, none⟩) ∧ w.heap.size + 1 < b ∧ Pl w wz s.t32 (few x) (few y) (few wd) (few ht) ∧ Blk wz b 35 F.arr)
  case first =>
    refine wp_region_noPanic ?_
    refine Ord.region_Q (S := fun Z : World => Pl w Z s.t32 (few x) (few y) (few wd) (few ht)) 13 (.one 0 true (.one 1 true (.one 2 true (.one 3 true (.one 4 true (.one 5 true (.one 6 true (.two 7 (.one 8 true (.one 9 true (.one 10 true (.one 11 false (.one 12 true (.one 13 false .nil)))))) 11 (.one 7 false (.one 8 true (.one 9 true (.one 10 true (.one 12 true (.one 13 false .nil)))))))))))))) (by kernel_rfl) (by kernel_rfl) (by kernel_rfl) (by decide) (fun _ _ _ _ _ h => h) (h.drew) (fun hS0 => ?_)
    simp only [Ord.layT, List.getElem?_cons_zero, List.getElem?_cons_succ]
    (refine Ord.takeQ (yieldsIf_load_mid rfl _ _ rfl w.heap.size 0 rfl _ _ (fun w' h => h.sty.range) Try.underlying28 rfl (by simpa using info_style' s.t32)) ?_; (try simp only [Act.put, List.setIfInBounds_toArray, List.set_cons_zero, List.set_cons_succ]))
    (refine Ord.takeQ (yieldsIf_load_mid rfl _ _ rfl (w.heap.size + 1) 0 rfl _ _ (fun w' h => h.rct.range) Try.underlying48 rfl info_rct4) ?_; (try simp only [Act.put, List.setIfInBounds_toArray, List.set_cons_zero, List.set_cons_succ]))
    (refine Ord.takeQ (v := ?_) (Or.inl ⟨rfl, ?_⟩) ?_; rotate_left; (intro w hSw; (try dsimp only at hSw); go_simp; try (with_reducible rfl)); (try simp only [Act.put, List.setIfInBounds_toArray, List.set_cons_zero, List.set_cons_succ]))
    (refine Ord.takeQ (v := ?_) (Or.inl ⟨rfl, ?_⟩) ?_; rotate_left; (intro w hSw; (try dsimp only at hSw); go_simp; try (with_reducible rfl)); (try simp only [Act.put, List.setIfInBounds_toArray, List.set_cons_zero, List.set_cons_succ]))
    (refine Ord.takeC 22 #[.int .i64 least] rfl (fun _ _ => by kernel_rfl) (fun w hSw => few_any least _ ile) ?_; (try simp only [Act.put, List.setIfInBounds_toArray, List.set_cons_zero, List.set_cons_succ]))
    (refine Ord.takeQ (v := ?_) (Or.inl ⟨rfl, ?_⟩) ?_; rotate_left; (intro w hSw; (try dsimp only at hSw); go_simp; try (with_reducible rfl)); (try simp only [Act.put, List.setIfInBounds_toArray, List.set_cons_zero, List.set_cons_succ]))
    (refine Ord.takeC 22 #[.int .i64 most] rfl (fun _ _ => by kernel_rfl) (fun w hSw => few_any most _ imo) ?_; (try simp only [Act.put, List.setIfInBounds_toArray, List.set_cons_zero, List.set_cons_succ]))
    refine Ord.twoQ rfl rfl rfl rfl (fun K hK => ?_) (fun K hK => ?_)
    · go_simp
      have hac := place_Across s.t32 (few x) (few y) (few wd) (few ht) (few at') (few least) (few most) w3.drew hone
      rw [HF.out, HX.out] at hac
      refine hac.mono ?_
      clear hac
      rintro e v ⟨rfl, hbq⟩
      have hS1 : (fun Z : World => Pl w Z s.t32 (few x) (few y) (few wd) (few ht)) v := hS0.on hbq
      go_wp2_with fail
      (try simp only [Act.put, List.setIfInBounds_toArray, List.set_cons_zero, List.set_cons_succ])
      refine hK.out _ _ hS1 (fun _ => ?_)
      clear hK K hbq
      (refine Ord.takeQ (v := ?_) (Or.inl ⟨rfl, ?_⟩) ?_; rotate_left; (intro w hSw; (try dsimp only at hSw); go_simp; try (with_reducible rfl)); (try simp only [Act.put, List.setIfInBounds_toArray, List.set_cons_zero, List.set_cons_succ]))
      (refine Ord.takeQ (v := ?_) (Or.inl ⟨rfl, ?_⟩) ?_; rotate_left; (intro w hSw; (try dsimp only at hSw); go_simp; try (with_reducible rfl)); (try simp only [Act.put, List.setIfInBounds_toArray, List.set_cons_zero, List.set_cons_succ]))
      (refine Ord.takeQ (v := ?_) (Or.inl ⟨rfl, ?_⟩) ?_; rotate_left; (intro w hSw; (try dsimp only at hSw); go_simp; try (with_reducible rfl)); (try simp only [Act.put, List.setIfInBounds_toArray, List.set_cons_zero, List.set_cons_succ]))
      refine Ord.aloneQ rfl rfl (fun K hK => ?_)
      have hZ : Blk (v.alloc (.cells Fr.zero.arr 35)) v.heap.size 35 Fr.zero.arr := Blk.new _ _ _
      have hS2 : (fun Z : World => Pl w Z s.t32 (few x) (few y) (few wd) (few ht)) (v.alloc (.cells Fr.zero.arr 35)) := hS1.on ((Below.refl _ _).alloc (Nat.le_refl _) _)
      have hl := hS1.rct.lt
      go_simp
      (try simp only [Act.put, List.setIfInBounds_toArray, List.set_cons_zero, List.set_cons_succ])
      refine hK.out _ _ hS2 (fun _ => ?_)
      clear hK K
      (refine Ord.takeQ (v := ?_) (Or.inl ⟨rfl, ?_⟩) ?_; rotate_left; (intro w hSw; (try dsimp only at hSw); go_simp; try (with_reducible rfl)); (try simp only [Act.put, List.setIfInBounds_toArray, List.set_cons_zero, List.set_cons_succ]))
      refine Ord.lastQ rfl rfl (fun K hK => ?_)
      refine wp_store_row 35 _ _ rfl v.heap.size F.arr rfl rfl 35 Fr.zero.arr hZ rfl (info_frame _) (frame_one _) ?_
      intro w6 hb6 hc6
      (try simp only [Act.put, List.setIfInBounds_toArray, List.set_cons_zero, List.set_cons_succ])
      refine hK.out _ _ ?_
      clear hK K
      refine Ord.doneQ (NoPanic.normal ?_)
      go_wp2_with fail
      go_meet
      exact ⟨_, rfl, rfl, by omega, hS2.chg hc6 (by omega), hb6⟩
    · have hZ : Blk (w3.drew.alloc (.cells Fr.zero.arr 35)) w3.heap.size 35 Fr.zero.arr := Blk.new _ _ _
      have hS1 : (fun Z : World => Pl w Z s.t32 (few x) (few y) (few wd) (few ht)) (w3.drew.alloc (.cells Fr.zero.arr 35)) := hS0.on ((Below.refl _ _).alloc (Nat.le_refl _) _)
      have hl : w.heap.size + 1 < w3.heap.size := hS0.rct.lt
      go_simp
      (try simp only [Act.put, List.setIfInBounds_toArray, List.set_cons_zero, List.set_cons_succ])
      refine hK.out _ _ hS1 (fun _ => ?_)
      clear hK K
      refine Ord.aloneQ rfl rfl (fun K hK => ?_)
      go_simp
      have hac := place_Across s.t32 (few x) (few y) (few wd) (few ht) (few at') (few least) (few most) (w3.drew.alloc (.cells Fr.zero.arr 35)) hone
      rw [HF.out, HX.out] at hac
      refine hac.mono ?_
      clear hac
      rintro e v ⟨rfl, hbq⟩
      have hS2 : (fun Z : World => Pl w Z s.t32 (few x) (few y) (few wd) (few ht)) v := hS1.on hbq
      have hZ2 := hZ.below hbq hZ.lt
      go_wp2_with fail
      (try simp only [Act.put, List.setIfInBounds_toArray, List.set_cons_zero, List.set_cons_succ])
      refine hK.out _ _ hS2 (fun _ => ?_)
      clear hK K hbq
      (refine Ord.takeQ (v := ?_) (Or.inl ⟨rfl, ?_⟩) ?_; rotate_left; (intro w hSw; (try dsimp only at hSw); go_simp; try (with_reducible rfl)); (try simp only [Act.put, List.setIfInBounds_toArray, List.set_cons_zero, List.set_cons_succ]))
      (refine Ord.takeQ (v := ?_) (Or.inl ⟨rfl, ?_⟩) ?_; rotate_left; (intro w hSw; (try dsimp only at hSw); go_simp; try (with_reducible rfl)); (try simp only [Act.put, List.setIfInBounds_toArray, List.set_cons_zero, List.set_cons_succ]))
      (refine Ord.takeQ (v := ?_) (Or.inl ⟨rfl, ?_⟩) ?_; rotate_left; (intro w hSw; (try dsimp only at hSw); go_simp; try (with_reducible rfl)); (try simp only [Act.put, List.setIfInBounds_toArray, List.set_cons_zero, List.set_cons_succ]))
      (refine Ord.takeQ (v := ?_) (Or.inl ⟨rfl, ?_⟩) ?_; rotate_left; (intro w hSw; (try dsimp only at hSw); go_simp; try (with_reducible rfl)); (try simp only [Act.put, List.setIfInBounds_toArray, List.set_cons_zero, List.set_cons_succ]))
      refine Ord.lastQ rfl rfl (fun K hK => ?_)
      refine wp_store_row 35 _ _ rfl w3.heap.size F.arr rfl rfl 35 Fr.zero.arr hZ2 rfl (info_frame _) (frame_one _) ?_
      intro w6 hb6 hc6
      (try simp only [Act.put, List.setIfInBounds_toArray, List.set_cons_zero, List.set_cons_succ])
      refine hK.out _ _ ?_
      clear hK K
      refine Ord.doneQ (NoPanic.normal ?_)
      go_wp2_with fail
      go_meet
      exact ⟨_, rfl, rfl, by omega, hS2.chg hc6 (by omega), hb6⟩
  case rest =>
  obtain ⟨g, rfl, rfl, hgl, h, hF⟩ := hcut
  obtain ⟨wp, rfl⟩ : ∃ z, z = wc := ⟨_, rfl⟩
  go_upto_region 5 with fail
  go_cut [17, 18] (fun sa sb wz => ∃ b, sa = .int .i64 X ∧ sb = .pointer (some ⟨b, 0, none⟩) ∧ w.heap.size + 1 < b ∧ Pl w wz s.t32 (few x) (few y) (few wd) (few ht) ∧ Blk wz g 35 F.arr ∧ Blk wz b 58 F.arr ∧ g < b)
  case first =>
    refine wp_region_noPanic ?_
    refine Ord.region_Q (S := fun Z : World => Pl w Z s.t32 (few x) (few y) (few wd) (few ht) ∧ Blk Z g 35 F.arr) 13 (.one 0 true (.one 1 true (.one 2 true (.one 3 true (.one 4 true (.one 5 true (.one 6 true (.two 7 (.one 8 true (.one 9 true (.one 10 true (.one 11 false (.one 12 true (.one 13 false .nil)))))) 11 (.one 7 false (.one 8 true (.one 9 true (.one 10 true (.one 12 true (.one 13 false .nil)))))))))))))) (by kernel_rfl) (by kernel_rfl) (by kernel_rfl) (by decide) (fun _ _ _ _ _ h => h) (⟨h.drew, hF.drew⟩) (fun hS0 => ?_)
    simp only [Ord.layT, List.getElem?_cons_zero, List.getElem?_cons_succ]
    (refine Ord.takeQ (yieldsIf_load_mid rfl _ _ rfl w.heap.size 0 rfl _ _ (fun w' h => h.1.sty.range) Try.underlying28 rfl (by simpa using info_style' s.t32)) ?_; (try simp only [Act.put, List.setIfInBounds_toArray, List.set_cons_zero, List.set_cons_succ]))
    (refine Ord.takeQ (yieldsIf_load_mid rfl _ _ rfl (w.heap.size + 1) 0 rfl _ _ (fun w' h => h.1.rct.range) Try.underlying48 rfl info_rct4) ?_; (try simp only [Act.put, List.setIfInBounds_toArray, List.set_cons_zero, List.set_cons_succ]))
    (refine Ord.takeQ (v := ?_) (Or.inl ⟨rfl, ?_⟩) ?_; rotate_left; (intro w hSw; (try dsimp only at hSw); go_simp; try (with_reducible rfl)); (try simp only [Act.put, List.setIfInBounds_toArray, List.set_cons_zero, List.set_cons_succ]))
    (refine Ord.takeQ (v := ?_) (Or.inl ⟨rfl, ?_⟩) ?_; rotate_left; (intro w hSw; (try dsimp only at hSw); go_simp; try (with_reducible rfl)); (try simp only [Act.put, List.setIfInBounds_toArray, List.set_cons_zero, List.set_cons_succ]))
    (refine Ord.takeC 22 #[.int .i64 least] rfl (fun _ _ => by kernel_rfl) (fun w hSw => few_any least _ ile) ?_; (try simp only [Act.put, List.setIfInBounds_toArray, List.set_cons_zero, List.set_cons_succ]))
    (refine Ord.takeQ (v := ?_) (Or.inl ⟨rfl, ?_⟩) ?_; rotate_left; (intro w hSw; (try dsimp only at hSw); go_simp; try (with_reducible rfl)); (try simp only [Act.put, List.setIfInBounds_toArray, List.set_cons_zero, List.set_cons_succ]))
    (refine Ord.takeC 22 #[.int .i64 most] rfl (fun _ _ => by kernel_rfl) (fun w hSw => few_any most _ imo) ?_; (try simp only [Act.put, List.setIfInBounds_toArray, List.set_cons_zero, List.set_cons_succ]))
    refine Ord.twoQ rfl rfl rfl rfl (fun K hK => ?_) (fun K hK => ?_)
    · go_simp
      have hac := ref_Across s.t32 (few x) (few y) (few wd) (few ht) (few at') (few least) (few most) wp.drew
      rw [HFR.out, HXR.out] at hac
      refine hac.mono ?_
      clear hac
      rintro e v ⟨rfl, hbq⟩
      have hS1 : (fun Z : World => Pl w Z s.t32 (few x) (few y) (few wd) (few ht) ∧ Blk Z g 35 F.arr) v := ⟨hS0.1.on hbq, hS0.2.below hbq hS0.2.lt⟩
      go_wp2_with fail
      (try simp only [Act.put, List.setIfInBounds_toArray, List.set_cons_zero, List.set_cons_succ])
      refine hK.out _ _ hS1 (fun _ => ?_)
      clear hK K hbq
      (refine Ord.takeQ (v := ?_) (Or.inl ⟨rfl, ?_⟩) ?_; rotate_left; (intro w hSw; (try dsimp only at hSw); go_simp; try (with_reducible rfl)); (try simp only [Act.put, List.setIfInBounds_toArray, List.set_cons_zero, List.set_cons_succ]))
      (refine Ord.takeQ (v := ?_) (Or.inl ⟨rfl, ?_⟩) ?_; rotate_left; (intro w hSw; (try dsimp only at hSw); go_simp; try (with_reducible rfl)); (try simp only [Act.put, List.setIfInBounds_toArray, List.set_cons_zero, List.set_cons_succ]))
      (refine Ord.takeQ (v := ?_) (Or.inl ⟨rfl, ?_⟩) ?_; rotate_left; (intro w hSw; (try dsimp only at hSw); go_simp; try (with_reducible rfl)); (try simp only [Act.put, List.setIfInBounds_toArray, List.set_cons_zero, List.set_cons_succ]))
      refine Ord.aloneQ rfl rfl (fun K hK => ?_)
      have hZ : Blk (v.alloc (.cells Fr.zero.arr 58)) v.heap.size 58 Fr.zero.arr := Blk.new _ _ _
      have hS2 : (fun Z : World => Pl w Z s.t32 (few x) (few y) (few wd) (few ht) ∧ Blk Z g 35 F.arr) (v.alloc (.cells Fr.zero.arr 58)) := ⟨hS1.1.on ((Below.refl _ _).alloc (Nat.le_refl _) _), hS1.2.alloc _⟩
      have hl := hS1.1.rct.lt
      have hl2 := hS1.2.lt
      go_simp
      (try simp only [Act.put, List.setIfInBounds_toArray, List.set_cons_zero, List.set_cons_succ])
      refine hK.out _ _ hS2 (fun _ => ?_)
      clear hK K
      (refine Ord.takeQ (v := ?_) (Or.inl ⟨rfl, ?_⟩) ?_; rotate_left; (intro w hSw; (try dsimp only at hSw); go_simp; try (with_reducible rfl)); (try simp only [Act.put, List.setIfInBounds_toArray, List.set_cons_zero, List.set_cons_succ]))
      refine Ord.lastQ rfl rfl (fun K hK => ?_)
      refine wp_store_row 58 _ _ rfl v.heap.size F.arr rfl rfl 58 Fr.zero.arr hZ rfl (info_rf _) (frame_one _) ?_
      intro w6 hb6 hc6
      (try simp only [Act.put, List.setIfInBounds_toArray, List.set_cons_zero, List.set_cons_succ])
      refine hK.out _ _ ?_
      clear hK K
      refine Ord.doneQ (NoPanic.normal ?_)
      go_wp2_with fail
      go_meet
      exact ⟨_, rfl, rfl, by omega, hS2.1.chg hc6 (by omega), hS2.2.chg hc6 (by omega), hb6, by omega⟩
    · have hZ : Blk (wp.drew.alloc (.cells Fr.zero.arr 58)) wp.heap.size 58 Fr.zero.arr := Blk.new _ _ _
      have hS1 : (fun Z : World => Pl w Z s.t32 (few x) (few y) (few wd) (few ht) ∧ Blk Z g 35 F.arr) (wp.drew.alloc (.cells Fr.zero.arr 58)) := ⟨hS0.1.on ((Below.refl _ _).alloc (Nat.le_refl _) _), hS0.2.alloc _⟩
      have hl : w.heap.size + 1 < wp.heap.size := hS0.1.rct.lt
      have hl2 : g < wp.heap.size := hS0.2.lt
      go_simp
      (try simp only [Act.put, List.setIfInBounds_toArray, List.set_cons_zero, List.set_cons_succ])
      refine hK.out _ _ hS1 (fun _ => ?_)
      clear hK K
      refine Ord.aloneQ rfl rfl (fun K hK => ?_)
      go_simp
      have hac := ref_Across s.t32 (few x) (few y) (few wd) (few ht) (few at') (few least) (few most) (wp.drew.alloc (.cells Fr.zero.arr 58))
      rw [HFR.out, HXR.out] at hac
      refine hac.mono ?_
      clear hac
      rintro e v ⟨rfl, hbq⟩
      have hS2 : (fun Z : World => Pl w Z s.t32 (few x) (few y) (few wd) (few ht) ∧ Blk Z g 35 F.arr) v := ⟨hS1.1.on hbq, hS1.2.below hbq hS1.2.lt⟩
      have hZ2 := hZ.below hbq hZ.lt
      go_wp2_with fail
      (try simp only [Act.put, List.setIfInBounds_toArray, List.set_cons_zero, List.set_cons_succ])
      refine hK.out _ _ hS2 (fun _ => ?_)
      clear hK K hbq
      (refine Ord.takeQ (v := ?_) (Or.inl ⟨rfl, ?_⟩) ?_; rotate_left; (intro w hSw; (try dsimp only at hSw); go_simp; try (with_reducible rfl)); (try simp only [Act.put, List.setIfInBounds_toArray, List.set_cons_zero, List.set_cons_succ]))
      (refine Ord.takeQ (v := ?_) (Or.inl ⟨rfl, ?_⟩) ?_; rotate_left; (intro w hSw; (try dsimp only at hSw); go_simp; try (with_reducible rfl)); (try simp only [Act.put, List.setIfInBounds_toArray, List.set_cons_zero, List.set_cons_succ]))
      (refine Ord.takeQ (v := ?_) (Or.inl ⟨rfl, ?_⟩) ?_; rotate_left; (intro w hSw; (try dsimp only at hSw); go_simp; try (with_reducible rfl)); (try simp only [Act.put, List.setIfInBounds_toArray, List.set_cons_zero, List.set_cons_succ]))
      (refine Ord.takeQ (v := ?_) (Or.inl ⟨rfl, ?_⟩) ?_; rotate_left; (intro w hSw; (try dsimp only at hSw); go_simp; try (with_reducible rfl)); (try simp only [Act.put, List.setIfInBounds_toArray, List.set_cons_zero, List.set_cons_succ]))
      refine Ord.lastQ rfl rfl (fun K hK => ?_)
      refine wp_store_row 58 _ _ rfl wp.heap.size F.arr rfl rfl 58 Fr.zero.arr hZ2 rfl (info_rf _) (frame_one _) ?_
      intro w6 hb6 hc6
      (try simp only [Act.put, List.setIfInBounds_toArray, List.set_cons_zero, List.set_cons_succ])
      refine hK.out _ _ ?_
      clear hK K
      refine Ord.doneQ (NoPanic.normal ?_)
      go_wp2_with fail
      go_meet
      exact ⟨_, rfl, rfl, by omega, hS2.1.chg hc6 (by omega), hS2.2.chg hc6 (by omega), hb6, by omega⟩
  case rest =>
  obtain ⟨q, rfl, rfl, hql, h, hF, hG, hgq⟩ := hcut
  obtain ⟨wr, rfl⟩ : ∃ z, z = wc := ⟨_, rfl⟩
  have dX : (X != X) = false := by simp
  have hneq : ∀ w, (binOp .neq 58 (.agg F.arr) (.agg F.arr)).run Try.prog w = .ok (.bool false) w := neq_rframe F
  go_upto_region 6 with fail
  refine wp_region_noPanic ?_
  refine Ord.region_Q (S := fun Z : World => Pl w Z s.t32 (few x) (few y) (few wd) (few ht) ∧ Blk Z g 35 F.arr ∧ Blk Z q 58 F.arr) 999 (.one 0 true (.one 1 true (.one 2 true (.one 3 true (.one 4 true (.one 6 true (.one 5 false (.one 7 true (.one 8 true .nil))))))))) (by kernel_rfl) (by kernel_rfl) (by kernel_rfl) (by decide) (fun _ _ _ _ _ h => h) (⟨h.drew, hF.drew, hG.drew⟩) (fun hS0 => ?_)
  simp only [Ord.layT, List.getElem?_cons_zero, List.getElem?_cons_succ]
  (refine Ord.takeQ (v := ?_) (Or.inl ⟨rfl, ?_⟩) ?_; rotate_left; (intro w hSw; (try dsimp only at hSw); go_simp; try (with_reducible rfl)); (try simp only [Act.put, List.setIfInBounds_toArray, List.set_cons_zero, List.set_cons_succ]))
  (refine Ord.takeQ (v := ?_) (Or.inl ⟨rfl, ?_⟩) ?_; rotate_left; (intro w hSw; (try dsimp only at hSw); go_simp; try (with_reducible rfl)); (try simp only [Act.put, List.setIfInBounds_toArray, List.set_cons_zero, List.set_cons_succ]))
  (refine Ord.takeQ (v := ?_) (Or.inl ⟨rfl, ?_⟩) ?_; rotate_left; (intro w hSw; (try dsimp only at hSw); go_simp; try (with_reducible rfl)); (try simp only [Act.put, List.setIfInBounds_toArray, List.set_cons_zero, List.set_cons_succ]))
  (refine Ord.takeQ (v := ?_) (Or.inl ⟨rfl, ?_⟩) ?_; rotate_left; (intro w hSw; (try dsimp only at hSw); go_simp; try (with_reducible rfl)); (try simp only [Act.put, List.setIfInBounds_toArray, List.set_cons_zero, List.set_cons_succ]))
  (refine Ord.takeQ (yieldsIf_load_mid rfl _ _ rfl g 0 rfl _ _ (fun w' h => h.2.1.range) Try.underlying35 rfl info_frame') ?_; (try simp only [Act.put, List.setIfInBounds_toArray, List.set_cons_zero, List.set_cons_succ]))
  (refine Ord.takeQ (yieldsIf_load_mid rfl _ _ rfl q 0 rfl _ _ (fun w' h => h.2.2.range) Try.underlying58 rfl info_rf') ?_; (try simp only [Act.put, List.setIfInBounds_toArray, List.set_cons_zero, List.set_cons_succ]))
  refine Ord.aloneQ rfl rfl (fun K hK => ?_)
  go_simp
  refine (law20_frame F _).mono ?_
  rintro e v ⟨rfl, hbq⟩
  have hS1 : (fun Z : World => Pl w Z s.t32 (few x) (few y) (few wd) (few ht) ∧ Blk Z g 35 F.arr ∧ Blk Z q 58 F.arr) v := ⟨hS0.1.on hbq, hS0.2.1.below hbq hS0.2.1.lt, hS0.2.2.below hbq hS0.2.2.lt⟩
  go_wp2_with fail
  (try simp only [Act.put, List.setIfInBounds_toArray, List.set_cons_zero, List.set_cons_succ])
  refine hK.out _ _ (hS1) (fun _ => ?_)
  clear hK K
  (refine Ord.takeQ (v := ?_) (Or.inl ⟨rfl, ?_⟩) ?_; rotate_left; (intro w hSw; (try dsimp only at hSw); go_simp; try (with_reducible rfl)); (try simp only [Act.put, List.setIfInBounds_toArray, List.set_cons_zero, List.set_cons_succ]))
  (refine Ord.takeQ (v := ?_) (Or.inl ⟨rfl, ?_⟩) ?_; rotate_left; (intro w hSw; (try dsimp only at hSw); go_simp; try (with_reducible rfl)); (try simp only [Act.put, List.setIfInBounds_toArray, List.set_cons_zero, List.set_cons_succ]))
  refine Ord.doneQ (NoPanic.normal ?_)
  clear hS0 h hF hG hneq dX
  obtain ⟨h, hF, hG⟩ := hS1
  go_upto_region 8 with fail
  refine wp_region_noPanic ?_
  refine Ord.region_Q (S := fun Z : World => Pl w Z s.t32 (few x) (few y) (few wd) (few ht) ∧ Blk Z g 35 F.arr ∧ Blk Z q 58 F.arr) 999 (.one 0 true (.one 1 true (.one 2 true (.one 3 true (.one 4 true (.one 5 true (.one 6 false (.one 7 true (.one 8 true (.one 9 true (.one 10 true (.one 11 true .nil)))))))))))) (by kernel_rfl) (by kernel_rfl) (by kernel_rfl) (by decide) (fun _ _ _ _ _ h => h) (⟨h.drew, hF.drew, hG.drew⟩) (fun hS0 => ?_)
  simp only [Ord.layT, List.getElem?_cons_zero, List.getElem?_cons_succ]
  (refine Ord.takeQ (yieldsIf_load_mid rfl _ _ rfl w.heap.size 0 rfl _ _ (fun w' h => h.1.sty.range) Try.underlying28 rfl (by simpa using info_style' s.t32)) ?_; (try simp only [Act.put, List.setIfInBounds_toArray, List.set_cons_zero, List.set_cons_succ]))
  (refine Ord.takeQ (yieldsIf_load_mid rfl _ _ rfl (w.heap.size + 1) 0 rfl _ _ (fun w' h => h.1.rct.range) Try.underlying48 rfl info_rct4) ?_; (try simp only [Act.put, List.setIfInBounds_toArray, List.set_cons_zero, List.set_cons_succ]))
  (refine Ord.takeQ (v := ?_) (Or.inl ⟨rfl, ?_⟩) ?_; rotate_left; (intro w hSw; (try dsimp only at hSw); go_simp; try (with_reducible rfl)); (try simp only [Act.put, List.setIfInBounds_toArray, List.set_cons_zero, List.set_cons_succ]))
  (refine Ord.takeQ (v := ?_) (Or.inl ⟨rfl, ?_⟩) ?_; rotate_left; (intro w hSw; (try dsimp only at hSw); go_simp; try (with_reducible rfl)); (try simp only [Act.put, List.setIfInBounds_toArray, List.set_cons_zero, List.set_cons_succ]))
  (refine Ord.takeC 22 #[.int .i64 content] rfl (fun _ _ => by kernel_rfl) (fun w hSw => few_any content _ ico) ?_; (try simp only [Act.put, List.setIfInBounds_toArray, List.set_cons_zero, List.set_cons_succ]))
  (refine Ord.takeQ (yieldsIf_load_mid rfl _ _ rfl g 0 rfl _ _ (fun w' h => h.2.1.range) Try.underlying35 rfl info_frame') ?_; (try simp only [Act.put, List.setIfInBounds_toArray, List.set_cons_zero, List.set_cons_succ]))
  refine Ord.aloneQ rfl rfl (fun K hK => ?_)
  go_simp
  have hdn := place_Down s.t32 (few x) (few y) (few wd) (few ht) (few at') (few content) F v.drew
  rw [HH.out, HC.out] at hdn
  refine hdn.mono ?_
  clear hdn
  rintro e v ⟨rfl, hbq⟩
  have hS1 : (fun Z : World => Pl w Z s.t32 (few x) (few y) (few wd) (few ht) ∧ Blk Z g 35 F.arr ∧ Blk Z q 58 F.arr) v := ⟨hS0.1.on hbq, hS0.2.1.below hbq hS0.2.1.lt, hS0.2.2.below hbq hS0.2.2.lt⟩
  go_wp2_with fail
  (try simp only [Act.put, List.setIfInBounds_toArray, List.set_cons_zero, List.set_cons_succ])
  refine hK.out _ _ (hS1) (fun _ => ?_)
  clear hK K
  (refine Ord.takeQ (v := ?_) (Or.inl ⟨rfl, ?_⟩) ?_; rotate_left; (intro w hSw; (try dsimp only at hSw); go_simp; try (with_reducible rfl)); (try simp only [Act.put, List.setIfInBounds_toArray, List.set_cons_zero, List.set_cons_succ]))
  (refine Ord.takeQ (v := ?_) (Or.inl ⟨rfl, ?_⟩) ?_; rotate_left; (intro w hSw; (try dsimp only at hSw); go_simp; try (with_reducible rfl)); (try simp only [Act.put, List.setIfInBounds_toArray, List.set_cons_zero, List.set_cons_succ]))
  (refine Ord.takeQ (v := ?_) (Or.inl ⟨rfl, ?_⟩) ?_; rotate_left; (intro w hSw; (try dsimp only at hSw); go_simp; try (with_reducible rfl)); (try simp only [Act.put, List.setIfInBounds_toArray, List.set_cons_zero, List.set_cons_succ]))
  (refine Ord.takeQ (v := ?_) (Or.inl ⟨rfl, ?_⟩) ?_; rotate_left; (intro w hSw; (try dsimp only at hSw); go_simp; try (with_reducible rfl)); (try simp only [Act.put, List.setIfInBounds_toArray, List.set_cons_zero, List.set_cons_succ]))
  (refine Ord.takeQ (v := ?_) (Or.inl ⟨rfl, ?_⟩) ?_; rotate_left; (intro w hSw; (try dsimp only at hSw); go_simp; try (with_reducible rfl)); (try simp only [Act.put, List.setIfInBounds_toArray, List.set_cons_zero, List.set_cons_succ]))
  refine Ord.doneQ (NoPanic.normal ?_)
  clear hS0 h hF hG
  obtain ⟨h, hF, hG⟩ := hS1
  obtain ⟨vq, rfl⟩ : ∃ z, z = v := ⟨_, rfl⟩
  go_upto_region 9 with fail
  refine wp_region_noPanic ?_
  refine Ord.region_Q (S := fun Z : World => Pl w Z s.t32 (few x) (few y) (few wd) (few ht) ∧ Blk Z g 35 F.arr ∧ Blk Z q 58 F.arr) 999 (.one 0 true (.one 1 true (.one 2 true (.one 3 true (.one 4 true (.one 5 true (.one 6 false (.one 7 true (.one 8 true (.one 9 true (.one 10 true (.one 11 true .nil)))))))))))) (by kernel_rfl) (by kernel_rfl) (by kernel_rfl) (by decide) (fun _ _ _ _ _ h => h) (⟨h.drew, hF.drew, hG.drew⟩) (fun hS0 => ?_)
  simp only [Ord.layT, List.getElem?_cons_zero, List.getElem?_cons_succ]
  (refine Ord.takeQ (yieldsIf_load_mid rfl _ _ rfl w.heap.size 0 rfl _ _ (fun w' h => h.1.sty.range) Try.underlying28 rfl (by simpa using info_style' s.t32)) ?_; (try simp only [Act.put, List.setIfInBounds_toArray, List.set_cons_zero, List.set_cons_succ]))
  (refine Ord.takeQ (yieldsIf_load_mid rfl _ _ rfl (w.heap.size + 1) 0 rfl _ _ (fun w' h => h.1.rct.range) Try.underlying48 rfl info_rct4) ?_; (try simp only [Act.put, List.setIfInBounds_toArray, List.set_cons_zero, List.set_cons_succ]))
  (refine Ord.takeQ (v := ?_) (Or.inl ⟨rfl, ?_⟩) ?_; rotate_left; (intro w hSw; (try dsimp only at hSw); go_simp; try (with_reducible rfl)); (try simp only [Act.put, List.setIfInBounds_toArray, List.set_cons_zero, List.set_cons_succ]))
  (refine Ord.takeQ (v := ?_) (Or.inl ⟨rfl, ?_⟩) ?_; rotate_left; (intro w hSw; (try dsimp only at hSw); go_simp; try (with_reducible rfl)); (try simp only [Act.put, List.setIfInBounds_toArray, List.set_cons_zero, List.set_cons_succ]))
  (refine Ord.takeC 22 #[.int .i64 content] rfl (fun _ _ => by kernel_rfl) (fun w hSw => few_any content _ ico) ?_; (try simp only [Act.put, List.setIfInBounds_toArray, List.set_cons_zero, List.set_cons_succ]))
  (refine Ord.takeQ (yieldsIf_load_mid rfl _ _ rfl q 0 rfl _ _ (fun w' h => h.2.2.range) Try.underlying58 rfl info_rf') ?_; (try simp only [Act.put, List.setIfInBounds_toArray, List.set_cons_zero, List.set_cons_succ]))
  refine Ord.aloneQ rfl rfl (fun K hK => ?_)
  go_simp
  have hdn := ref_Down s.t32 (few x) (few y) (few wd) (few ht) (few at') (few content) F vq.drew
  rw [HHR.out, HCR.out] at hdn
  refine hdn.mono ?_
  clear hdn
  rintro e v ⟨rfl, hbq⟩
  have hS1 : (fun Z : World => Pl w Z s.t32 (few x) (few y) (few wd) (few ht) ∧ Blk Z g 35 F.arr ∧ Blk Z q 58 F.arr) v := ⟨hS0.1.on hbq, hS0.2.1.below hbq hS0.2.1.lt, hS0.2.2.below hbq hS0.2.2.lt⟩
  go_wp2_with fail
  (try simp only [Act.put, List.setIfInBounds_toArray, List.set_cons_zero, List.set_cons_succ])
  refine hK.out _ _ (hS1) (fun _ => ?_)
  clear hK K
  (refine Ord.takeQ (v := ?_) (Or.inl ⟨rfl, ?_⟩) ?_; rotate_left; (intro w hSw; (try dsimp only at hSw); go_simp; try (with_reducible rfl)); (try simp only [Act.put, List.setIfInBounds_toArray, List.set_cons_zero, List.set_cons_succ]))
  (refine Ord.takeQ (v := ?_) (Or.inl ⟨rfl, ?_⟩) ?_; rotate_left; (intro w hSw; (try dsimp only at hSw); go_simp; try (with_reducible rfl)); (try simp only [Act.put, List.setIfInBounds_toArray, List.set_cons_zero, List.set_cons_succ]))
  (refine Ord.takeQ (v := ?_) (Or.inl ⟨rfl, ?_⟩) ?_; rotate_left; (intro w hSw; (try dsimp only at hSw); go_simp; try (with_reducible rfl)); (try simp only [Act.put, List.setIfInBounds_toArray, List.set_cons_zero, List.set_cons_succ]))
  (refine Ord.takeQ (v := ?_) (Or.inl ⟨rfl, ?_⟩) ?_; rotate_left; (intro w hSw; (try dsimp only at hSw); go_simp; try (with_reducible rfl)); (try simp only [Act.put, List.setIfInBounds_toArray, List.set_cons_zero, List.set_cons_succ]))
  (refine Ord.takeQ (v := ?_) (Or.inl ⟨rfl, ?_⟩) ?_; rotate_left; (intro w hSw; (try dsimp only at hSw); go_simp; try (with_reducible rfl)); (try simp only [Act.put, List.setIfInBounds_toArray, List.set_cons_zero, List.set_cons_succ]))
  refine Ord.doneQ (NoPanic.normal ?_)
  clear hS0 h hF hG
  obtain ⟨h, hF, hG⟩ := hS1
  obtain ⟨vr, rfl⟩ : ∃ z, z = v := ⟨_, rfl⟩
  have r2 : vr.cell? ⟨w.heap.size + 1, 2, none⟩ = some (.int .i64 (few wd)) := h.rct.cell 2
  have r3 : vr.cell? ⟨w.heap.size + 1, 3, none⟩ = some (.int .i64 (few ht)) := h.rct.cell 3
  have hs1 := place_Shift s.t32 (few wd) (few ht) sure vr
  obtain ⟨U, hU⟩ : ∃ U, s.t32.shift (few wd) (few ht) sure = U := ⟨_, rfl⟩
  have hUr : s.t32.rShift (few wd) (few ht) sure = U := by rw [← HSH.out, hU]
  rw [hU] at hs1
  have HUR := hid hUr
  clear hU hUr HSH
  obtain ⟨U1, U2⟩ := U
  dsimp only at hs1
  go_wp2_with (first | (first | refine stop_load 28 _ rfl rfl ?_ | refine stop_store 28 _ _ rfl rfl ?_) | (first | refine stop_load 35 _ rfl rfl ?_ | refine stop_store 35 _ _ rfl rfl ?_))
  refine ⟨?_⟩
  refine wl_load rfl 28 _ rfl _ rfl _ _ _ h.sty rfl rfl (info_style' _) ?_
  (try simp only [Act.put, List.setIfInBounds_toArray, List.set_cons_zero, List.set_cons_succ])
  go_wp2_with fail
  refine hs1.mono ?_
  clear hs1
  rintro e v2 ⟨rfl, hbq⟩
  replace h := h.on hbq
  clear hbq r2 r3 hF hG
  have r2 : v2.cell? ⟨w.heap.size + 1, 2, none⟩ = some (.int .i64 (few wd)) := h.rct.cell 2
  have r3 : v2.cell? ⟨w.heap.size + 1, 3, none⟩ = some (.int .i64 (few ht)) := h.rct.cell 3
  have hs2 := ref_Shift s.t32 (few wd) (few ht) sure v2
  rw [HUR.out] at hs2
  dsimp only at hs2
  go_wp2_with (first | (first | refine stop_load 28 _ rfl rfl ?_ | refine stop_store 28 _ _ rfl rfl ?_) | (first | refine stop_load 35 _ rfl rfl ?_ | refine stop_store 35 _ _ rfl rfl ?_))
  refine ⟨?_⟩
  refine wl_load rfl 28 _ rfl _ rfl _ _ _ h.sty rfl rfl (info_style' _) ?_
  (try simp only [Act.put, List.setIfInBounds_toArray, List.set_cons_zero, List.set_cons_succ])
  go_wp2_with fail
  refine hs2.mono ?_
  clear hs2
  rintro e v3 ⟨rfl, hbq⟩
  replace h := h.on hbq
  clear hbq r2 r3
  have hg := h.below
  clear h
  have e1 : (C == C) = true := by simp
  have e2 : (H == H) = true := by simp
  have e3 : (U1 == U1) = true := by simp
  have e4 : (U2 == U2) = true := by simp
  go_wp2_with fail
  refine (law20_known _).mono ?_
  rintro e v4 ⟨rfl, hbq⟩
  replace hg := hg.trans (hbq.mono hg.size)
  clear hbq
  go_wp2_with fail
  go_ret
  exact ⟨rfl, hg⟩
end Go.Proofs.Ytkkabnkhdhlhkaa
