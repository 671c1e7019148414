/-
  The walk of TextNumbers.
-/
import Derived.Test.YteghacdpfhohoaaTextJ
import Derived.Test.YteghacdpfhohoaaTextK
namespace Go.Proofs.Yteghacdpfhohoaa
open Go.RowKit Num Mem Opn Go.Deep
set_option linter.unusedVariables false
set_option linter.unusedSimpArgs false
set_option linter.unusedSimpArgs false
def tnB : ByteArray := { data := #[32, 98] }
def tnK (kb : Nat) : Bk := ⟨⟨6, 0, false, ByteArray.empty⟩, true, some ⟨kb, 0, none⟩, 1, [⟨7, 1, false, tnB⟩]⟩
/-- the worlds of the last regions. -/
structure NI (w W : World) (b1 b2 kb eb b3 : Nat) : Prop where
  br : Blk W b1 64 (Bx.arr ⟨8, 0, false, ByteArray.empty⟩)
  inn : Blk W b2 64 (tnK kb).iarr
  kid : Blk W kb 64 (Bx.arr ⟨7, 1, false, tnB⟩)
  row : Blk W eb 2 (ints [5, 7])
  env : Blk W b3 36 #[.int .i64 0, .int .i64 0, .slice (some ⟨eb, 0, none⟩) 2 2]
  below : Below w.heap.size w W
section
variable {w W W' : World} {b1 b2 kb eb b3 : Nat}
theorem NI.on (h : NI w W b1 b2 kb eb b3) (hb : Below W.heap.size W W') : NI w W' b1 b2 kb eb b3 :=
  ⟨h.br.below hb h.br.lt, h.inn.below hb h.inn.lt, h.kid.below hb h.kid.lt, h.row.below hb h.row.lt, h.env.below hb h.env.lt, h.below.trans (hb.mono h.below.size)⟩
theorem NI.drew (h : NI w W b1 b2 kb eb b3) : NI w W.drew b1 b2 kb eb b3 := ⟨h.br.drew, h.inn.drew, h.kid.drew, h.row.drew, h.env.drew, h.below.drew⟩
theorem NI.ints (h : NI w W b1 b2 kb eb b3) : Ints W W.heap.size (some ⟨eb, 0, none⟩) [5, 7] := Ints.ofBlk h.row h.row.lt
theorem NI.kids (h : NI w W b1 b2 kb eb b3) : Recs W W.heap.size (some ⟨kb, 0, none⟩) 57 Bx.cells [⟨7, 1, false, tnB⟩] := Recs.blk bxc_length h.kid (by simp [Bx.cells]) h.kid.lt
end
theorem op_exec {P : Program} {op : Oper} {a : Act} {w w' : World} {K : Act → World → Prop} {Q : Exit → Act → World → Prop} (v : Value)
    (h : (execOp a.eval op).run P w = .ok (.value v) w') (hk : K (a.put op.dst v) w') : Oper.wp P op a w K Q := by
  unfold Oper.wp
  rw [h]
  exact hk
/-- the same, with the pieces. -/
structure NJ (w W : World) (b1 b2 kb eb b3 : Nat) (A1 : Option Addr) (P1 : List Pz) : Prop where
  n : NI w W b1 b2 kb eb b3
  r : Recs W W.heap.size A1 57 Pz.cells P1
theorem NJ.on {w W W' : World} {b1 b2 kb eb b3 : Nat} {A1 : Option Addr} {P1 : List Pz} (h : NJ w W b1 b2 kb eb b3 A1 P1) (hb : Below W.heap.size W W') : NJ w W' b1 b2 kb eb b3 A1 P1 := ⟨h.n.on hb, (h.r.below hb).more hb.size⟩
theorem NJ.drew {w W : World} {b1 b2 kb eb b3 : Nat} {A1 : Option Addr} {P1 : List Pz} (h : NJ w W b1 b2 kb eb b3 A1 P1) : NJ w W.drew b1 b2 kb eb b3 A1 P1 := ⟨h.n.drew, h.r.keep fun _ _ => rfl⟩
set_option maxRecDepth 100000
def tn1 : List Bx := [⟨7, 1, false, { data := #[97] }⟩, ⟨8, 0, false, ByteArray.empty⟩, ⟨7, 1, false, { data := #[98, 98] }⟩]
theorem tn1_small : ∀ p ∈ piecesF [] tn1, p.text.size ≤ 10000 := by decide +kernel
theorem tn1_len : (piecesF [] tn1).length ≤ 1000000 := by decide +kernel
theorem tn1_ok : ∀ x ∈ tn1, (x.kind = 7 ∨ x.kind = 8) ∧ x.text.size ≤ 4000 := by decide +kernel
def tn2 : List Bx := [⟨7, 1, false, { data := #[97, 32] }⟩, ⟨7, 1, false, { data := #[32, 98] }⟩]
theorem tn2_said : saidF (piecesF [] tn2) ByteArray.empty = { data := #[97, 95, 98] } := by decide +kernel
theorem tn2_small : ∀ p ∈ piecesF [] tn2, p.text.size ≤ 10000 := by decide +kernel
theorem tn2_len : (piecesF [] tn2).length ≤ 1000000 := by decide +kernel
theorem tn2_ok : ∀ x ∈ tn2, (x.kind = 7 ∨ x.kind = 8) ∧ x.text.size ≤ 4000 := by decide +kernel
def tn3 : List Bx := [⟨7, 1, false, { data := #[97, 32] }⟩, ⟨8, 0, false, ByteArray.empty⟩, ⟨7, 1, false, { data := #[32, 98] }⟩]
theorem tn3_said : saidF (piecesF [] tn3) ByteArray.empty = { data := #[97, 47, 98] } := by decide +kernel
theorem tn3_small : ∀ p ∈ piecesF [] tn3, p.text.size ≤ 10000 := by decide +kernel
theorem tn3_len : (piecesF [] tn3).length ≤ 1000000 := by decide +kernel
theorem tn3_ok : ∀ x ∈ tn3, (x.kind = 7 ∨ x.kind = 8) ∧ x.text.size ≤ 4000 := by decide +kernel
def tn4 : List Bx := [⟨7, 1, true, { data := #[97, 10, 32, 98] }⟩]
theorem tn4_said : saidF (piecesF [] tn4) ByteArray.empty = { data := #[97, 47, 95, 98] } := by decide +kernel
theorem tn4_small : ∀ p ∈ piecesF [] tn4, p.text.size ≤ 10000 := by decide +kernel
theorem tn4_len : (piecesF [] tn4).length ≤ 1000000 := by decide +kernel
theorem tn4_ok : ∀ x ∈ tn4, (x.kind = 7 ∨ x.kind = 8) ∧ x.text.size ≤ 4000 := by decide +kernel
def tn5 : List Bx := [⟨7, 1, false, { data := #[32, 10, 9] }⟩]
theorem tn5_said : saidF (piecesF [] tn5) ByteArray.empty = { data := #[] } := by decide +kernel
theorem tn5_small : ∀ p ∈ piecesF [] tn5, p.text.size ≤ 10000 := by decide +kernel
theorem tn5_len : (piecesF [] tn5).length ≤ 1000000 := by decide +kernel
theorem tn5_ok : ∀ x ∈ tn5, (x.kind = 7 ∨ x.kind = 8) ∧ x.text.size ≤ 4000 := by decide +kernel
theorem tn1_most : mostF (piecesF [] tn1) 0 0 = 1024 := by decide +kernel
theorem tn1_least : leastF (piecesF [] tn1) 0 = 1024 := by decide +kernel
def tnT (kb : Nat) : List Bk := [⟨⟨7, 1, false, { data := #[97, 32] }⟩, false, none, 0, []⟩, tnK kb]
theorem tnT_pieces (kb : Nat) : piecesT [] (tnT kb) = piecesF [] tn2 := rfl
theorem tnT_ok (kb : Nat) : ∀ y ∈ tnT kb, y.Ok := by
  intro y hy
  simp only [tnT, List.mem_cons, List.not_mem_nil, or_false] at hy
  rcases hy with rfl | rfl
  · exact ⟨fun _ => (by decide), fun h => (by cases h), fun h => (by cases h)⟩
  · exact ⟨fun h => (by cases h), fun _ x hx => (by simp only [tnK, List.mem_cons, List.not_mem_nil, or_false] at hx; subst hx; decide), fun _ => (by show 1 ≤ 3; omega)⟩
theorem adv1 : adv [5, 7] 0 1024 = 5 := by decide +kernel
theorem adv2 : adv [5, 7] 9 1024 = 7 := by decide +kernel
theorem adv3 : adv [5, 7] (-1) 2048 = 14 := by decide +kernel
theorem mst0 : mostF [] 0 0 = 0 := rfl
set_option maxRecDepth 100000 in
set_option maxHeartbeats 4000000 in
theorem walk_TextNumbers (w : World) : Calls Try.prog 8 #[] w fun e w' => e = .returned (.bool true) ∧ Below w.heap.size w w' := by
  go_enter Try.func8, Try.ntmps8
  go_wp2_with fail
  refine (law14_initial _).mono ?_
  rintro e w1 ⟨rfl, hB⟩
  go_wp2_with (first | refine stop_build _ _ rfl ?_ | refine stop_store 64 _ _ rfl rfl ?_)
  refine ⟨?_⟩
  refine wl_exec rfl (.agg (Bx.arr ⟨8, 0, false, ByteArray.empty⟩)) (by kernel_rfl) ?_
  (try simp only [Act.put, List.setIfInBounds_toArray, List.set_cons_zero, List.set_cons_succ])
  go_wp2_with (first | refine stop_build _ _ rfl ?_ | refine stop_store 64 _ _ rfl rfl ?_)
  refine ⟨?_⟩
  refine wl_store rfl 64 _ _ rfl w1.heap.size (Bx.arr ⟨8, 0, false, ByteArray.empty⟩) rfl rfl 64 zeroB (Blk.new _ _ _) rfl (info_bx_arr _) (bx_one _) ?_
  intro w2 hBr hch
  (try simp only [Act.put, List.setIfInBounds_toArray, List.set_cons_zero, List.set_cons_succ])
  replace hB : Below w.heap.size w w2 := hB.trans ((((Below.refl w1.heap.size w1).alloc (Nat.le_refl _) _).trans (hch.below (Nat.le_refl _))).mono hB.size)
  clear hch
  generalize w1.heap.size = b1 at *
  go_wp2_with fail
  refine (law14_box _ _ _).mono ?_
  rintro e w3 ⟨rfl, hb⟩
  replace hBr := hBr.below hb hBr.lt
  replace hB := hB.trans (hb.mono hB.size)
  clear hb
  go_wp2_with (first | refine stop_build _ _ rfl ?_ | refine stop_store 64 _ _ rfl rfl ?_)
  generalize hW : w3.alloc _ = W
  have eW : W = w3.alloc (.cells (Bx.arr ⟨7, 1, false, tnB⟩) 64) := hW.symm.trans (by kernel_rfl)
  clear hW
  subst eW
  refine ⟨?_⟩
  refine wl_exec rfl (.agg (tnK w3.heap.size).iarr) (by kernel_rfl) ?_
  (try simp only [Act.put, List.setIfInBounds_toArray, List.set_cons_zero, List.set_cons_succ])
  have hKd := Blk.new w3 64 (Bx.arr ⟨7, 1, false, tnB⟩)
  replace hBr := hBr.alloc (.cells (Bx.arr ⟨7, 1, false, tnB⟩) 64)
  replace hB := hB.alloc hB.size (.cells (Bx.arr ⟨7, 1, false, tnB⟩) 64)
  generalize w3.alloc (.cells (Bx.arr ⟨7, 1, false, tnB⟩) 64) = w4 at *
  generalize w3.heap.size = kb at *
  go_wp2_with (first | refine stop_build _ _ rfl ?_ | refine stop_store 64 _ _ rfl rfl ?_)
  refine ⟨?_⟩
  refine wl_store rfl 64 _ _ rfl w4.heap.size (tnK kb).iarr rfl rfl 64 zeroB (Blk.new _ _ _) rfl (by exact info_bx) (by simp [Bk.iarr, Value.oneCell']) ?_
  intro w5 hIn hch
  (try simp only [Act.put, List.setIfInBounds_toArray, List.set_cons_zero, List.set_cons_succ])
  have lB := hBr.lt
  have lK := hKd.lt
  replace hBr := (hBr.alloc (.cells zeroB 64)).chg hch (by omega)
  replace hKd := (hKd.alloc (.cells zeroB 64)).chg hch (by omega)
  replace hB : Below w.heap.size w w5 := hB.trans ((((Below.refl w4.heap.size w4).alloc (Nat.le_refl _) _).trans (hch.below (Nat.le_refl _))).mono hB.size)
  clear hch lB lK
  generalize w4.heap.size = b2 at *
  go_upto_region 4 with fail
  have hI : NI w ((w5.alloc (.cells #[.int .i64 5, .int .i64 7] 2)).alloc (.cells #[.int .i64 0, .int .i64 0, .slice (some ⟨w5.heap.size, 0, none⟩) 2 2] 36)) b1 b2 kb w5.heap.size (w5.heap.size + 1) :=
    ⟨(hBr.alloc _).alloc _, (hIn.alloc _).alloc _, (hKd.alloc _).alloc _, (Blk.new w5 2 (ints [5, 7])).alloc _, Blk.newAt _ _ _ (by simp), (hB.alloc hB.size _).alloc (by have := hB.size; simp; omega) _⟩
  clear hBr hIn hKd hB
  generalize (w5.alloc _).alloc _ = W at *
  generalize w5.heap.size + 1 = b3 at *
  generalize w5.heap.size = eb at *
  refine wp_region_noPanic ?_
  refine Ord.region_ord (S := fun W => NI w W b1 b2 kb eb b3) [(0, true), (2, true), (1, false), (3, false), (4, false), (5, false), (6, true)] (by kernel_rfl) (by kernel_rfl) (by kernel_rfl) (by decide) (fun _ _ _ _ _ h => h) (hI.drew) (fun hS0 => ?_)
  simp only [Ord.lay, List.getElem?_cons_zero, List.getElem?_cons_succ]
  (refine Ord.take (v := ?_) (Or.inl ⟨rfl, ?_⟩) ?_; rotate_left; (intro w hSw; (try dsimp only at hSw); go_simp; try (with_reducible rfl)); (try simp only [Act.put, List.setIfInBounds_toArray, List.set_cons_zero, List.set_cons_succ]))
  (refine Ord.take (yieldsIf_load_mid rfl _ _ rfl b1 0 rfl _ _ (fun w' h => h.br.range) Try.underlying64 rfl (by exact info_bx)) ?_; (try simp only [Act.put, List.setIfInBounds_toArray, List.set_cons_zero, List.set_cons_succ]))
  refine Ord.alone' rfl rfl (fun K hK => ?_)
  go_simp
  refine (law14_box _ _ _).mono ?_
  rintro e u1 ⟨rfl, hbq⟩
  have hS1 := hS0.on hbq
  clear hbq
  go_wp2_with fail
  refine hK.out _ _ (hS1) (fun _ => ?_)
  clear hK K
  (try simp only [Act.put, List.setIfInBounds_toArray, List.set_cons_zero, List.set_cons_succ])
  refine Ord.alone' rfl rfl (fun K hK => ?_)
  go_simp
  refine (law14_box _ _ _).mono ?_
  rintro e u2 ⟨rfl, hbq⟩
  have hS2 := hS1.on hbq
  clear hbq
  go_wp2_with fail
  refine hK.out _ _ (hS2) (fun _ => ?_)
  clear hK K
  (try simp only [Act.put, List.setIfInBounds_toArray, List.set_cons_zero, List.set_cons_succ])
  refine Ord.alone' rfl rfl (fun K hK => ?_)
  refine op_exec (w' := World.alloc u2 (.cells (tn1.flatMap Bx.cells).toArray 64)) (.slice (some ⟨u2.heap.size, 0, none⟩) 3 3) (by kernel_rfl) ?_
  have hbq := (Below.refl _ u2).alloc (Nat.le_refl _) (.cells (tn1.flatMap Bx.cells).toArray 64)
  have hR3 := Recs.blk (l := tn1) (fl := Bx.cells) bxc_length (Blk.new u2 64 (tn1.flatMap Bx.cells).toArray) (by simp) (Blk.new u2 64 (tn1.flatMap Bx.cells).toArray).lt
  have hS3 := hS2.on hbq
  clear hbq
  generalize World.alloc _ _ = u3 at *
  refine hK.out _ _ (hS3) (fun _ => ?_)
  clear hK K
  (try simp only [Act.put, List.setIfInBounds_toArray, List.set_cons_zero, List.set_cons_succ])
  refine Ord.alone' rfl rfl (fun K hK => ?_)
  go_simp
  have hq := text_Pieces 0 0 [] none 0 tn1 _ (tn1.length) _ tn1_ok (by decide) (by decide) (fun h => absurd rfl h) hR3
  have k2 := tn1_small
  have k3 := tn1_len
  have k1 := tn1_most
  have k4 := tn1_least
  generalize piecesF [] tn1 = P1 at hq k1 k2 k3 k4
  refine hq.mono ?_
  clear hq
  rintro e u4 ⟨v, rfl, hbq, ho⟩
  obtain ⟨A1, c1, rfl, -⟩ := own_some ho
  have hP := Recs.of_own pz_length (by decide) ho
  clear ho
  have hS4 := hS3.on hbq
  clear hbq
  clear hR3
  go_wp2_with fail
  refine hK.out _ _ (hS4) (fun _ => ?_)
  clear hK K
  (try simp only [Act.put, List.setIfInBounds_toArray, List.set_cons_zero, List.set_cons_succ])
  (refine Ord.take (v := ?_) (Or.inl ⟨rfl, ?_⟩) ?_; rotate_left; (intro w hSw; (try dsimp only at hSw); go_simp; try (with_reducible rfl)); (try simp only [Act.put, List.setIfInBounds_toArray, List.set_cons_zero, List.set_cons_succ]))
  refine Ord.done (NoPanic.normal ?_)
  have hJ : NJ w u4 b1 b2 kb eb b3 A1 P1 := ⟨hS4, hP⟩
  clear hP
  go_upto_region 5 with fail
  clear hS0 hS1 hS2 hS3 hS4 hI
  generalize u4 = V at *

  have m1 := k1
  have m3 := k3
  have m4 := k4
  clear k1 k2 k3 k4
  refine wp_region_noPanic ?_
  refine Ord.region_ord (S := fun W => NJ w W b1 b2 kb eb b3 A1 P1) [(0, true), (1, true), (3, true), (2, false), (4, false), (5, false), (6, false), (7, true), (8, true), (9, true), (10, true), (12, true), (11, false), (13, false), (14, false), (15, false), (16, false), (17, true), (18, true), (19, true), (20, true), (21, false), (22, false), (23, false), (24, false), (25, true), (26, true), (27, true), (28, true), (29, false), (30, false), (31, false), (32, false), (33, true), (34, true), (35, true), (36, true), (37, false), (38, true), (39, true), (40, true), (41, true), (42, false), (43, true), (44, true), (45, true), (46, true), (47, false), (48, true), (49, true), (50, true), (51, true), (52, false), (53, true), (54, true), (55, true), (56, true), (57, false), (58, true), (59, true), (60, true), (61, false), (62, true), (63, true), (64, true), (65, false), (66, true), (67, true)] (by kernel_rfl) (by kernel_rfl) (by kernel_rfl) (by decide) (fun _ _ _ _ _ h => h) (hJ.drew) (fun hS0 => ?_)
  simp only [Ord.lay, List.getElem?_cons_zero, List.getElem?_cons_succ]
  (refine Ord.take (v := ?_) (Or.inl ⟨rfl, ?_⟩) ?_; rotate_left; (intro w hSw; (try dsimp only at hSw); go_simp; try (with_reducible rfl)); (try simp only [Act.put, List.setIfInBounds_toArray, List.set_cons_zero, List.set_cons_succ]))
  (refine Ord.take (v := ?_) (Or.inl ⟨rfl, ?_⟩) ?_; rotate_left; (intro w hSw; (try dsimp only at hSw); go_simp; try (with_reducible rfl)); (try simp only [Act.put, List.setIfInBounds_toArray, List.set_cons_zero, List.set_cons_succ]))
  (refine Ord.take (yieldsIf_load_mid rfl _ _ rfl b2 0 rfl _ _ (fun w' h => h.n.inn.range) Try.underlying64 rfl (by exact info_bx)) ?_; (try simp only [Act.put, List.setIfInBounds_toArray, List.set_cons_zero, List.set_cons_succ]))
  refine Ord.alone' rfl rfl (fun K hK => ?_)
  go_simp
  refine (law14_box _ _ _).mono ?_
  rintro e u1 ⟨rfl, hbq⟩
  have hS1 := hS0.on hbq
  clear hbq
  go_wp2_with fail
  refine hK.out _ _ (hS1) (fun _ => ?_)
  clear hK K
  (try simp only [Act.put, List.setIfInBounds_toArray, List.set_cons_zero, List.set_cons_succ])
  refine Ord.alone' rfl rfl (fun K hK => ?_)
  refine op_exec (w' := World.alloc u1 (.cells ((tnT kb).flatMap Bk.cells).toArray 64)) (.slice (some ⟨u1.heap.size, 0, none⟩) 2 2) (by kernel_rfl) ?_
  have hbq := (Below.refl _ u1).alloc (Nat.le_refl _) (.cells ((tnT kb).flatMap Bk.cells).toArray 64)
  have hR2 := Recs.blk (l := (tnT kb)) (fl := Bk.cells) bkc_length (Blk.new u1 64 ((tnT kb).flatMap Bk.cells).toArray) (by simp) (Blk.new u1 64 ((tnT kb).flatMap Bk.cells).toArray).lt
  have hS2 := hS1.on hbq
  clear hbq
  generalize World.alloc _ _ = u2 at *
  refine hK.out _ _ (hS2) (fun _ => ?_)
  clear hK K
  (try simp only [Act.put, List.setIfInBounds_toArray, List.set_cons_zero, List.set_cons_succ])
  refine Ord.alone' rfl rfl (fun K hK => ?_)
  go_simp
  have hq := text_PiecesT 0 0 [] none 0 (tnT kb) _ 2 _ (tnT_ok kb) (by intro y hy hi; simp only [tnT, List.mem_cons, List.not_mem_nil, or_false] at hy; rcases hy with rfl | rfl; cases hi; exact hS2.n.kids) (by simp [tnT]) (by decide) (fun h => absurd rfl h) hR2
  rw [tnT_pieces] at hq
  have k2 := tn2_small
  have k3 := tn2_len
  have k1 := tn2_said
  generalize piecesF [] tn2 = P2 at hq k1 k2 k3
  refine hq.mono ?_
  clear hq
  rintro e u3 ⟨v, rfl, hbq, ho⟩
  obtain ⟨A2, c2, rfl, -⟩ := own_some ho
  have hP := Recs.of_own pz_length (by decide) ho
  clear ho
  have hS3 := hS2.on hbq
  clear hbq
  clear hR2
  go_wp2_with fail
  refine hK.out _ _ (hS3) (fun _ => ?_)
  clear hK K
  (try simp only [Act.put, List.setIfInBounds_toArray, List.set_cons_zero, List.set_cons_succ])
  refine Ord.alone' rfl rfl (fun K hK => ?_)
  go_simp
  refine (law14_said _ P2 _ _ _ k2 k3 hP).mono ?_
  rintro e ux ⟨rfl, rfl⟩
  rw [k1]
  clear k1 k2 k3 hP
  go_wp2_with fail
  refine hK.out _ _ (hS3) (fun _ => ?_)
  clear hK K
  (try simp only [Act.put, List.setIfInBounds_toArray, List.set_cons_zero, List.set_cons_succ])
  (refine Ord.take (v := ?_) (Or.inl ⟨rfl, ?_⟩) ?_; rotate_left; (intro w hSw; (try dsimp only at hSw); go_simp; try (with_reducible rfl)); (try simp only [Act.put, List.setIfInBounds_toArray, List.set_cons_zero, List.set_cons_succ]))
  (refine Ord.take (v := ?_) (Or.inl ⟨rfl, ?_⟩) ?_; rotate_left; (intro w hSw; (try dsimp only at hSw); go_simp; try (with_reducible rfl)); (try simp only [Act.put, List.setIfInBounds_toArray, List.set_cons_zero, List.set_cons_succ]))
  (refine Ord.take (v := ?_) (Or.inl ⟨rfl, ?_⟩) ?_; rotate_left; (intro w hSw; (try dsimp only at hSw); go_simp; try (with_reducible rfl)); (try simp only [Act.put, List.setIfInBounds_toArray, List.set_cons_zero, List.set_cons_succ]))
  (refine Ord.take (v := ?_) (Or.inl ⟨rfl, ?_⟩) ?_; rotate_left; (intro w hSw; (try dsimp only at hSw); go_simp; try (with_reducible rfl)); (try simp only [Act.put, List.setIfInBounds_toArray, List.set_cons_zero, List.set_cons_succ]))
  (refine Ord.take (yieldsIf_load_mid rfl _ _ rfl b1 0 rfl _ _ (fun w' h => h.n.br.range) Try.underlying64 rfl (by exact info_bx)) ?_; (try simp only [Act.put, List.setIfInBounds_toArray, List.set_cons_zero, List.set_cons_succ]))
  refine Ord.alone' rfl rfl (fun K hK => ?_)
  go_simp
  refine (law14_box _ _ _).mono ?_
  rintro e u4 ⟨rfl, hbq⟩
  have hS4 := hS3.on hbq
  clear hbq
  go_wp2_with fail
  refine hK.out _ _ (hS4) (fun _ => ?_)
  clear hK K
  (try simp only [Act.put, List.setIfInBounds_toArray, List.set_cons_zero, List.set_cons_succ])
  refine Ord.alone' rfl rfl (fun K hK => ?_)
  go_simp
  refine (law14_box _ _ _).mono ?_
  rintro e u5 ⟨rfl, hbq⟩
  have hS5 := hS4.on hbq
  clear hbq
  go_wp2_with fail
  refine hK.out _ _ (hS5) (fun _ => ?_)
  clear hK K
  (try simp only [Act.put, List.setIfInBounds_toArray, List.set_cons_zero, List.set_cons_succ])
  refine Ord.alone' rfl rfl (fun K hK => ?_)
  refine op_exec (w' := World.alloc u5 (.cells (tn3.flatMap Bx.cells).toArray 64)) (.slice (some ⟨u5.heap.size, 0, none⟩) 3 3) (by kernel_rfl) ?_
  have hbq := (Below.refl _ u5).alloc (Nat.le_refl _) (.cells (tn3.flatMap Bx.cells).toArray 64)
  have hR6 := Recs.blk (l := tn3) (fl := Bx.cells) bxc_length (Blk.new u5 64 (tn3.flatMap Bx.cells).toArray) (by simp) (Blk.new u5 64 (tn3.flatMap Bx.cells).toArray).lt
  have hS6 := hS5.on hbq
  clear hbq
  generalize World.alloc _ _ = u6 at *
  refine hK.out _ _ (hS6) (fun _ => ?_)
  clear hK K
  (try simp only [Act.put, List.setIfInBounds_toArray, List.set_cons_zero, List.set_cons_succ])
  refine Ord.alone' rfl rfl (fun K hK => ?_)
  go_simp
  have hq := text_Pieces 0 0 [] none 0 tn3 _ (tn3.length) _ tn3_ok (by decide) (by decide) (fun h => absurd rfl h) hR6
  have k2 := tn3_small
  have k3 := tn3_len
  have k1 := tn3_said
  generalize piecesF [] tn3 = P3 at hq k1 k2 k3
  refine hq.mono ?_
  clear hq
  rintro e u7 ⟨v, rfl, hbq, ho⟩
  obtain ⟨A3, c3, rfl, -⟩ := own_some ho
  have hP := Recs.of_own pz_length (by decide) ho
  clear ho
  have hS7 := hS6.on hbq
  clear hbq
  clear hR6
  go_wp2_with fail
  refine hK.out _ _ (hS7) (fun _ => ?_)
  clear hK K
  (try simp only [Act.put, List.setIfInBounds_toArray, List.set_cons_zero, List.set_cons_succ])
  refine Ord.alone' rfl rfl (fun K hK => ?_)
  go_simp
  refine (law14_said _ P3 _ _ _ k2 k3 hP).mono ?_
  rintro e ux ⟨rfl, rfl⟩
  rw [k1]
  clear k1 k2 k3 hP
  go_wp2_with fail
  refine hK.out _ _ (hS7) (fun _ => ?_)
  clear hK K
  (try simp only [Act.put, List.setIfInBounds_toArray, List.set_cons_zero, List.set_cons_succ])
  (refine Ord.take (v := ?_) (Or.inl ⟨rfl, ?_⟩) ?_; rotate_left; (intro w hSw; (try dsimp only at hSw); go_simp; try (with_reducible rfl)); (try simp only [Act.put, List.setIfInBounds_toArray, List.set_cons_zero, List.set_cons_succ]))
  (refine Ord.take (v := ?_) (Or.inl ⟨rfl, ?_⟩) ?_; rotate_left; (intro w hSw; (try dsimp only at hSw); go_simp; try (with_reducible rfl)); (try simp only [Act.put, List.setIfInBounds_toArray, List.set_cons_zero, List.set_cons_succ]))
  (refine Ord.take (v := ?_) (Or.inl ⟨rfl, ?_⟩) ?_; rotate_left; (intro w hSw; (try dsimp only at hSw); go_simp; try (with_reducible rfl)); (try simp only [Act.put, List.setIfInBounds_toArray, List.set_cons_zero, List.set_cons_succ]))
  (refine Ord.take (v := ?_) (Or.inl ⟨rfl, ?_⟩) ?_; rotate_left; (intro w hSw; (try dsimp only at hSw); go_simp; try (with_reducible rfl)); (try simp only [Act.put, List.setIfInBounds_toArray, List.set_cons_zero, List.set_cons_succ]))
  refine Ord.alone' rfl rfl (fun K hK => ?_)
  go_simp
  refine (law14_box _ _ _).mono ?_
  rintro e u8 ⟨rfl, hbq⟩
  have hS8 := hS7.on hbq
  clear hbq
  go_wp2_with fail
  refine hK.out _ _ (hS8) (fun _ => ?_)
  clear hK K
  (try simp only [Act.put, List.setIfInBounds_toArray, List.set_cons_zero, List.set_cons_succ])
  refine Ord.alone' rfl rfl (fun K hK => ?_)
  refine op_exec (w' := World.alloc u8 (.cells (tn4.flatMap Bx.cells).toArray 64)) (.slice (some ⟨u8.heap.size, 0, none⟩) 1 1) (by kernel_rfl) ?_
  have hbq := (Below.refl _ u8).alloc (Nat.le_refl _) (.cells (tn4.flatMap Bx.cells).toArray 64)
  have hR9 := Recs.blk (l := tn4) (fl := Bx.cells) bxc_length (Blk.new u8 64 (tn4.flatMap Bx.cells).toArray) (by simp) (Blk.new u8 64 (tn4.flatMap Bx.cells).toArray).lt
  have hS9 := hS8.on hbq
  clear hbq
  generalize World.alloc _ _ = u9 at *
  refine hK.out _ _ (hS9) (fun _ => ?_)
  clear hK K
  (try simp only [Act.put, List.setIfInBounds_toArray, List.set_cons_zero, List.set_cons_succ])
  refine Ord.alone' rfl rfl (fun K hK => ?_)
  go_simp
  have hq := text_Pieces 0 0 [] none 0 tn4 _ (tn4.length) _ tn4_ok (by decide) (by decide) (fun h => absurd rfl h) hR9
  have k2 := tn4_small
  have k3 := tn4_len
  have k1 := tn4_said
  generalize piecesF [] tn4 = P4 at hq k1 k2 k3
  refine hq.mono ?_
  clear hq
  rintro e u10 ⟨v, rfl, hbq, ho⟩
  obtain ⟨A4, c4, rfl, -⟩ := own_some ho
  have hP := Recs.of_own pz_length (by decide) ho
  clear ho
  have hS10 := hS9.on hbq
  clear hbq
  clear hR9
  go_wp2_with fail
  refine hK.out _ _ (hS10) (fun _ => ?_)
  clear hK K
  (try simp only [Act.put, List.setIfInBounds_toArray, List.set_cons_zero, List.set_cons_succ])
  refine Ord.alone' rfl rfl (fun K hK => ?_)
  go_simp
  refine (law14_said _ P4 _ _ _ k2 k3 hP).mono ?_
  rintro e ux ⟨rfl, rfl⟩
  rw [k1]
  clear k1 k2 k3 hP
  go_wp2_with fail
  refine hK.out _ _ (hS10) (fun _ => ?_)
  clear hK K
  (try simp only [Act.put, List.setIfInBounds_toArray, List.set_cons_zero, List.set_cons_succ])
  (refine Ord.take (v := ?_) (Or.inl ⟨rfl, ?_⟩) ?_; rotate_left; (intro w hSw; (try dsimp only at hSw); go_simp; try (with_reducible rfl)); (try simp only [Act.put, List.setIfInBounds_toArray, List.set_cons_zero, List.set_cons_succ]))
  (refine Ord.take (v := ?_) (Or.inl ⟨rfl, ?_⟩) ?_; rotate_left; (intro w hSw; (try dsimp only at hSw); go_simp; try (with_reducible rfl)); (try simp only [Act.put, List.setIfInBounds_toArray, List.set_cons_zero, List.set_cons_succ]))
  (refine Ord.take (v := ?_) (Or.inl ⟨rfl, ?_⟩) ?_; rotate_left; (intro w hSw; (try dsimp only at hSw); go_simp; try (with_reducible rfl)); (try simp only [Act.put, List.setIfInBounds_toArray, List.set_cons_zero, List.set_cons_succ]))
  (refine Ord.take (v := ?_) (Or.inl ⟨rfl, ?_⟩) ?_; rotate_left; (intro w hSw; (try dsimp only at hSw); go_simp; try (with_reducible rfl)); (try simp only [Act.put, List.setIfInBounds_toArray, List.set_cons_zero, List.set_cons_succ]))
  refine Ord.alone' rfl rfl (fun K hK => ?_)
  go_simp
  refine (law14_box _ _ _).mono ?_
  rintro e u11 ⟨rfl, hbq⟩
  have hS11 := hS10.on hbq
  clear hbq
  go_wp2_with fail
  refine hK.out _ _ (hS11) (fun _ => ?_)
  clear hK K
  (try simp only [Act.put, List.setIfInBounds_toArray, List.set_cons_zero, List.set_cons_succ])
  refine Ord.alone' rfl rfl (fun K hK => ?_)
  refine op_exec (w' := World.alloc u11 (.cells (tn5.flatMap Bx.cells).toArray 64)) (.slice (some ⟨u11.heap.size, 0, none⟩) 1 1) (by kernel_rfl) ?_
  have hbq := (Below.refl _ u11).alloc (Nat.le_refl _) (.cells (tn5.flatMap Bx.cells).toArray 64)
  have hR12 := Recs.blk (l := tn5) (fl := Bx.cells) bxc_length (Blk.new u11 64 (tn5.flatMap Bx.cells).toArray) (by simp) (Blk.new u11 64 (tn5.flatMap Bx.cells).toArray).lt
  have hS12 := hS11.on hbq
  clear hbq
  generalize World.alloc _ _ = u12 at *
  refine hK.out _ _ (hS12) (fun _ => ?_)
  clear hK K
  (try simp only [Act.put, List.setIfInBounds_toArray, List.set_cons_zero, List.set_cons_succ])
  refine Ord.alone' rfl rfl (fun K hK => ?_)
  go_simp
  have hq := text_Pieces 0 0 [] none 0 tn5 _ (tn5.length) _ tn5_ok (by decide) (by decide) (fun h => absurd rfl h) hR12
  have k2 := tn5_small
  have k3 := tn5_len
  have k1 := tn5_said
  generalize piecesF [] tn5 = P5 at hq k1 k2 k3
  refine hq.mono ?_
  clear hq
  rintro e u13 ⟨v, rfl, hbq, ho⟩
  obtain ⟨A5, c5, rfl, -⟩ := own_some ho
  have hP := Recs.of_own pz_length (by decide) ho
  clear ho
  have hS13 := hS12.on hbq
  clear hbq
  clear hR12
  go_wp2_with fail
  refine hK.out _ _ (hS13) (fun _ => ?_)
  clear hK K
  (try simp only [Act.put, List.setIfInBounds_toArray, List.set_cons_zero, List.set_cons_succ])
  refine Ord.alone' rfl rfl (fun K hK => ?_)
  go_simp
  refine (law14_said _ P5 _ _ _ k2 k3 hP).mono ?_
  rintro e ux ⟨rfl, rfl⟩
  rw [k1]
  clear k1 k2 k3 hP
  go_wp2_with fail
  refine hK.out _ _ (hS13) (fun _ => ?_)
  clear hK K
  (try simp only [Act.put, List.setIfInBounds_toArray, List.set_cons_zero, List.set_cons_succ])
  (refine Ord.take (v := ?_) (Or.inl ⟨rfl, ?_⟩) ?_; rotate_left; (intro w hSw; (try dsimp only at hSw); go_simp; try (with_reducible rfl)); (try simp only [Act.put, List.setIfInBounds_toArray, List.set_cons_zero, List.set_cons_succ]))
  (refine Ord.take (v := ?_) (Or.inl ⟨rfl, ?_⟩) ?_; rotate_left; (intro w hSw; (try dsimp only at hSw); go_simp; try (with_reducible rfl)); (try simp only [Act.put, List.setIfInBounds_toArray, List.set_cons_zero, List.set_cons_succ]))
  (refine Ord.take (v := ?_) (Or.inl ⟨rfl, ?_⟩) ?_; rotate_left; (intro w hSw; (try dsimp only at hSw); go_simp; try (with_reducible rfl)); (try simp only [Act.put, List.setIfInBounds_toArray, List.set_cons_zero, List.set_cons_succ]))
  (refine Ord.take (v := ?_) (Or.inl ⟨rfl, ?_⟩) ?_; rotate_left; (intro w hSw; (try dsimp only at hSw); go_simp; try (with_reducible rfl)); (try simp only [Act.put, List.setIfInBounds_toArray, List.set_cons_zero, List.set_cons_succ]))
  refine Ord.alone' rfl rfl (fun K hK => ?_)
  go_simp
  refine (text_Most P1 A1 c1 _ m3 hS13.r).mono ?_
  rintro e u14 ⟨rfl, hbq⟩
  rw [m1]
  have hS14 := hS13.on hbq
  clear hbq
  go_wp2_with fail
  refine hK.out _ _ (hS14) (fun _ => ?_)
  clear hK K
  (try simp only [Act.put, List.setIfInBounds_toArray, List.set_cons_zero, List.set_cons_succ])
  (refine Ord.take (v := ?_) (Or.inl ⟨rfl, ?_⟩) ?_; rotate_left; (intro w hSw; (try dsimp only at hSw); go_simp; try (with_reducible rfl)); (try simp only [Act.put, List.setIfInBounds_toArray, List.set_cons_zero, List.set_cons_succ]))
  (refine Ord.take (v := ?_) (Or.inl ⟨rfl, ?_⟩) ?_; rotate_left; (intro w hSw; (try dsimp only at hSw); go_simp; try (with_reducible rfl)); (try simp only [Act.put, List.setIfInBounds_toArray, List.set_cons_zero, List.set_cons_succ]))
  (refine Ord.take (v := ?_) (Or.inl ⟨rfl, ?_⟩) ?_; rotate_left; (intro w hSw; (try dsimp only at hSw); go_simp; try (with_reducible rfl)); (try simp only [Act.put, List.setIfInBounds_toArray, List.set_cons_zero, List.set_cons_succ]))
  (refine Ord.take (v := ?_) (Or.inl ⟨rfl, ?_⟩) ?_; rotate_left; (intro w hSw; (try dsimp only at hSw); go_simp; try (with_reducible rfl)); (try simp only [Act.put, List.setIfInBounds_toArray, List.set_cons_zero, List.set_cons_succ]))
  refine Ord.alone' rfl rfl (fun K hK => ?_)
  go_simp
  refine (text_Least P1 A1 c1 _ m3 hS14.r).mono ?_
  rintro e u15 ⟨rfl, hbq⟩
  rw [m4]
  have hS15 := hS14.on hbq
  clear hbq
  go_wp2_with fail
  refine hK.out _ _ (hS15) (fun _ => ?_)
  clear hK K
  (try simp only [Act.put, List.setIfInBounds_toArray, List.set_cons_zero, List.set_cons_succ])
  (refine Ord.take (v := ?_) (Or.inl ⟨rfl, ?_⟩) ?_; rotate_left; (intro w hSw; (try dsimp only at hSw); go_simp; try (with_reducible rfl)); (try simp only [Act.put, List.setIfInBounds_toArray, List.set_cons_zero, List.set_cons_succ]))
  (refine Ord.take (v := ?_) (Or.inl ⟨rfl, ?_⟩) ?_; rotate_left; (intro w hSw; (try dsimp only at hSw); go_simp; try (with_reducible rfl)); (try simp only [Act.put, List.setIfInBounds_toArray, List.set_cons_zero, List.set_cons_succ]))
  (refine Ord.take (v := ?_) (Or.inl ⟨rfl, ?_⟩) ?_; rotate_left; (intro w hSw; (try dsimp only at hSw); go_simp; try (with_reducible rfl)); (try simp only [Act.put, List.setIfInBounds_toArray, List.set_cons_zero, List.set_cons_succ]))
  (refine Ord.take (yieldsIf_load_mid rfl _ _ rfl b3 0 rfl _ _ (fun w' h => h.n.env.range) Try.underlying36 rfl (by kernel_rfl)) ?_; (try simp only [Act.put, List.setIfInBounds_toArray, List.set_cons_zero, List.set_cons_succ]))
  refine Ord.alone' rfl rfl (fun K hK => ?_)
  go_simp
  refine (text_Advance 0 0 [5, 7] _ 2 0 1024 _ (by decide) (by decide) (by decide) hS15.n.ints).mono ?_
  rintro e u16 ⟨rfl, hbq⟩
  rw [adv1]
  have hS16 := hS15.on hbq
  clear hbq
  go_wp2_with fail
  refine hK.out _ _ (hS16) (fun _ => ?_)
  clear hK K
  (try simp only [Act.put, List.setIfInBounds_toArray, List.set_cons_zero, List.set_cons_succ])
  (refine Ord.take (v := ?_) (Or.inl ⟨rfl, ?_⟩) ?_; rotate_left; (intro w hSw; (try dsimp only at hSw); go_simp; try (with_reducible rfl)); (try simp only [Act.put, List.setIfInBounds_toArray, List.set_cons_zero, List.set_cons_succ]))
  (refine Ord.take (v := ?_) (Or.inl ⟨rfl, ?_⟩) ?_; rotate_left; (intro w hSw; (try dsimp only at hSw); go_simp; try (with_reducible rfl)); (try simp only [Act.put, List.setIfInBounds_toArray, List.set_cons_zero, List.set_cons_succ]))
  (refine Ord.take (v := ?_) (Or.inl ⟨rfl, ?_⟩) ?_; rotate_left; (intro w hSw; (try dsimp only at hSw); go_simp; try (with_reducible rfl)); (try simp only [Act.put, List.setIfInBounds_toArray, List.set_cons_zero, List.set_cons_succ]))
  (refine Ord.take (yieldsIf_load_mid rfl _ _ rfl b3 0 rfl _ _ (fun w' h => h.n.env.range) Try.underlying36 rfl (by kernel_rfl)) ?_; (try simp only [Act.put, List.setIfInBounds_toArray, List.set_cons_zero, List.set_cons_succ]))
  refine Ord.alone' rfl rfl (fun K hK => ?_)
  go_simp
  refine (text_Advance 0 0 [5, 7] _ 2 9 1024 _ (by decide) (by decide) (by decide) hS16.n.ints).mono ?_
  rintro e u17 ⟨rfl, hbq⟩
  rw [adv2]
  have hS17 := hS16.on hbq
  clear hbq
  go_wp2_with fail
  refine hK.out _ _ (hS17) (fun _ => ?_)
  clear hK K
  (try simp only [Act.put, List.setIfInBounds_toArray, List.set_cons_zero, List.set_cons_succ])
  (refine Ord.take (v := ?_) (Or.inl ⟨rfl, ?_⟩) ?_; rotate_left; (intro w hSw; (try dsimp only at hSw); go_simp; try (with_reducible rfl)); (try simp only [Act.put, List.setIfInBounds_toArray, List.set_cons_zero, List.set_cons_succ]))
  (refine Ord.take (v := ?_) (Or.inl ⟨rfl, ?_⟩) ?_; rotate_left; (intro w hSw; (try dsimp only at hSw); go_simp; try (with_reducible rfl)); (try simp only [Act.put, List.setIfInBounds_toArray, List.set_cons_zero, List.set_cons_succ]))
  (refine Ord.take (v := ?_) (Or.inl ⟨rfl, ?_⟩) ?_; rotate_left; (intro w hSw; (try dsimp only at hSw); go_simp; try (with_reducible rfl)); (try simp only [Act.put, List.setIfInBounds_toArray, List.set_cons_zero, List.set_cons_succ]))
  (refine Ord.take (yieldsIf_load_mid rfl _ _ rfl b3 0 rfl _ _ (fun w' h => h.n.env.range) Try.underlying36 rfl (by kernel_rfl)) ?_; (try simp only [Act.put, List.setIfInBounds_toArray, List.set_cons_zero, List.set_cons_succ]))
  refine Ord.alone' rfl rfl (fun K hK => ?_)
  go_simp
  refine (text_Advance 0 0 [5, 7] _ 2 (-1) 2048 _ (by decide) (by decide) (by decide) hS17.n.ints).mono ?_
  rintro e u18 ⟨rfl, hbq⟩
  rw [adv3]
  have hS18 := hS17.on hbq
  clear hbq
  go_wp2_with fail
  refine hK.out _ _ (hS18) (fun _ => ?_)
  clear hK K
  (try simp only [Act.put, List.setIfInBounds_toArray, List.set_cons_zero, List.set_cons_succ])
  (refine Ord.take (v := ?_) (Or.inl ⟨rfl, ?_⟩) ?_; rotate_left; (intro w hSw; (try dsimp only at hSw); go_simp; try (with_reducible rfl)); (try simp only [Act.put, List.setIfInBounds_toArray, List.set_cons_zero, List.set_cons_succ]))
  (refine Ord.take (v := ?_) (Or.inl ⟨rfl, ?_⟩) ?_; rotate_left; (intro w hSw; (try dsimp only at hSw); go_simp; try (with_reducible rfl)); (try simp only [Act.put, List.setIfInBounds_toArray, List.set_cons_zero, List.set_cons_succ]))
  (refine Ord.take (v := ?_) (Or.inl ⟨rfl, ?_⟩) ?_; rotate_left; (intro w hSw; (try dsimp only at hSw); go_simp; try (with_reducible rfl)); (try simp only [Act.put, List.setIfInBounds_toArray, List.set_cons_zero, List.set_cons_succ]))
  refine Ord.alone' rfl rfl (fun K hK => ?_)
  go_simp
  refine (text_Most [] none 0 _ (by decide) (Recs.nil _ _ _ _ _)).mono ?_
  rintro e u19 ⟨rfl, hbq⟩
  rw [mst0]
  have hS19 := hS18.on hbq
  clear hbq
  go_wp2_with fail
  refine hK.out _ _ (hS19) (fun _ => ?_)
  clear hK K
  (try simp only [Act.put, List.setIfInBounds_toArray, List.set_cons_zero, List.set_cons_succ])
  (refine Ord.take (v := ?_) (Or.inl ⟨rfl, ?_⟩) ?_; rotate_left; (intro w hSw; (try dsimp only at hSw); go_simp; try (with_reducible rfl)); (try simp only [Act.put, List.setIfInBounds_toArray, List.set_cons_zero, List.set_cons_succ]))
  (refine Ord.take (v := ?_) (Or.inl ⟨rfl, ?_⟩) ?_; rotate_left; (intro w hSw; (try dsimp only at hSw); go_simp; try (with_reducible rfl)); (try simp only [Act.put, List.setIfInBounds_toArray, List.set_cons_zero, List.set_cons_succ]))
  (refine Ord.take (v := ?_) (Or.inl ⟨rfl, ?_⟩) ?_; rotate_left; (intro w hSw; (try dsimp only at hSw); go_simp; try (with_reducible rfl)); (try simp only [Act.put, List.setIfInBounds_toArray, List.set_cons_zero, List.set_cons_succ]))
  refine Ord.alone' rfl rfl (fun K hK => ?_)
  go_simp
  refine (known14 _).mono ?_
  rintro e u20 ⟨rfl, hbq⟩
  have hS20 := hS19.on hbq
  clear hbq
  go_wp2_with fail
  refine hK.out _ _ (hS20) (fun _ => ?_)
  clear hK K
  (try simp only [Act.put, List.setIfInBounds_toArray, List.set_cons_zero, List.set_cons_succ])
  (refine Ord.take (v := ?_) (Or.inl ⟨rfl, ?_⟩) ?_; rotate_left; (intro w hSw; (try dsimp only at hSw); go_simp; try (with_reducible rfl)); (try simp only [Act.put, List.setIfInBounds_toArray, List.set_cons_zero, List.set_cons_succ]))
  (refine Ord.take (v := ?_) (Or.inl ⟨rfl, ?_⟩) ?_; rotate_left; (intro w hSw; (try dsimp only at hSw); go_simp; try (with_reducible rfl)); (try simp only [Act.put, List.setIfInBounds_toArray, List.set_cons_zero, List.set_cons_succ]))
  refine Ord.done (NoPanic.normal ?_)
  go_wp2_with fail
  go_ret
  exact ⟨rfl, hS20.n.below⟩
end Go.Proofs.Yteghacdpfhohoaa
