/-
  Rows of spans that are the same; the walk of FlexNumbers.
-/
import Derived.Test.YteghacdpfhohoaaFlexD
import Derived.Test.YteghacdpfhohoaaFlexE
import Derived.DeepKeys
namespace Go.Proofs.Yteghacdpfhohoaa
open Go.RowKit Num Mem Opn
set_option linter.unusedVariables false
set_option linter.unusedSimpArgs false
theorem info_sp_list (a b : Int) : (Try.prog.info? 76).map (·.size) = some (sp2 a b).toList.length := info_sp2 a b
theorem sp_range {w : World} {B : Nat} {A : Option Addr} {P : List Sp} (h : Recs w B A 2 Sp.cells P) {k : Nat} (hk : k < P.length) :
    ∃ b off, A = some ⟨b, off, none⟩ ∧ b < B ∧ w.rangeAt b (off + k * 2) (sp2 (P[k]'hk).at_ (P[k]'hk).size).toList := by
  obtain ⟨b, off, e, hb, hc⟩ := h (by rintro rfl; simp at hk)
  exact ⟨b, off, e, hb, fun j v hv => hc k _ (List.getElem?_eq_getElem hk) j v hv⟩
theorem wf_of_i64 {a : Int} (h : Opn.I64 a) : (Lit.int .i64 a).wf = true := by
  obtain ⟨h1, h2⟩ := h
  simp [Lit.wf, IntKind.min, IntKind.max, IntKind.signed, IntKind.bits]
  omega
set_option maxRecDepth 100000 in
set_option maxHeartbeats 4000000 in
theorem lits_span (ya : Int) (yb : Int) (hya : Opn.I64 ya) (hyb : Opn.I64 yb) : ∃ la, Try.prog.keyLits 6 76 (#[Value.int .i64 ya, Value.int .i64 yb] : Array Value).toList = some la := by
  have hfs : Try.prog.underlying 76 = some (.struct (Try.prog.fieldsOf 76)) := by kernel_rfl
  have hcs : Try.prog.cellsOf 76 = 2 := by kernel_rfl
  have hcsi : Try.prog.cellsOf 2 = 1 := by kernel_rfl
  have ki : ∀ (x : Int), (Lit.int .i64 x).wf = true → Try.prog.keyLits 5 2 [.int .i64 x] = some [.int .i64 x] := by
    intro x hx
    simp [Program.keyLits, Try.underlying2, hx]
  rw [show (6 : Nat) = 5 + 1 from rfl]
  unfold Program.keyLits
  rw [hfs]
  dsimp only
  rw [if_pos ⟨by rw [hcs]; rfl, by kernel_rfl⟩]
  have hF : (Try.prog.fieldsOf 76).toList.map (fun f => (f.type, f.offset)) = [(2, 0), (2, 1)] := by kernel_rfl
  have hM : ∀ (fs : List Field) (l : List (TypeId × Nat)), fs.map (fun f => (f.type, f.offset)) = l → (fs.mapM fun f => Try.prog.keyLits 5 f.type (((#[Value.int .i64 ya, Value.int .i64 yb] : Array Value).toList.drop f.offset).take (Try.prog.cellsOf f.type))) = (l.mapM fun f => Try.prog.keyLits 5 f.1 (((#[Value.int .i64 ya, Value.int .i64 yb] : Array Value).toList.drop f.2).take (Try.prog.cellsOf f.1))) := by
    intro fs l e
    subst e
    rw [List.mapM_map]
    rfl
  rw [hM _ _ hF]
  simp only [List.mapM_cons, List.mapM_nil, hcsi]
  rw [show (((#[Value.int .i64 ya, Value.int .i64 yb] : Array Value).toList.drop 0).take 1) = [Value.int .i64 ya] from rfl]
  rw [show (((#[Value.int .i64 ya, Value.int .i64 yb] : Array Value).toList.drop 1).take 1) = [Value.int .i64 yb] from rfl]
  rw [ki ya (wf_of_i64 hya)]
  rw [ki yb (wf_of_i64 hyb)]
  exact ⟨_, rfl⟩
theorem eq_span (ya : Int) (yb : Int) (hya : Opn.I64 ya) (hyb : Opn.I64 yb) (w : World) : (Op.equalIn 10000 76 (.agg #[Value.int .i64 ya, Value.int .i64 yb]) (.agg #[Value.int .i64 ya, Value.int .i64 yb])).run Try.prog w = .ok true w := by
  obtain ⟨la, hla⟩ := lits_span ya yb hya hyb
  obtain ⟨r, hr, hi⟩ := run_equalIn_deep (P := Try.prog) 9994 6 76 (by kernel_rfl) w 6 6 (.agg #[Value.int .i64 ya, Value.int .i64 yb]) (.agg #[Value.int .i64 ya, Value.int .i64 yb]) la la (by kernel_rfl) (by kernel_rfl) hla hla
  rw [hr, hi.2 rfl]
theorem neq_span (ya : Int) (yb : Int) (hya : Opn.I64 ya) (hyb : Opn.I64 yb) (w : World) : (binOp .neq 76 (.agg #[Value.int .i64 ya, Value.int .i64 yb]) (.agg #[Value.int .i64 ya, Value.int .i64 yb])).run Try.prog w = .ok (.bool false) w := by
  have := eq_span ya yb hya hyb w
  simp only [binOp, Op.equal, Op.maxDepth, Sem.run_bind, this, Result.andThen_ok]
  rfl
theorem eql_span (ya : Int) (yb : Int) (hya : Opn.I64 ya) (hyb : Opn.I64 yb) (w : World) : (binOp .eql 76 (.agg #[Value.int .i64 ya, Value.int .i64 yb]) (.agg #[Value.int .i64 ya, Value.int .i64 yb])).run Try.prog w = .ok (.bool true) w := by
  have := eq_span ya yb hya hyb w
  simp only [binOp, Op.equal, Op.maxDepth, Sem.run_bind, this, Result.andThen_ok]
  rfl
set_option maxRecDepth 100000 in
theorem span_Same (P : List Sp) (A A' : Option Addr) (c c' B B' : Nat) (w : World) (hl : P.length ≤ 35184372088832) (hok : ∀ y ∈ P, I64 y.at_ ∧ I64 y.size) (hA : Recs w B A 2 Sp.cells P) (hA' : Recs w B' A' 2 Sp.cells P) :
    Calls Try.prog 48 #[.slice A P.length c, .slice A' P.length c'] w fun e w' => e = .returned (.bool true) ∧ Drawn w w' := by
  go_enter Try.func48, Try.ntmps48
  go_wp2
  go_loopw [5] (fun i wr => ∃ k : Nat, k ≤ P.length ∧ i = .int .i64 k ∧ Drawn w wr) (fun i _ => P.length - (intOf i).toNat)
  case atStart => exact ⟨0, Nat.zero_le _, rfl, .refl _⟩
  case round =>
    obtain ⟨k, hk, rfl, HW⟩ := hrel
    by_cases hlt : k < P.length
    · obtain ⟨b, off, rfl, hb, hr⟩ := sp_range (hA.drawn HW) hlt
      obtain ⟨b', off', rfl, hb', hr'⟩ := sp_range (hA'.drawn HW) hlt
      obtain ⟨y, hy⟩ : ∃ y, P[k]'hlt = y := ⟨_, rfl⟩
      have hyy := hok _ (List.getElem_mem hlt)
      rw [hy] at hr hr' hyy
      clear hy
      obtain ⟨ya, yb⟩ := y
      simp only at hr hr' hyy
      have hneq : ∀ w, (binOp .neq 76 (.agg (sp2 ya yb)) (.agg (sp2 ya yb))).run Try.prog w = .ok (.bool false) w := neq_span ya yb hyy.1 hyy.2
      have hSQ : (fun Z : World => Z.rangeAt b (off + k * 2) (sp2 ya yb).toList ∧ Z.rangeAt b' (off' + k * 2) (sp2 ya yb).toList) wr.drew := ⟨hr, hr'⟩
      go_upto_region 6 with fail
      refine wp_region_noPanic ?_
      refine Ord.region_Q (S := fun Z : World => Z.rangeAt b (off + k * 2) (sp2 ya yb).toList ∧ Z.rangeAt b' (off' + k * 2) (sp2 ya yb).toList) 999 (.one 0 true (.one 1 true (.one 2 true (.one 3 true (.one 4 true (.one 5 true (.one 6 true (.one 7 true (.one 8 true .nil))))))))) (by kernel_rfl) (by kernel_rfl) (by kernel_rfl) (by decide) (fun _ _ _ _ _ h => h) (hSQ) (fun hS0 => ?_)
      simp only [Ord.layT, List.getElem?_cons_zero, List.getElem?_cons_succ]
      (refine Ord.takeQ (v := ?_) (Or.inl ⟨rfl, ?_⟩) ?_; rotate_left; (intro w hSw; (try dsimp only at hSw); go_simp; try (with_reducible rfl)); (try simp only [Act.put, List.setIfInBounds_toArray, List.set_cons_zero, List.set_cons_succ]))
      (refine Ord.takeQ (v := ?_) (Or.inl ⟨rfl, ?_⟩) ?_; rotate_left; (intro w hSw; (try dsimp only at hSw); go_simp; try (with_reducible rfl)); (try simp only [Act.put, List.setIfInBounds_toArray, List.set_cons_zero, List.set_cons_succ]))
      (refine Ord.takeQ (v := ?_) (Or.inl ⟨rfl, ?_⟩) ?_; rotate_left; (intro w hSw; (try dsimp only at hSw); go_simp; try (with_reducible rfl)); (try simp only [Act.put, List.setIfInBounds_toArray, List.set_cons_zero, List.set_cons_succ]))
      (refine Ord.takeQ (yieldsIf_load_mid rfl _ _ rfl b (off + k * 2) rfl _ _ (fun w' h => h.1) Try.underlying76 rfl (info_sp_list _ _)) ?_; (try simp only [Act.put, List.setIfInBounds_toArray, List.set_cons_zero, List.set_cons_succ]))
      (refine Ord.takeQ (v := ?_) (Or.inl ⟨rfl, ?_⟩) ?_; rotate_left; (intro w hSw; (try dsimp only at hSw); go_simp; try (with_reducible rfl)); (try simp only [Act.put, List.setIfInBounds_toArray, List.set_cons_zero, List.set_cons_succ]))
      (refine Ord.takeQ (v := ?_) (Or.inl ⟨rfl, ?_⟩) ?_; rotate_left; (intro w hSw; (try dsimp only at hSw); go_simp; try (with_reducible rfl)); (try simp only [Act.put, List.setIfInBounds_toArray, List.set_cons_zero, List.set_cons_succ]))
      (refine Ord.takeQ (v := ?_) (Or.inl ⟨rfl, ?_⟩) ?_; rotate_left; (intro w hSw; (try dsimp only at hSw); go_simp; try (with_reducible rfl)); (try simp only [Act.put, List.setIfInBounds_toArray, List.set_cons_zero, List.set_cons_succ]))
      (refine Ord.takeQ (yieldsIf_load_mid rfl _ _ rfl b' (off' + k * 2) rfl _ _ (fun w' h => h.2) Try.underlying76 rfl (info_sp_list _ _)) ?_; (try simp only [Act.put, List.setIfInBounds_toArray, List.set_cons_zero, List.set_cons_succ]))
      (refine Ord.takeQ (v := ?_) (Or.inl ⟨rfl, ?_⟩) ?_; rotate_left; (intro w hSw; (try dsimp only at hSw); go_simp; try (with_reducible rfl)); (try simp only [Act.put, List.setIfInBounds_toArray, List.set_cons_zero, List.set_cons_succ]))
      refine Ord.doneQ (NoPanic.normal ?_)
      clear hSQ
      go_wp2_with fail
      go_roundw
      case rel => exact ⟨k + 1, by omega, by go_num, HW.drew⟩
      case measure => simp [intOf]; omega
    · obtain rfl : k = P.length := by omega
      go_wp2_with fail
      go_ret
      exact ⟨rfl, HW⟩
def twoI : List It := [⟨10, 0, 0, 1⟩, ⟨10, 0, 0, 1⟩]
def oneI : List It := [⟨10, 0, 0, 1⟩, ⟨10, 0, 0, 0⟩]
theorem fn1 : sizes 10 twoI = [5, 5] := by decide
theorem fn2 : sizes 10 oneI = [0, 10] := by decide
theorem fn3 : places 100 twoI 3 = [⟨0, 10⟩, ⟨90, 10⟩] := by decide
theorem fn4 : across 100 10 20 2 false = ⟨35, 20⟩ := by decide
theorem fn5 : across 100 10 20 4 true = ⟨0, 90⟩ := by decide
theorem fn6 : across 100 10 20 4 false = ⟨0, 20⟩ := by decide
theorem fn7 : across 100 10 20 1 true = ⟨70, 20⟩ := by decide
theorem fn8 : sizes 100 twoI = [10, 10] := by decide
set_option maxRecDepth 100000 in
set_option maxHeartbeats 8000000 in
theorem walk_FlexNumbers (w : World) : Calls Try.prog 12 #[] w fun e w' => e = .returned (.bool true) ∧ Below w.heap.size w w' := by
  have hT0 := Blk.new w 30 #[.int .i64 10, .int .i64 0, .int .i64 0, .int .i64 1, .int .i64 10, .int .i64 0, .int .i64 0, .int .i64 1]
  have hT1 := hT0.alloc (.cells #[.int .i64 10, .int .i64 0, .int .i64 0, .int .i64 1, .int .i64 10, .int .i64 0, .int .i64 0, .int .i64 0] 30)
  have hO1 := Blk.new (w.alloc (.cells #[.int .i64 10, .int .i64 0, .int .i64 0, .int .i64 1, .int .i64 10, .int .i64 0, .int .i64 0, .int .i64 1] 30)) 30 #[.int .i64 10, .int .i64 0, .int .i64 0, .int .i64 1, .int .i64 10, .int .i64 0, .int .i64 0, .int .i64 0]
  have hB1 : Below w.heap.size w ((w.alloc (.cells #[.int .i64 10, .int .i64 0, .int .i64 0, .int .i64 1, .int .i64 10, .int .i64 0, .int .i64 0, .int .i64 1] 30)).alloc (.cells #[.int .i64 10, .int .i64 0, .int .i64 0, .int .i64 1, .int .i64 10, .int .i64 0, .int .i64 0, .int .i64 0] 30)) := ((Below.refl _ _).alloc (Nat.le_refl _) _).alloc (by simp) _
  go_enter Try.func12, Try.ntmps12
  go_upto_region 3 with fail
  refine wp_forget (fun Z => Blk Z w.heap.size 30 #[.int .i64 10, .int .i64 0, .int .i64 0, .int .i64 1, .int .i64 10, .int .i64 0, .int .i64 0, .int .i64 1] ∧ Blk Z (w.heap.size + 1) 30 #[.int .i64 10, .int .i64 0, .int .i64 0, .int .i64 1, .int .i64 10, .int .i64 0, .int .i64 0, .int .i64 0] ∧ Below w.heap.size w Z) ⟨hT1, by simpa using hO1, hB1⟩ ?_
  clear hT0 hT1 hO1 hB1
  rintro w1 ⟨hT, hO, hB⟩
  have hgT := hT.lt
  have hgO := hO.lt
  have hR := Recs.blk (l := twoI) (B := w1.heap.size) it_length hT rfl hT.lt
  have hS := flex_Sizes 10 twoI _ 2 w1 (by decide) ⟨by decide, by decide⟩ hR
  rw [fn1] at hS
  simp only [twoI, List.length_cons, List.length_nil, Nat.zero_add, Nat.reduceAdd] at hS
  clear hR
  go_wp2_with fail
  refine hS.mono ?_
  clear hS
  rintro e w1a ⟨rfl, hb1, hY⟩
  replace hT := hT.below hb1 hT.lt
  replace hO := hO.below hb1 hO.lt
  replace hB := hB.trans (hb1.mono hB.size)
  clear hb1
  generalize w1.heap.size = g1 at *
  have hbA : Below w1a.heap.size w1a (w1a.alloc (.cells (ints [5, 5]) 2)) := (Below.refl _ _).alloc (Nat.le_refl _) _
  have hY2 := Ints.ofBlk (hY.alloc (.cells (ints [5, 5]) 2)) (B := (w1a.alloc (.cells (ints [5, 5]) 2)).heap.size) (hY.alloc _).lt
  have hZ2 := Ints.ofBlk (Blk.new w1a 2 (ints [5, 5])) (B := (w1a.alloc (.cells (ints [5, 5]) 2)).heap.size) (Blk.new w1a _ _).lt
  go_wp2_with fail
  refine (book_Same [5, 5] _ _ 2 2 _ _ _ (by decide) hY2 hZ2).mono ?_
  rintro e w2 ⟨rfl, hd2⟩
  have hb2 := hbA.trans (hd2.below _)
  clear hY2 hZ2 hd2 hbA hY
  replace hT := hT.below hb2 hT.lt
  replace hO := hO.below hb2 hO.lt
  replace hB := hB.trans (hb2.mono hB.size)
  clear hb2
  have hR := Recs.blk (l := oneI) (B := w2.heap.size) it_length hO rfl hO.lt
  have hS := flex_Sizes 10 oneI _ 2 w2 (by decide) ⟨by decide, by decide⟩ hR
  rw [fn2] at hS
  simp only [oneI, List.length_cons, List.length_nil, Nat.zero_add, Nat.reduceAdd] at hS
  clear hR
  go_wp2_with fail
  refine hS.mono ?_
  clear hS
  rintro e w2a ⟨rfl, hb1, hY⟩
  replace hT := hT.below hb1 hT.lt
  replace hO := hO.below hb1 hO.lt
  replace hB := hB.trans (hb1.mono hB.size)
  clear hb1
  generalize w2.heap.size = g2 at *
  have hbA : Below w2a.heap.size w2a (w2a.alloc (.cells (ints [0, 10]) 2)) := (Below.refl _ _).alloc (Nat.le_refl _) _
  have hY2 := Ints.ofBlk (hY.alloc (.cells (ints [0, 10]) 2)) (B := (w2a.alloc (.cells (ints [0, 10]) 2)).heap.size) (hY.alloc _).lt
  have hZ2 := Ints.ofBlk (Blk.new w2a 2 (ints [0, 10])) (B := (w2a.alloc (.cells (ints [0, 10]) 2)).heap.size) (Blk.new w2a _ _).lt
  go_wp2_with fail
  refine (book_Same [0, 10] _ _ 2 2 _ _ _ (by decide) hY2 hZ2).mono ?_
  rintro e w3 ⟨rfl, hd2⟩
  have hb2 := hbA.trans (hd2.below _)
  clear hY2 hZ2 hd2 hbA hY
  replace hT := hT.below hb2 hT.lt
  replace hO := hO.below hb2 hO.lt
  replace hB := hB.trans (hb2.mono hB.size)
  clear hb2
  have hR := Recs.blk (l := twoI) (B := w3.heap.size) it_length hT rfl hT.lt
  have hS := flex_Places 100 twoI _ 2 3 w3 (by decide) ⟨by decide, by decide⟩ hR
  rw [fn3] at hS
  simp only [twoI, List.length_cons, List.length_nil, Nat.zero_add, Nat.reduceAdd] at hS
  clear hR
  go_wp2_with fail
  refine hS.mono ?_
  clear hS
  rintro e w3a ⟨v3, rfl, hb1, hY⟩
  replace hT := hT.below hb1 hT.lt
  replace hO := hO.below hb1 hO.lt
  replace hB := hB.trans (hb1.mono hB.size)
  clear hb1
  obtain ⟨A3, c3, rfl, hc3⟩ := own_some hY
  have hbA : Below w3a.heap.size w3a (w3a.alloc (.cells #[.int .i64 0, .int .i64 10, .int .i64 90, .int .i64 10] 76)) := (Below.refl _ _).alloc (Nat.le_refl _) _
  have hY2 : Recs (w3a.alloc (.cells #[.int .i64 0, .int .i64 10, .int .i64 90, .int .i64 10] 76)) w3a.heap.size A3 2 Sp.cells [⟨0, 10⟩, ⟨90, 10⟩] := (Recs.of_own sp_length (by decide) hY).below hbA
  have hZ2 := Recs.blk (l := ([⟨0, 10⟩, ⟨90, 10⟩] : List Sp)) (B := (w3a.alloc (.cells #[.int .i64 0, .int .i64 10, .int .i64 90, .int .i64 10] 76)).heap.size) sp_length (Blk.new w3a 76 #[.int .i64 0, .int .i64 10, .int .i64 90, .int .i64 10]) rfl (Blk.new w3a _ _).lt
  go_wp2_with fail
  refine (span_Same [⟨0, 10⟩, ⟨90, 10⟩] _ _ c3 2 _ _ _ (by decide) (by simp [I64]) hY2 hZ2).mono ?_
  rintro e w4 ⟨rfl, hd2⟩
  have hb2 := hbA.trans (hd2.below _)
  clear hY2 hZ2 hd2 hbA hY
  replace hT := hT.below hb2 hT.lt
  replace hO := hO.below hb2 hO.lt
  replace hB := hB.trans (hb2.mono hB.size)
  clear hb2
  have hS := flex_Across 100 10 20 2 false w4
  rw [fn4] at hS
  simp only at hS
  go_wp2_with fail
  refine hS.mono ?_
  clear hS
  rintro e w5 ⟨rfl, hb1⟩
  replace hT := hT.below hb1 hT.lt
  replace hO := hO.below hb1 hO.lt
  replace hB := hB.trans (hb1.mono hB.size)
  clear hb1
  have hS := flex_Across 100 10 20 4 true w5
  rw [fn5] at hS
  simp only at hS
  go_wp2_with fail
  refine hS.mono ?_
  clear hS
  rintro e w6 ⟨rfl, hb1⟩
  replace hT := hT.below hb1 hT.lt
  replace hO := hO.below hb1 hO.lt
  replace hB := hB.trans (hb1.mono hB.size)
  clear hb1
  have hS := flex_Across 100 10 20 4 false w6
  rw [fn6] at hS
  simp only at hS
  go_wp2_with fail
  refine hS.mono ?_
  clear hS
  rintro e w7 ⟨rfl, hb1⟩
  replace hT := hT.below hb1 hT.lt
  replace hO := hO.below hb1 hO.lt
  replace hB := hB.trans (hb1.mono hB.size)
  clear hb1
  have hS := flex_Across 100 10 20 1 true w7
  rw [fn7] at hS
  simp only at hS
  go_wp2_with fail
  refine hS.mono ?_
  clear hS
  rintro e w8 ⟨rfl, hb1⟩
  replace hT := hT.below hb1 hT.lt
  replace hO := hO.below hb1 hO.lt
  replace hB := hB.trans (hb1.mono hB.size)
  clear hb1
  have hS := flex_Sizes 5 [] none 0 w8 (by decide) ⟨by decide, by decide⟩ (Recs.nil _ _ _ _ _)
  simp only [List.length_nil] at hS
  go_wp2_with fail
  refine hS.mono ?_
  clear hS
  rintro e w9 ⟨rfl, hb1, -⟩
  replace hT := hT.below hb1 hT.lt
  replace hO := hO.below hb1 hO.lt
  replace hB := hB.trans (hb1.mono hB.size)
  clear hb1
  have hS := flex_Places 5 [] none 0 3 w9 (by decide) ⟨by decide, by decide⟩ (Recs.nil _ _ _ _ _)
  simp only [List.length_nil] at hS
  go_wp2_with fail
  refine hS.mono ?_
  clear hS
  rintro e w10 ⟨v4, rfl, hb1, hY⟩
  obtain ⟨A4, c4, rfl, hc4⟩ := own_some hY
  clear hY
  replace hT := hT.below hb1 hT.lt
  replace hO := hO.below hb1 hO.lt
  replace hB := hB.trans (hb1.mono hB.size)
  clear hb1
  have hR := Recs.blk (l := twoI) (B := w10.heap.size) it_length hT rfl hT.lt
  have hS := flex_Sizes 100 twoI _ 2 w10 (by decide) ⟨by decide, by decide⟩ hR
  rw [fn8] at hS
  simp only [twoI, List.length_cons, List.length_nil, Nat.zero_add, Nat.reduceAdd] at hS
  clear hR
  go_wp2_with fail
  refine hS.mono ?_
  clear hS
  rintro e w10a ⟨rfl, hb1, hY⟩
  replace hT := hT.below hb1 hT.lt
  replace hO := hO.below hb1 hO.lt
  replace hB := hB.trans (hb1.mono hB.size)
  clear hb1
  generalize w10.heap.size = g10 at *
  have hbA : Below w10a.heap.size w10a (w10a.alloc (.cells (ints [10, 10]) 2)) := (Below.refl _ _).alloc (Nat.le_refl _) _
  have hY2 := Ints.ofBlk (hY.alloc (.cells (ints [10, 10]) 2)) (B := (w10a.alloc (.cells (ints [10, 10]) 2)).heap.size) (hY.alloc _).lt
  have hZ2 := Ints.ofBlk (Blk.new w10a 2 (ints [10, 10])) (B := (w10a.alloc (.cells (ints [10, 10]) 2)).heap.size) (Blk.new w10a _ _).lt
  go_wp2_with fail
  refine (book_Same [10, 10] _ _ 2 2 _ _ _ (by decide) hY2 hZ2).mono ?_
  rintro e w11 ⟨rfl, hd2⟩
  have hb2 := hbA.trans (hd2.below _)
  clear hY2 hZ2 hd2 hbA hY
  replace hT := hT.below hb2 hT.lt
  replace hO := hO.below hb2 hO.lt
  replace hB := hB.trans (hb2.mono hB.size)
  clear hb2
  go_wp2_with fail
  refine (known18 _).mono ?_
  rintro e w9 ⟨rfl, hb9⟩
  go_wp2_with fail
  go_ret
  exact ⟨rfl, hB.trans (hb9.mono hB.size)⟩
end Go.Proofs.Yteghacdpfhohoaa
