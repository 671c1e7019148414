/-
  Needs that are the same; casementlaw19's known.
-/
import Derived.Test.YtkoanijiihnioaaTabC
import Derived.Test.YtkoanijiihnioaaBook
import Derived.DeepKeys
namespace Go.Proofs.Ytkoanijiihnioaa
open Go.RowKit Num Mem Opn
set_option linter.unusedVariables false
set_option linter.unusedSimpArgs false
namespace Mem
theorem Recs.blk {α : Type} {w : World} {g B sz : Nat} {t : TypeId} {cs : Array Value} {fl : α → List Value} {l : List α} (hfl : ∀ x, (fl x).length = sz) (h : Blk w g t cs) (hcs : cs.toList = l.flatMap fl) (hB : g < B) : Recs w B (some ⟨g, 0, none⟩) sz fl l := fun _ =>
  ⟨g, 0, rfl, hB, fun i x hx j v hv => by rw [Nat.zero_add, h.cell, ← Array.getElem?_toList, hcs]; exact flat_get hfl hx hv⟩
def RowOk {α : Type} (w : World) (B sz : Nat) (fl : α → List Value) (v : Value) (r : List α) : Prop := ∃ A' c, v = .slice A' r.length c ∧ r.length ≤ c ∧ Recs w B A' sz fl r
def RowsOk {α : Type} (w : World) (B sz : Nat) (fl : α → List Value) : List Value → List (List α) → Prop
  | [], [] => True
  | v :: vs, r :: ls => RowOk w B sz fl v r ∧ RowsOk w B sz fl vs ls
  | _, _ => False
theorem RowsOk.get {α : Type} {w : World} {B sz : Nat} {fl : α → List Value} : ∀ {vs : List Value} {ls : List (List α)}, RowsOk w B sz fl vs ls → vs.length = ls.length ∧ ∀ (i : Nat) (r : List α), ls[i]? = some r → ∃ A' c, vs[i]? = some (Value.slice A' r.length c) ∧ r.length ≤ c ∧ Recs w B A' sz fl r
  | [], [], _ => ⟨rfl, fun i r h => by simp at h⟩
  | v :: vs, r :: ls, h => by
    obtain ⟨⟨A', c, rfl, h1, h2⟩, h3⟩ := h
    obtain ⟨h4, h5⟩ := RowsOk.get h3
    refine ⟨by simp [h4], fun i q hq => ?_⟩
    cases i with
    | zero =>
      have : r = q := by simpa using hq
      subst this
      exact ⟨A', c, rfl, h1, h2⟩
    | succ i => exact h5 i q (by simpa using hq)
  | [], _ :: _, h => h.elim
  | _ :: _, [], h => h.elim
theorem Rows2.of {α : Type} {w : World} {B sz : Nat} {A : Option Addr} {fl : α → List Value} {vs : List Value} {ls : List (List α)} (hs : Seg w B A vs) (h : RowsOk w B sz fl vs ls) : Rows2 w B A sz fl vs ls :=
  ⟨h.get.1, hs, h.get.2⟩
end Mem
namespace Num
theorem bet_mem {m : Int} {l : List Nd} (hm : 0 ≤ m) (h : ∀ x ∈ l, 0 ≤ x.least ∧ x.least ≤ m ∧ 0 ≤ x.most ∧ x.most ≤ m) : Bet m l := by
  intro i
  rw [List.getD_eq_getElem?_getD]
  cases hx : l[i]? with
  | none => simp [nd0, hm]
  | some x => exact h x (List.mem_of_getElem? hx)
theorem le_mem {l : List Nd} (h : ∀ x ∈ l, x.least ≤ x.most) (i : Nat) : (l.getD i nd0).least ≤ (l.getD i nd0).most := by
  rw [List.getD_eq_getElem?_getD]
  cases hx : l[i]? with
  | none => simp [nd0]
  | some x => exact h x (List.mem_of_getElem? hx)
end Num
theorem wf_of_i64 {a : Int} (h : Opn.I64 a) : (Lit.int .i64 a).wf = true := by
  obtain ⟨h1, h2⟩ := h
  simp [Lit.wf, IntKind.min, IntKind.max, IntKind.signed, IntKind.bits]
  omega
set_option maxRecDepth 100000 in
set_option maxHeartbeats 4000000 in
theorem lits_need (ya : Int) (yb : Int) (hya : Opn.I64 ya) (hyb : Opn.I64 yb) : ∃ la, Try.prog.keyLits 6 58 (#[Value.int .i64 ya, Value.int .i64 yb] : Array Value).toList = some la := by
  have hfs : Try.prog.underlying 58 = some (.struct (Try.prog.fieldsOf 58)) := by kernel_rfl
  have hcs : Try.prog.cellsOf 58 = 2 := by kernel_rfl
  have hcsi : Try.prog.cellsOf 2 = 1 := by kernel_rfl
  have ki : ∀ (x : Int), (Lit.int .i64 x).wf = true → Try.prog.keyLits 5 2 [.int .i64 x] = some [.int .i64 x] := by
    intro x hx
    simp [Program.keyLits, Try.underlying2, hx]
  rw [show (6 : Nat) = 5 + 1 from rfl]
  unfold Program.keyLits
  rw [hfs]
  dsimp only
  rw [if_pos ⟨by rw [hcs]; rfl, by kernel_rfl⟩]
  have hF : (Try.prog.fieldsOf 58).toList.map (fun f => (f.type, f.offset)) = [(2, 0), (2, 1)] := by kernel_rfl
  have hM : ∀ (fs : List Field) (l : List (TypeId × Nat)), fs.map (fun f => (f.type, f.offset)) = l → (fs.mapM fun f => Try.prog.keyLits 5 f.type (((#[Value.int .i64 ya, Value.int .i64 yb] : Array Value).toList.drop f.offset).take (Try.prog.cellsOf f.type))) = (l.mapM fun f => Try.prog.keyLits 5 f.1 (((#[Value.int .i64 ya, Value.int .i64 yb] : Array Value).toList.drop f.2).take (Try.prog.cellsOf f.1))) := by
    intro fs l e
    subst e
    rw [List.mapM_map]
    rfl
  rw [hM _ _ hF]
  simp only [List.mapM_cons, List.mapM_nil, hcsi]
  rw [show (((#[Value.int .i64 ya, Value.int .i64 yb] : Array Value).toList.drop 0).take 1) = [Value.int .i64 ya] from rfl]
  rw [show (((#[Value.int .i64 ya, Value.int .i64 yb] : Array Value).toList.drop 1).take 1) = [Value.int .i64 yb] from rfl]
  rw [ki ya (wf_of_i64 hya)]
  rw [ki yb (wf_of_i64 hyb)]
  exact ⟨_, rfl⟩
theorem eq_need (ya : Int) (yb : Int) (hya : Opn.I64 ya) (hyb : Opn.I64 yb) (w : World) : (Op.equalIn 10000 58 (.agg #[Value.int .i64 ya, Value.int .i64 yb]) (.agg #[Value.int .i64 ya, Value.int .i64 yb])).run Try.prog w = .ok true w := by
  obtain ⟨la, hla⟩ := lits_need ya yb hya hyb
  obtain ⟨r, hr, hi⟩ := run_equalIn_deep (P := Try.prog) 9994 6 58 (by kernel_rfl) w 6 6 (.agg #[Value.int .i64 ya, Value.int .i64 yb]) (.agg #[Value.int .i64 ya, Value.int .i64 yb]) la la (by kernel_rfl) (by kernel_rfl) hla hla
  rw [hr, hi.2 rfl]
theorem neq_need (ya : Int) (yb : Int) (hya : Opn.I64 ya) (hyb : Opn.I64 yb) (w : World) : (binOp .neq 58 (.agg #[Value.int .i64 ya, Value.int .i64 yb]) (.agg #[Value.int .i64 ya, Value.int .i64 yb])).run Try.prog w = .ok (.bool false) w := by
  have := eq_need ya yb hya hyb w
  simp only [binOp, Op.equal, Op.maxDepth, Sem.run_bind, this, Result.andThen_ok]
  rfl
theorem eql_need (ya : Int) (yb : Int) (hya : Opn.I64 ya) (hyb : Opn.I64 yb) (w : World) : (binOp .eql 58 (.agg #[Value.int .i64 ya, Value.int .i64 yb]) (.agg #[Value.int .i64 ya, Value.int .i64 yb])).run Try.prog w = .ok (.bool true) w := by
  have := eq_need ya yb hya hyb w
  simp only [binOp, Op.equal, Op.maxDepth, Sem.run_bind, this, Result.andThen_ok]
  rfl
theorem info_nd_list (a b : Int) : (Try.prog.info? 58).map (·.size) = some (nd2 a b).toList.length := info_nd2 a b
theorem nd_range {w : World} {B : Nat} {A : Option Addr} {P : List Nd} (h : Recs w B A 2 Nd.cells P) {k : Nat} (hk : k < P.length) :
    ∃ b off, A = some ⟨b, off, none⟩ ∧ b < B ∧ w.rangeAt b (off + k * 2) (nd2 (P[k]'hk).least (P[k]'hk).most).toList := by
  obtain ⟨b, off, e, hb, hc⟩ := h (by rintro rfl; simp at hk)
  exact ⟨b, off, e, hb, fun j v hv => hc k _ (List.getElem?_eq_getElem hk) j v hv⟩
set_option maxRecDepth 100000 in
theorem need_Same (P : List Nd) (A A' : Option Addr) (c c' B B' : Nat) (w : World) (hl : P.length ≤ 35184372088832) (hok : ∀ y ∈ P, I64 y.least ∧ I64 y.most) (hA : Recs w B A 2 Nd.cells P) (hA' : Recs w B' A' 2 Nd.cells P) :
    Calls Try.prog 29 #[.slice A P.length c, .slice A' P.length c'] w fun e w' => e = .returned (.bool true) ∧ Drawn w w' := by
  go_enter Try.func29, Try.ntmps29
  go_wp2
  go_loopw [5] (fun i wr => ∃ k : Nat, k ≤ P.length ∧ i = .int .i64 k ∧ Drawn w wr) (fun i _ => P.length - (intOf i).toNat)
  case atStart => exact ⟨0, Nat.zero_le _, rfl, .refl _⟩
  case round =>
    obtain ⟨k, hk, rfl, HW⟩ := hrel
    by_cases hlt : k < P.length
    · obtain ⟨b, off, rfl, hb, hr⟩ := nd_range (hA.drawn HW) hlt
      obtain ⟨b', off', rfl, hb', hr'⟩ := nd_range (hA'.drawn HW) hlt
      obtain ⟨y, hy⟩ : ∃ y, P[k]'hlt = y := ⟨_, rfl⟩
      have hyy := hok _ (List.getElem_mem hlt)
      rw [hy] at hr hr' hyy
      clear hy
      obtain ⟨ya, yb⟩ := y
      simp only at hr hr' hyy
      have hneq : ∀ w, (binOp .neq 58 (.agg (nd2 ya yb)) (.agg (nd2 ya yb))).run Try.prog w = .ok (.bool false) w := neq_need ya yb hyy.1 hyy.2
      have hSQ : (fun Z : World => Z.rangeAt b (off + k * 2) (nd2 ya yb).toList ∧ Z.rangeAt b' (off' + k * 2) (nd2 ya yb).toList) wr.drew := ⟨hr, hr'⟩
      go_upto_region 6 with fail
      refine wp_region_noPanic ?_
      refine Ord.region_Q (S := fun Z : World => Z.rangeAt b (off + k * 2) (nd2 ya yb).toList ∧ Z.rangeAt b' (off' + k * 2) (nd2 ya yb).toList) 999 (.one 0 true (.one 1 true (.one 2 true (.one 3 true (.one 4 true (.one 5 true (.one 6 true (.one 7 true (.one 8 true .nil))))))))) (by kernel_rfl) (by kernel_rfl) (by kernel_rfl) (by decide) (fun _ _ _ _ _ h => h) (hSQ) (fun hS0 => ?_)
      simp only [Ord.layT, List.getElem?_cons_zero, List.getElem?_cons_succ]
      (refine Ord.takeQ (v := ?_) (Or.inl ⟨rfl, ?_⟩) ?_; rotate_left; (intro w hSw; (try dsimp only at hSw); go_simp; try (with_reducible rfl)); (try simp only [Act.put, List.setIfInBounds_toArray, List.set_cons_zero, List.set_cons_succ]))
      (refine Ord.takeQ (v := ?_) (Or.inl ⟨rfl, ?_⟩) ?_; rotate_left; (intro w hSw; (try dsimp only at hSw); go_simp; try (with_reducible rfl)); (try simp only [Act.put, List.setIfInBounds_toArray, List.set_cons_zero, List.set_cons_succ]))
      (refine Ord.takeQ (v := ?_) (Or.inl ⟨rfl, ?_⟩) ?_; rotate_left; (intro w hSw; (try dsimp only at hSw); go_simp; try (with_reducible rfl)); (try simp only [Act.put, List.setIfInBounds_toArray, List.set_cons_zero, List.set_cons_succ]))
      (refine Ord.takeQ (yieldsIf_load_mid rfl _ _ rfl b (off + k * 2) rfl _ _ (fun w' h => h.1) Try.underlying58 rfl (info_nd_list _ _)) ?_; (try simp only [Act.put, List.setIfInBounds_toArray, List.set_cons_zero, List.set_cons_succ]))
      (refine Ord.takeQ (v := ?_) (Or.inl ⟨rfl, ?_⟩) ?_; rotate_left; (intro w hSw; (try dsimp only at hSw); go_simp; try (with_reducible rfl)); (try simp only [Act.put, List.setIfInBounds_toArray, List.set_cons_zero, List.set_cons_succ]))
      (refine Ord.takeQ (v := ?_) (Or.inl ⟨rfl, ?_⟩) ?_; rotate_left; (intro w hSw; (try dsimp only at hSw); go_simp; try (with_reducible rfl)); (try simp only [Act.put, List.setIfInBounds_toArray, List.set_cons_zero, List.set_cons_succ]))
      (refine Ord.takeQ (v := ?_) (Or.inl ⟨rfl, ?_⟩) ?_; rotate_left; (intro w hSw; (try dsimp only at hSw); go_simp; try (with_reducible rfl)); (try simp only [Act.put, List.setIfInBounds_toArray, List.set_cons_zero, List.set_cons_succ]))
      (refine Ord.takeQ (yieldsIf_load_mid rfl _ _ rfl b' (off' + k * 2) rfl _ _ (fun w' h => h.2) Try.underlying58 rfl (info_nd_list _ _)) ?_; (try simp only [Act.put, List.setIfInBounds_toArray, List.set_cons_zero, List.set_cons_succ]))
      (refine Ord.takeQ (v := ?_) (Or.inl ⟨rfl, ?_⟩) ?_; rotate_left; (intro w hSw; (try dsimp only at hSw); go_simp; try (with_reducible rfl)); (try simp only [Act.put, List.setIfInBounds_toArray, List.set_cons_zero, List.set_cons_succ]))
      refine Ord.doneQ (NoPanic.normal ?_)
      clear hSQ
      go_wp2_with fail
      go_roundw
      case rel => exact ⟨k + 1, by omega, by go_num, HW.drew⟩
      case measure => simp [intOf]; omega
    · obtain rfl : k = P.length := by omega
      go_wp2_with fail
      go_ret
      exact ⟨rfl, HW⟩
theorem tk1 : cols [[⟨1, 5⟩, ⟨2, 2⟩], [⟨3, 3⟩]] = [⟨3, 5⟩, ⟨2, 2⟩] := by decide
theorem tk2 : widths 1000 [⟨64, 640⟩, ⟨64, 64⟩] true = [788, 212] := by decide
set_option maxRecDepth 100000 in
set_option maxHeartbeats 4000000 in
theorem known19 (w : World) : Calls Try.prog 28 #[] w fun e w' => e = .returned (.bool true) ∧ Below w.heap.size w w' := by
  go_enter Try.func28, Try.ntmps28
  have hX0 := ((Blk.new w 58 #[.int .i64 1, .int .i64 5, .int .i64 2, .int .i64 2]).alloc (.cells #[.int .i64 3, .int .i64 3] 58)).alloc (.cells #[.slice (some ⟨w.heap.size, 0, none⟩) 2 2, .slice (some ⟨w.heap.size + 1, 0, none⟩) 1 1] 53)
  have hX1 := (Blk.new (w.alloc (.cells #[.int .i64 1, .int .i64 5, .int .i64 2, .int .i64 2] 58)) 58 #[.int .i64 3, .int .i64 3]).alloc (.cells #[.slice (some ⟨w.heap.size, 0, none⟩) 2 2, .slice (some ⟨w.heap.size + 1, 0, none⟩) 1 1] 53)
  have hX2 := Blk.new ((w.alloc (.cells #[.int .i64 1, .int .i64 5, .int .i64 2, .int .i64 2] 58)).alloc (.cells #[.int .i64 3, .int .i64 3] 58)) 53 #[.slice (some ⟨w.heap.size, 0, none⟩) 2 2, .slice (some ⟨w.heap.size + 1, 0, none⟩) 1 1]
  have hB : Below w.heap.size w (((w.alloc (.cells #[.int .i64 1, .int .i64 5, .int .i64 2, .int .i64 2] 58)).alloc (.cells #[.int .i64 3, .int .i64 3] 58)).alloc (.cells #[.slice (some ⟨w.heap.size, 0, none⟩) 2 2, .slice (some ⟨w.heap.size + 1, 0, none⟩) 1 1] 53)) := (((Below.refl _ _).alloc (Nat.le_refl _) _).alloc (by simp) _).alloc (by simp; omega) _
  simp only [World.size_alloc] at hX1 hX2
  go_wp2_with fail
  generalize hwe : ((w.alloc (.cells #[.int .i64 1, .int .i64 5, .int .i64 2, .int .i64 2] 58)).alloc (.cells #[.int .i64 3, .int .i64 3] 58)).alloc (.cells #[.slice (some ⟨w.heap.size, 0, none⟩) 2 2, .slice (some ⟨w.heap.size + 1, 0, none⟩) 1 1] 53) = w3 at *
  clear hwe
  have hR : Rows2 w3 w3.heap.size (some ⟨w.heap.size + 1 + 1, 0, none⟩) 2 Nd.cells [.slice (some ⟨w.heap.size, 0, none⟩) 2 2, .slice (some ⟨w.heap.size + 1, 0, none⟩) 1 1] [[⟨1, 5⟩, ⟨2, 2⟩], [⟨3, 3⟩]] :=
    Rows2.of (Seg.ofBlk hX2 hX2.lt) ⟨⟨_, _, rfl, by decide, Recs.blk nd_length hX0 rfl hX0.lt⟩, ⟨_, _, rfl, by decide, Recs.blk nd_length hX1 rfl hX1.lt⟩, trivial⟩
  have hcl := table_Columns [[⟨1, 5⟩, ⟨2, 2⟩], [⟨3, 3⟩]] _ _ 2 w3 (by decide) hR (by simp)
  rw [tk1] at hcl
  simp only [List.length_cons, List.length_nil, Nat.zero_add, Nat.reduceAdd] at hcl
  refine hcl.mono ?_
  clear hcl hR hX0 hX1 hX2
  rintro e w4 ⟨v, rfl, hb4, ho⟩
  replace hB := hB.trans (hb4.mono hB.size)
  clear hb4
  obtain ⟨A4, c4, rfl, hc4⟩ := own_some ho
  have hbA : Below w4.heap.size w4 (w4.alloc (.cells #[.int .i64 3, .int .i64 5, .int .i64 2, .int .i64 2] 58)) := (Below.refl _ _).alloc (Nat.le_refl _) _
  have hY := (Recs.of_own nd_length (by decide) ho).below hbA
  have hZ := Recs.blk (l := ([⟨3, 5⟩, ⟨2, 2⟩] : List Nd)) (B := (w4.alloc (.cells #[.int .i64 3, .int .i64 5, .int .i64 2, .int .i64 2] 58)).heap.size) nd_length (Blk.new w4 58 #[.int .i64 3, .int .i64 5, .int .i64 2, .int .i64 2]) rfl (Blk.new w4 _ _).lt
  go_wp2_with fail
  refine (need_Same [⟨3, 5⟩, ⟨2, 2⟩] _ _ c4 2 _ _ _ (by decide) (by simp [I64]) hY hZ).mono ?_
  rintro e w5 ⟨rfl, hd5⟩
  have hB5 := (hB.trans (hbA.mono hB.size)).trans (hd5.below _)
  clear hY hZ hbA hd5 ho hB
  have hX := Blk.new w5 58 #[.int .i64 64, .int .i64 640, .int .i64 64, .int .i64 64]
  have hbA : Below w5.heap.size w5 (w5.alloc (.cells #[.int .i64 64, .int .i64 640, .int .i64 64, .int .i64 64] 58)) := (Below.refl _ _).alloc (Nat.le_refl _) _
  have hR := Recs.blk (l := ([⟨64, 640⟩, ⟨64, 64⟩] : List Nd)) (B := (w5.alloc (.cells #[.int .i64 64, .int .i64 640, .int .i64 64, .int .i64 64] 58)).heap.size) nd_length hX rfl hX.lt
  have hwd := table_Widths 1000 [⟨64, 640⟩, ⟨64, 64⟩] _ 2 true _ (by decide) (bet_mem (by decide) (by simp)) (le_mem (by simp)) ⟨by decide, by decide⟩ hR
  rw [tk2] at hwd
  simp only [List.length_cons, List.length_nil, Nat.zero_add, Nat.reduceAdd] at hwd
  clear hR hX
  go_wp2_with fail
  refine hwd.mono ?_
  clear hwd
  rintro e w6 ⟨g6, hg6, rfl, hb6, hY⟩
  have hB6 := (hB5.trans (hbA.mono hB5.size)).trans (hb6.mono (by have := hB5.size; simp; omega))
  clear hb6 hbA hB5 hg6
  have hbA : Below w6.heap.size w6 (w6.alloc (.cells (ints [788, 212]) 2)) := (Below.refl _ _).alloc (Nat.le_refl _) _
  have hY2 := Ints.ofBlk (hY.alloc (.cells (ints [788, 212]) 2)) (B := (w6.alloc (.cells (ints [788, 212]) 2)).heap.size) (hY.alloc _).lt
  have hZ2 := Ints.ofBlk (Blk.new w6 2 (ints [788, 212])) (B := (w6.alloc (.cells (ints [788, 212]) 2)).heap.size) (Blk.new w6 _ _).lt
  go_wp2_with fail
  refine (book_Same [788, 212] _ _ 2 2 _ _ _ (by decide) hY2 hZ2).mono ?_
  rintro e w7 ⟨rfl, hd7⟩
  go_wp2_with fail
  go_ret
  exact ⟨rfl, (hB6.trans (hbA.mono hB6.size)).trans (hd7.below _)⟩
end Go.Proofs.Ytkoanijiihnioaa
