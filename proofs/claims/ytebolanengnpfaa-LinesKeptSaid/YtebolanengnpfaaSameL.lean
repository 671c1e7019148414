/-
  Lines and runs are themselves; lists of them are the same.
-/
import Derived.Test.YtebolanengnpfaaSet
import Derived.Test.YtebolanengnpfaaFresh
import Derived.Test.YtebolanengnpfaaOrdQ
import Derived.DeepKeys
namespace Go.Proofs.Ytebolanengnpfaa
open Go.RowKit Num Mem Opn
set_option linter.unusedVariables false
set_option linter.unusedSimpArgs false
namespace Num
def Rn.arr (r : Rn) : Array Value := #[.int .i64 r.piece, .int .i64 r.x, .int .i64 r.y, .int .i64 r.w, .int .i64 r.h]
end Num
def okL (x : Ln) : Prop := I64 x.from_ ∧ I64 x.to ∧ I64 x.width ∧ I64 x.height
def okR (x : Rn) : Prop := I64 x.piece ∧ I64 x.x ∧ I64 x.y ∧ I64 x.w ∧ I64 x.h
theorem wf_of_i64 {a : Int} (h : Opn.I64 a) : (Lit.int .i64 a).wf = true := by
  obtain ⟨h1, h2⟩ := h
  simp [Lit.wf, IntKind.min, IntKind.max, IntKind.signed, IntKind.bits]
  omega
set_option maxRecDepth 100000 in
set_option maxHeartbeats 4000000 in
theorem lits_lin (a : Int) (b : Int) (c : Int) (d : Int) (ha : Opn.I64 a) (hb : Opn.I64 b) (hc : Opn.I64 c) (hd : Opn.I64 d) : ∃ la, Try.prog.keyLits 6 43 (#[Value.int .i64 a, Value.int .i64 b, Value.int .i64 c, Value.int .i64 d] : Array Value).toList = some la := by
  have hfs : Try.prog.underlying 43 = some (.struct (Try.prog.fieldsOf 43)) := by kernel_rfl
  have hcs : Try.prog.cellsOf 43 = 4 := by kernel_rfl
  have hcsi : Try.prog.cellsOf 2 = 1 := by kernel_rfl
  have ki : ∀ (x : Int), (Lit.int .i64 x).wf = true → Try.prog.keyLits 5 2 [.int .i64 x] = some [.int .i64 x] := by
    intro x hx
    simp [Program.keyLits, Try.underlying2, hx]
  have hcsn : Try.prog.cellsOf 3 = 1 := by kernel_rfl
  have kn : ∀ (x : Int), (Lit.int .i64 x).wf = true → Try.prog.keyLits 5 3 [.int .i64 x] = some [.int .i64 x] := by
    intro x hx
    simp [Program.keyLits, Try.underlying3, hx]
  rw [show (6 : Nat) = 5 + 1 from rfl]
  unfold Program.keyLits
  rw [hfs]
  dsimp only
  rw [if_pos ⟨by rw [hcs]; rfl, by kernel_rfl⟩]
  have hF : (Try.prog.fieldsOf 43).toList.map (fun f => (f.type, f.offset)) = [(3, 0), (3, 1), (2, 2), (2, 3)] := by kernel_rfl
  have hM : ∀ (fs : List Field) (l : List (TypeId × Nat)), fs.map (fun f => (f.type, f.offset)) = l → (fs.mapM fun f => Try.prog.keyLits 5 f.type (((#[Value.int .i64 a, Value.int .i64 b, Value.int .i64 c, Value.int .i64 d] : Array Value).toList.drop f.offset).take (Try.prog.cellsOf f.type))) = (l.mapM fun f => Try.prog.keyLits 5 f.1 (((#[Value.int .i64 a, Value.int .i64 b, Value.int .i64 c, Value.int .i64 d] : Array Value).toList.drop f.2).take (Try.prog.cellsOf f.1))) := by
    intro fs l e
    subst e
    rw [List.mapM_map]
    rfl
  rw [hM _ _ hF]
  simp only [List.mapM_cons, List.mapM_nil, hcsi, hcsn]
  rw [show (((#[Value.int .i64 a, Value.int .i64 b, Value.int .i64 c, Value.int .i64 d] : Array Value).toList.drop 0).take 1) = [Value.int .i64 a] from rfl]
  rw [show (((#[Value.int .i64 a, Value.int .i64 b, Value.int .i64 c, Value.int .i64 d] : Array Value).toList.drop 1).take 1) = [Value.int .i64 b] from rfl]
  rw [show (((#[Value.int .i64 a, Value.int .i64 b, Value.int .i64 c, Value.int .i64 d] : Array Value).toList.drop 2).take 1) = [Value.int .i64 c] from rfl]
  rw [show (((#[Value.int .i64 a, Value.int .i64 b, Value.int .i64 c, Value.int .i64 d] : Array Value).toList.drop 3).take 1) = [Value.int .i64 d] from rfl]
  rw [kn a (wf_of_i64 ha)]
  rw [kn b (wf_of_i64 hb)]
  rw [ki c (wf_of_i64 hc)]
  rw [ki d (wf_of_i64 hd)]
  exact ⟨_, rfl⟩
theorem eq_lin (a : Int) (b : Int) (c : Int) (d : Int) (ha : Opn.I64 a) (hb : Opn.I64 b) (hc : Opn.I64 c) (hd : Opn.I64 d) (w : World) : (Op.equalIn 10000 43 (.agg #[Value.int .i64 a, Value.int .i64 b, Value.int .i64 c, Value.int .i64 d]) (.agg #[Value.int .i64 a, Value.int .i64 b, Value.int .i64 c, Value.int .i64 d])).run Try.prog w = .ok true w := by
  obtain ⟨la, hla⟩ := lits_lin a b c d ha hb hc hd
  obtain ⟨r, hr, hi⟩ := run_equalIn_deep (P := Try.prog) 9994 6 43 (by kernel_rfl) w 6 6 (.agg #[Value.int .i64 a, Value.int .i64 b, Value.int .i64 c, Value.int .i64 d]) (.agg #[Value.int .i64 a, Value.int .i64 b, Value.int .i64 c, Value.int .i64 d]) la la (by kernel_rfl) (by kernel_rfl) hla hla
  rw [hr, hi.2 rfl]
theorem neq_lin (a : Int) (b : Int) (c : Int) (d : Int) (ha : Opn.I64 a) (hb : Opn.I64 b) (hc : Opn.I64 c) (hd : Opn.I64 d) (w : World) : (binOp .neq 43 (.agg #[Value.int .i64 a, Value.int .i64 b, Value.int .i64 c, Value.int .i64 d]) (.agg #[Value.int .i64 a, Value.int .i64 b, Value.int .i64 c, Value.int .i64 d])).run Try.prog w = .ok (.bool false) w := by
  have := eq_lin a b c d ha hb hc hd w
  simp only [binOp, Op.equal, Op.maxDepth, Sem.run_bind, this, Result.andThen_ok]
  rfl
theorem eql_lin (a : Int) (b : Int) (c : Int) (d : Int) (ha : Opn.I64 a) (hb : Opn.I64 b) (hc : Opn.I64 c) (hd : Opn.I64 d) (w : World) : (binOp .eql 43 (.agg #[Value.int .i64 a, Value.int .i64 b, Value.int .i64 c, Value.int .i64 d]) (.agg #[Value.int .i64 a, Value.int .i64 b, Value.int .i64 c, Value.int .i64 d])).run Try.prog w = .ok (.bool true) w := by
  have := eq_lin a b c d ha hb hc hd w
  simp only [binOp, Op.equal, Op.maxDepth, Sem.run_bind, this, Result.andThen_ok]
  rfl
theorem neq_line (y : Ln) (h : okL y) (w : World) : (binOp .neq 43 (.agg y.arr) (.agg y.arr)).run Try.prog w = .ok (.bool false) w := by
  obtain ⟨a, b, c, d⟩ := y
  exact neq_lin a b c d h.1 h.2.1 h.2.2.1 h.2.2.2 w
set_option maxRecDepth 100000 in
set_option maxHeartbeats 4000000 in
theorem lits_rct (x : Int) (y : Int) (u : Int) (h : Int) (hx : Opn.I64 x) (hy : Opn.I64 y) (hu : Opn.I64 u) (hh : Opn.I64 h) : ∃ la, Try.prog.keyLits 5 59 (#[Value.int .i64 x, Value.int .i64 y, Value.int .i64 u, Value.int .i64 h] : Array Value).toList = some la := by
  have hfs : Try.prog.underlying 59 = some (.struct (Try.prog.fieldsOf 59)) := by kernel_rfl
  have hcs : Try.prog.cellsOf 59 = 4 := by kernel_rfl
  have hcsi : Try.prog.cellsOf 2 = 1 := by kernel_rfl
  have ki : ∀ (x : Int), (Lit.int .i64 x).wf = true → Try.prog.keyLits 4 2 [.int .i64 x] = some [.int .i64 x] := by
    intro x hx
    simp [Program.keyLits, Try.underlying2, hx]
  rw [show (5 : Nat) = 4 + 1 from rfl]
  unfold Program.keyLits
  rw [hfs]
  dsimp only
  rw [if_pos ⟨by rw [hcs]; rfl, by kernel_rfl⟩]
  have hF : (Try.prog.fieldsOf 59).toList.map (fun f => (f.type, f.offset)) = [(2, 0), (2, 1), (2, 2), (2, 3)] := by kernel_rfl
  have hM : ∀ (fs : List Field) (l : List (TypeId × Nat)), fs.map (fun f => (f.type, f.offset)) = l → (fs.mapM fun f => Try.prog.keyLits 4 f.type (((#[Value.int .i64 x, Value.int .i64 y, Value.int .i64 u, Value.int .i64 h] : Array Value).toList.drop f.offset).take (Try.prog.cellsOf f.type))) = (l.mapM fun f => Try.prog.keyLits 4 f.1 (((#[Value.int .i64 x, Value.int .i64 y, Value.int .i64 u, Value.int .i64 h] : Array Value).toList.drop f.2).take (Try.prog.cellsOf f.1))) := by
    intro fs l e
    subst e
    rw [List.mapM_map]
    rfl
  rw [hM _ _ hF]
  simp only [List.mapM_cons, List.mapM_nil, hcsi]
  rw [show (((#[Value.int .i64 x, Value.int .i64 y, Value.int .i64 u, Value.int .i64 h] : Array Value).toList.drop 0).take 1) = [Value.int .i64 x] from rfl]
  rw [show (((#[Value.int .i64 x, Value.int .i64 y, Value.int .i64 u, Value.int .i64 h] : Array Value).toList.drop 1).take 1) = [Value.int .i64 y] from rfl]
  rw [show (((#[Value.int .i64 x, Value.int .i64 y, Value.int .i64 u, Value.int .i64 h] : Array Value).toList.drop 2).take 1) = [Value.int .i64 u] from rfl]
  rw [show (((#[Value.int .i64 x, Value.int .i64 y, Value.int .i64 u, Value.int .i64 h] : Array Value).toList.drop 3).take 1) = [Value.int .i64 h] from rfl]
  rw [ki x (wf_of_i64 hx)]
  rw [ki y (wf_of_i64 hy)]
  rw [ki u (wf_of_i64 hu)]
  rw [ki h (wf_of_i64 hh)]
  exact ⟨_, rfl⟩

set_option maxRecDepth 100000 in
set_option maxHeartbeats 4000000 in
theorem lits_run (y : Rn) (h : okR y) : ∃ la, Try.prog.keyLits 6 61 y.arr.toList = some la := by
  obtain ⟨h0, h1, h2, h3, h4⟩ := h
  obtain ⟨ls, hs⟩ := lits_rct y.x y.y y.w y.h h1 h2 h3 h4
  have hfs : Try.prog.underlying 61 = some (.struct (Try.prog.fieldsOf 61)) := by kernel_rfl
  have hcs : Try.prog.cellsOf 61 = 5 := by kernel_rfl
  have hcs1 : Try.prog.cellsOf 3 = 1 := by kernel_rfl
  have hcs4 : Try.prog.cellsOf 59 = 4 := by kernel_rfl
  have ki : ∀ (x : Int), (Lit.int .i64 x).wf = true → Try.prog.keyLits 5 3 [.int .i64 x] = some [.int .i64 x] := by
    intro x hx
    simp [Program.keyLits, Try.underlying3, hx]
  have hdrop : (y.arr.toList.drop 1).take 4 = (#[Value.int .i64 y.x, Value.int .i64 y.y, Value.int .i64 y.w, Value.int .i64 y.h] : Array Value).toList := rfl
  rw [show (6 : Nat) = 5 + 1 from rfl]
  unfold Program.keyLits
  rw [hfs]
  dsimp only
  rw [if_pos ⟨by rw [hcs]; rfl, by kernel_rfl⟩]
  have hF : (Try.prog.fieldsOf 61).toList.map (fun f => (f.type, f.offset)) = [(3, 0), (59, 1)] := by kernel_rfl
  have hM : ∀ (fs : List Field) (l : List (TypeId × Nat)), fs.map (fun f => (f.type, f.offset)) = l → (fs.mapM fun f => Try.prog.keyLits 5 f.type ((y.arr.toList.drop f.offset).take (Try.prog.cellsOf f.type))) = (l.mapM fun f => Try.prog.keyLits 5 f.1 ((y.arr.toList.drop f.2).take (Try.prog.cellsOf f.1))) := by
    intro fs l e
    subst e
    rw [List.mapM_map]
    rfl
  rw [hM _ _ hF]
  simp only [List.mapM_cons, List.mapM_nil, hcs1, hcs4, hdrop, hs]
  rw [show (y.arr.toList.drop 0).take 1 = [.int .i64 y.piece] from rfl]
  rw [ki _ (wf_of_i64 h0)]
  exact ⟨_, rfl⟩
theorem neq_run (y : Rn) (h : okR y) (w : World) : (binOp .neq 61 (.agg y.arr) (.agg y.arr)).run Try.prog w = .ok (.bool false) w := by
  obtain ⟨la, hla⟩ := lits_run y h
  obtain ⟨q, hq, hi⟩ := run_equalIn_deep (P := Try.prog) 9994 6 61 (by kernel_rfl) w 6 6 (.agg y.arr) (.agg y.arr) la la (by kernel_rfl) (by kernel_rfl) hla hla
  have : (Op.equalIn 10000 61 (.agg y.arr) (.agg y.arr)).run Try.prog w = .ok true w := by rw [hq, hi.2 rfl]
  simp only [binOp, Op.equal, Op.maxDepth, Sem.run_bind, this, Result.andThen_ok]
  rfl

theorem info_line_arr (x : Ln) : (Try.prog.info? 43).map (·.size) = some x.arr.size := by kernel_rfl
theorem info_line_list (x : Ln) : (Try.prog.info? 43).map (·.size) = some x.arr.toList.length := info_line_arr x
theorem line_one (x : Ln) : x.arr.all (·.oneCell') = true := by simp [Ln.arr, Value.oneCell']
theorem line_length (x : Ln) : x.cells.length = 4 := rfl
theorem cells_one_line (X : List Ln) : ∀ u ∈ X.flatMap Ln.cells, u.oneCell' = true := by
  intro u hu
  obtain ⟨x, _, hx⟩ := List.mem_flatMap.1 hu
  have := Array.all_eq_true.1 (line_one x)
  obtain ⟨i, hi, rfl⟩ := List.getElem_of_mem (show u ∈ x.arr.toList from hx)
  exact this i (by simpa using hi)
theorem line_range {w : World} {B : Nat} {A : Option Addr} {P : List Ln} (h : Recs w B A 4 Ln.cells P) {k : Nat} (hk : k < P.length) :
    ∃ b off, A = some ⟨b, off, none⟩ ∧ b < B ∧ w.rangeAt b (off + k * 4) (P[k]'hk).arr.toList := by
  obtain ⟨b, off, e, hb, hc⟩ := h (by rintro rfl; simp at hk)
  exact ⟨b, off, e, hb, fun j v hv => hc k _ (List.getElem?_eq_getElem hk) j v hv⟩
set_option maxRecDepth 100000 in
theorem line_Same (P : List Ln) (A A' : Option Addr) (c c' B B' : Nat) (w : World) (hl : P.length ≤ 35184372088832) (hok : ∀ y ∈ P, okL y) (hA : Recs w B A 4 Ln.cells P) (hA' : Recs w B' A' 4 Ln.cells P) :
    Calls Try.prog 43 #[.slice A P.length c, .slice A' P.length c'] w fun e w' => e = .returned (.bool true) ∧ Drawn w w' := by
  go_enter Try.func43, Try.ntmps43
  go_wp2
  go_loopw [5] (fun i wr => ∃ k : Nat, k ≤ P.length ∧ i = .int .i64 k ∧ Drawn w wr) (fun i _ => P.length - (intOf i).toNat)
  case atStart => exact ⟨0, Nat.zero_le _, rfl, .refl _⟩
  case round =>
    obtain ⟨k, hk, rfl, HW⟩ := hrel
    by_cases hlt : k < P.length
    · obtain ⟨b, off, rfl, hb, hr⟩ := line_range (hA.drawn HW) hlt
      obtain ⟨b', off', rfl, hb', hr'⟩ := line_range (hA'.drawn HW) hlt
      obtain ⟨y, hy⟩ : ∃ y, P[k]'hlt = y := ⟨_, rfl⟩
      have hyy := hok _ (List.getElem_mem hlt)
      rw [hy] at hr hr' hyy
      clear hy
      have hneq : ∀ w, (binOp .neq 43 (.agg y.arr) (.agg y.arr)).run Try.prog w = .ok (.bool false) w := neq_line y hyy
      have hSQ : (fun Z : World => Z.rangeAt b (off + k * 4) y.arr.toList ∧ Z.rangeAt b' (off' + k * 4) y.arr.toList) wr.drew := ⟨hr, hr'⟩
      go_upto_region 6 with fail
      refine wp_region_noPanic ?_
      refine Ord.region_Q (S := fun Z : World => Z.rangeAt b (off + k * 4) y.arr.toList ∧ Z.rangeAt b' (off' + k * 4) y.arr.toList) 999 (.one 0 true (.one 1 true (.one 2 true (.one 3 true (.one 4 true (.one 5 true (.one 6 true (.one 7 true (.one 8 true .nil))))))))) (by kernel_rfl) (by kernel_rfl) (by kernel_rfl) (by decide) (fun _ _ _ _ _ h => h) (hSQ) (fun hS0 => ?_)
      simp only [Ord.layT, List.getElem?_cons_zero, List.getElem?_cons_succ]
      (refine Ord.takeQ (v := ?_) (Or.inl ⟨rfl, ?_⟩) ?_; rotate_left; (intro w hSw; (try dsimp only at hSw); go_simp; try (with_reducible rfl)); (try simp only [Act.put, List.setIfInBounds_toArray, List.set_cons_zero, List.set_cons_succ]))
      (refine Ord.takeQ (v := ?_) (Or.inl ⟨rfl, ?_⟩) ?_; rotate_left; (intro w hSw; (try dsimp only at hSw); go_simp; try (with_reducible rfl)); (try simp only [Act.put, List.setIfInBounds_toArray, List.set_cons_zero, List.set_cons_succ]))
      (refine Ord.takeQ (v := ?_) (Or.inl ⟨rfl, ?_⟩) ?_; rotate_left; (intro w hSw; (try dsimp only at hSw); go_simp; try (with_reducible rfl)); (try simp only [Act.put, List.setIfInBounds_toArray, List.set_cons_zero, List.set_cons_succ]))
      (refine Ord.takeQ (yieldsIf_load_mid rfl _ _ rfl b (off + k * 4) rfl _ _ (fun w' h => h.1) Try.underlying43 rfl (info_line_list _)) ?_; (try simp only [Act.put, List.setIfInBounds_toArray, List.set_cons_zero, List.set_cons_succ]))
      (refine Ord.takeQ (v := ?_) (Or.inl ⟨rfl, ?_⟩) ?_; rotate_left; (intro w hSw; (try dsimp only at hSw); go_simp; try (with_reducible rfl)); (try simp only [Act.put, List.setIfInBounds_toArray, List.set_cons_zero, List.set_cons_succ]))
      (refine Ord.takeQ (v := ?_) (Or.inl ⟨rfl, ?_⟩) ?_; rotate_left; (intro w hSw; (try dsimp only at hSw); go_simp; try (with_reducible rfl)); (try simp only [Act.put, List.setIfInBounds_toArray, List.set_cons_zero, List.set_cons_succ]))
      (refine Ord.takeQ (v := ?_) (Or.inl ⟨rfl, ?_⟩) ?_; rotate_left; (intro w hSw; (try dsimp only at hSw); go_simp; try (with_reducible rfl)); (try simp only [Act.put, List.setIfInBounds_toArray, List.set_cons_zero, List.set_cons_succ]))
      (refine Ord.takeQ (yieldsIf_load_mid rfl _ _ rfl b' (off' + k * 4) rfl _ _ (fun w' h => h.2) Try.underlying43 rfl (info_line_list _)) ?_; (try simp only [Act.put, List.setIfInBounds_toArray, List.set_cons_zero, List.set_cons_succ]))
      (refine Ord.takeQ (v := ?_) (Or.inl ⟨rfl, ?_⟩) ?_; rotate_left; (intro w hSw; (try dsimp only at hSw); go_simp; try (with_reducible rfl)); (try simp only [Act.put, List.setIfInBounds_toArray, List.set_cons_zero, List.set_cons_succ]))
      refine Ord.doneQ (NoPanic.normal ?_)
      clear hSQ
      go_wp2_with fail
      go_roundw
      case rel => exact ⟨k + 1, by omega, by go_num, HW.drew⟩
      case measure => simp [intOf]; omega
    · obtain rfl : k = P.length := by omega
      go_wp2_with fail
      go_ret
      exact ⟨rfl, HW⟩

theorem info_run_arr (x : Rn) : (Try.prog.info? 61).map (·.size) = some x.arr.size := by kernel_rfl
theorem info_run_list (x : Rn) : (Try.prog.info? 61).map (·.size) = some x.arr.toList.length := info_run_arr x
theorem run_one (x : Rn) : x.arr.all (·.oneCell') = true := by simp [Rn.arr, Value.oneCell']
theorem run_length (x : Rn) : x.cells.length = 5 := rfl
theorem cells_one_run (X : List Rn) : ∀ u ∈ X.flatMap Rn.cells, u.oneCell' = true := by
  intro u hu
  obtain ⟨x, _, hx⟩ := List.mem_flatMap.1 hu
  have := Array.all_eq_true.1 (run_one x)
  obtain ⟨i, hi, rfl⟩ := List.getElem_of_mem (show u ∈ x.arr.toList from hx)
  exact this i (by simpa using hi)
theorem run_range {w : World} {B : Nat} {A : Option Addr} {P : List Rn} (h : Recs w B A 5 Rn.cells P) {k : Nat} (hk : k < P.length) :
    ∃ b off, A = some ⟨b, off, none⟩ ∧ b < B ∧ w.rangeAt b (off + k * 5) (P[k]'hk).arr.toList := by
  obtain ⟨b, off, e, hb, hc⟩ := h (by rintro rfl; simp at hk)
  exact ⟨b, off, e, hb, fun j v hv => hc k _ (List.getElem?_eq_getElem hk) j v hv⟩
set_option maxRecDepth 100000 in
theorem run_Same (P : List Rn) (A A' : Option Addr) (c c' B B' : Nat) (w : World) (hl : P.length ≤ 35184372088832) (hok : ∀ y ∈ P, okR y) (hA : Recs w B A 5 Rn.cells P) (hA' : Recs w B' A' 5 Rn.cells P) :
    Calls Try.prog 44 #[.slice A P.length c, .slice A' P.length c'] w fun e w' => e = .returned (.bool true) ∧ Drawn w w' := by
  go_enter Try.func44, Try.ntmps44
  go_wp2
  go_loopw [5] (fun i wr => ∃ k : Nat, k ≤ P.length ∧ i = .int .i64 k ∧ Drawn w wr) (fun i _ => P.length - (intOf i).toNat)
  case atStart => exact ⟨0, Nat.zero_le _, rfl, .refl _⟩
  case round =>
    obtain ⟨k, hk, rfl, HW⟩ := hrel
    by_cases hlt : k < P.length
    · obtain ⟨b, off, rfl, hb, hr⟩ := run_range (hA.drawn HW) hlt
      obtain ⟨b', off', rfl, hb', hr'⟩ := run_range (hA'.drawn HW) hlt
      obtain ⟨y, hy⟩ : ∃ y, P[k]'hlt = y := ⟨_, rfl⟩
      have hyy := hok _ (List.getElem_mem hlt)
      rw [hy] at hr hr' hyy
      clear hy
      have hneq : ∀ w, (binOp .neq 61 (.agg y.arr) (.agg y.arr)).run Try.prog w = .ok (.bool false) w := neq_run y hyy
      have hSQ : (fun Z : World => Z.rangeAt b (off + k * 5) y.arr.toList ∧ Z.rangeAt b' (off' + k * 5) y.arr.toList) wr.drew := ⟨hr, hr'⟩
      go_upto_region 6 with fail
      refine wp_region_noPanic ?_
      refine Ord.region_Q (S := fun Z : World => Z.rangeAt b (off + k * 5) y.arr.toList ∧ Z.rangeAt b' (off' + k * 5) y.arr.toList) 999 (.one 0 true (.one 1 true (.one 2 true (.one 3 true (.one 4 true (.one 5 true (.one 6 true (.one 7 true (.one 8 true .nil))))))))) (by kernel_rfl) (by kernel_rfl) (by kernel_rfl) (by decide) (fun _ _ _ _ _ h => h) (hSQ) (fun hS0 => ?_)
      simp only [Ord.layT, List.getElem?_cons_zero, List.getElem?_cons_succ]
      (refine Ord.takeQ (v := ?_) (Or.inl ⟨rfl, ?_⟩) ?_; rotate_left; (intro w hSw; (try dsimp only at hSw); go_simp; try (with_reducible rfl)); (try simp only [Act.put, List.setIfInBounds_toArray, List.set_cons_zero, List.set_cons_succ]))
      (refine Ord.takeQ (v := ?_) (Or.inl ⟨rfl, ?_⟩) ?_; rotate_left; (intro w hSw; (try dsimp only at hSw); go_simp; try (with_reducible rfl)); (try simp only [Act.put, List.setIfInBounds_toArray, List.set_cons_zero, List.set_cons_succ]))
      (refine Ord.takeQ (v := ?_) (Or.inl ⟨rfl, ?_⟩) ?_; rotate_left; (intro w hSw; (try dsimp only at hSw); go_simp; try (with_reducible rfl)); (try simp only [Act.put, List.setIfInBounds_toArray, List.set_cons_zero, List.set_cons_succ]))
      (refine Ord.takeQ (yieldsIf_load_mid rfl _ _ rfl b (off + k * 5) rfl _ _ (fun w' h => h.1) Try.underlying61 rfl (info_run_list _)) ?_; (try simp only [Act.put, List.setIfInBounds_toArray, List.set_cons_zero, List.set_cons_succ]))
      (refine Ord.takeQ (v := ?_) (Or.inl ⟨rfl, ?_⟩) ?_; rotate_left; (intro w hSw; (try dsimp only at hSw); go_simp; try (with_reducible rfl)); (try simp only [Act.put, List.setIfInBounds_toArray, List.set_cons_zero, List.set_cons_succ]))
      (refine Ord.takeQ (v := ?_) (Or.inl ⟨rfl, ?_⟩) ?_; rotate_left; (intro w hSw; (try dsimp only at hSw); go_simp; try (with_reducible rfl)); (try simp only [Act.put, List.setIfInBounds_toArray, List.set_cons_zero, List.set_cons_succ]))
      (refine Ord.takeQ (v := ?_) (Or.inl ⟨rfl, ?_⟩) ?_; rotate_left; (intro w hSw; (try dsimp only at hSw); go_simp; try (with_reducible rfl)); (try simp only [Act.put, List.setIfInBounds_toArray, List.set_cons_zero, List.set_cons_succ]))
      (refine Ord.takeQ (yieldsIf_load_mid rfl _ _ rfl b' (off' + k * 5) rfl _ _ (fun w' h => h.2) Try.underlying61 rfl (info_run_list _)) ?_; (try simp only [Act.put, List.setIfInBounds_toArray, List.set_cons_zero, List.set_cons_succ]))
      (refine Ord.takeQ (v := ?_) (Or.inl ⟨rfl, ?_⟩) ?_; rotate_left; (intro w hSw; (try dsimp only at hSw); go_simp; try (with_reducible rfl)); (try simp only [Act.put, List.setIfInBounds_toArray, List.set_cons_zero, List.set_cons_succ]))
      refine Ord.doneQ (NoPanic.normal ?_)
      clear hSQ
      go_wp2_with fail
      go_roundw
      case rel => exact ⟨k + 1, by omega, by go_num, HW.drew⟩
      case measure => simp [intOf]; omega
    · obtain rfl : k = P.length := by omega
      go_wp2_with fail
      go_ret
      exact ⟨rfl, HW⟩
end Go.Proofs.Ytebolanengnpfaa
