/-
  A piece is itself; lists of pieces are the same.
-/
import Derived.Test.YteghacdpfhohoaaTextB
import Derived.Test.YteghacdpfhohoaaTextC
import Derived.Test.YteghacdpfhohoaaFresh
import Derived.Test.YteghacdpfhohoaaOrdQ
import Derived.DeepKeys
namespace Go.Proofs.Yteghacdpfhohoaa
open Go.RowKit Num Mem Opn
set_option linter.unusedVariables false
set_option linter.unusedSimpArgs false
set_option linter.unusedSimpArgs false
namespace Num
/-- a piece, plain, pre, or of the zero style. -/
structure Pq where
  kind : Int
  node : Int
  text : ByteArray
  width : Int
  height : Int
  st : Option Bool
def colQ (o : Option Bool) : Int := match o with | none => 0 | some _ => 255
def sizQ (o : Option Bool) : Int := match o with | none => 0 | some _ => 1024
def linQ (o : Option Bool) : Int := match o with | none => 0 | some _ => -1
def styQ (o : Option Bool) : Array Value := #[.int .i64 0, .int .i64 0, .int .i64 0, .int .i64 0, .int .i64 0, .int .i64 0, .int .i64 0, .int .i64 0, .int .i64 0, .int .i64 0, .int .i64 0, .int .i64 0, .int .i64 0, .int .i64 0, .int .i64 0, .int .i64 0, .int .i64 0, .int .i64 0, .int .i64 0, .int .i64 0, .int .i64 0, .int .i64 0, .int .i64 0, .int .i64 0, .int .i64 0, .int .i64 0, .int .i64 0, .int .i64 0, .int .i64 0, .int .i64 0, .int .i64 0, .int .i64 0, .int .i64 0, .int .i64 0, .int .i64 0, .int .i64 0, .int .u32 (colQ o), .int .u32 0, .int .i64 (sizQ o), .int .i64 (linQ o), .int .i64 0, .bool (o.getD false), .bool false, .bool false, .bool false, .int .i64 0, .int .i64 0, .int .i64 0, .int .i64 0, .int .i64 0, .int .i64 0, .bool false]
def Pq.arr (x : Pq) : Array Value := #[.int .i64 x.kind, .int .i64 x.node, .string x.text, .int .i64 x.width, .int .i64 x.height, .int .i64 0, .int .i64 0, .int .i64 0, .int .i64 0, .int .i64 0, .int .i64 0, .int .i64 0, .int .i64 0, .int .i64 0, .int .i64 0, .int .i64 0, .int .i64 0, .int .i64 0, .int .i64 0, .int .i64 0, .int .i64 0, .int .i64 0, .int .i64 0, .int .i64 0, .int .i64 0, .int .i64 0, .int .i64 0, .int .i64 0, .int .i64 0, .int .i64 0, .int .i64 0, .int .i64 0, .int .i64 0, .int .i64 0, .int .i64 0, .int .i64 0, .int .i64 0, .int .i64 0, .int .i64 0, .int .i64 0, .int .i64 0, .int .u32 (colQ x.st), .int .u32 0, .int .i64 (sizQ x.st), .int .i64 (linQ x.st), .int .i64 0, .bool (x.st.getD false), .bool false, .bool false, .bool false, .int .i64 0, .int .i64 0, .int .i64 0, .int .i64 0, .int .i64 0, .int .i64 0, .bool false]
def Pq.cells (x : Pq) : List Value := x.arr.toList
def Pz.q (p : Pz) : Pq := ⟨p.kind, p.node, p.text, p.width, p.height, some p.pre⟩
theorem pz_q (p : Pz) : p.q.cells = p.cells := rfl
theorem pz_q_map (P : List Pz) : (P.map Pz.q).flatMap Pq.cells = P.flatMap Pz.cells := by
  induction P with
  | nil => rfl
  | cons p P ih => rw [List.map_cons, List.flatMap_cons, List.flatMap_cons, ih, pz_q]
end Num
def okP (y : Pq) : Prop := I64 y.kind ∧ I64 y.node ∧ y.text.size ≤ maxLen ∧ I64 y.width ∧ I64 y.height
theorem wf_of_i64P {a : Int} (h : Opn.I64 a) : (Lit.int .i64 a).wf = true := by
  obtain ⟨h1, h2⟩ := h
  simp [Lit.wf, IntKind.min, IntKind.max, IntKind.signed, IntKind.bits]
  omega
set_option maxRecDepth 100000 in
set_option maxHeartbeats 4000000 in
theorem lits_styQ (o : Option Bool) : ∃ la, Try.prog.keyLits 5 43 (styQ o).toList = some la := by
  have h : (Try.prog.keyLits 5 43 (styQ o).toList).isSome = true := by
    cases o with
    | none => kernel_rfl
    | some b => cases b <;> kernel_rfl
  exact Option.isSome_iff_exists.1 h
set_option maxRecDepth 100000 in
set_option maxHeartbeats 4000000 in
theorem lits_pq (p : Pq) (h : okP p) : ∃ la, Try.prog.keyLits 6 59 p.arr.toList = some la := by
  obtain ⟨ls, hs⟩ := lits_styQ p.st
  obtain ⟨h1, h2, h5, h3, h4⟩ := h
  replace h1 := wf_of_i64P h1
  replace h2 := wf_of_i64P h2
  replace h3 := wf_of_i64P h3
  replace h4 := wf_of_i64P h4
  have hfs : Try.prog.underlying 59 = some (.struct (Try.prog.fieldsOf 59)) := by kernel_rfl
  have hcs : Try.prog.cellsOf 59 = 57 := by kernel_rfl
  have hcs1 : Try.prog.cellsOf 3 = 1 := by kernel_rfl
  have hcs2 : Try.prog.cellsOf 2 = 1 := by kernel_rfl
  have hcs3 : Try.prog.cellsOf 9 = 1 := by kernel_rfl
  have hcs4 : Try.prog.cellsOf 43 = 52 := by kernel_rfl
  have ki : ∀ (n : Int), (Lit.int .i64 n).wf = true → Try.prog.keyLits 5 3 [.int .i64 n] = some [.int .i64 n] := by
    intro n hn
    simp [Program.keyLits, Try.underlying3, hn]
  have kj : ∀ (n : Int), (Lit.int .i64 n).wf = true → Try.prog.keyLits 5 2 [.int .i64 n] = some [.int .i64 n] := by
    intro n hn
    simp [Program.keyLits, Try.underlying2, hn]
  have ks : Try.prog.keyLits 5 9 [.string p.text] = some [.string p.text.data.toList] := by
    simp [Program.keyLits, Try.underlying9, h5]
  have hdrop : (p.arr.toList.drop 5).take 52 = (styQ p.st).toList := rfl
  rw [show (6 : Nat) = 5 + 1 from rfl]
  unfold Program.keyLits
  rw [hfs]
  dsimp only
  rw [if_pos ⟨by rw [hcs]; rfl, by kernel_rfl⟩]
  have hF : (Try.prog.fieldsOf 59).toList.map (fun f => (f.type, f.offset)) = [(3, 0), (3, 1), (9, 2), (2, 3), (2, 4), (43, 5)] := by kernel_rfl
  have hM : ∀ (fs : List Field) (l : List (TypeId × Nat)), fs.map (fun f => (f.type, f.offset)) = l → (fs.mapM fun f => Try.prog.keyLits 5 f.type ((p.arr.toList.drop f.offset).take (Try.prog.cellsOf f.type))) = (l.mapM fun f => Try.prog.keyLits 5 f.1 ((p.arr.toList.drop f.2).take (Try.prog.cellsOf f.1))) := by
    intro fs l e
    subst e
    rw [List.mapM_map]
    rfl
  rw [hM _ _ hF]
  simp only [List.mapM_cons, List.mapM_nil, hcs1, hcs2, hcs3, hcs4, hdrop, hs]
  rw [show (p.arr.toList.drop 0).take 1 = [.int .i64 p.kind] from rfl, show (p.arr.toList.drop 1).take 1 = [.int .i64 p.node] from rfl, show (p.arr.toList.drop 2).take 1 = [.string p.text] from rfl, show (p.arr.toList.drop 3).take 1 = [.int .i64 p.width] from rfl, show (p.arr.toList.drop 4).take 1 = [.int .i64 p.height] from rfl]
  rw [ki _ h1, ki _ h2, ks, kj _ h3, kj _ h4]
  exact ⟨_, rfl⟩
theorem neq_pq (p : Pq) (h : okP p) (w : World) : (binOp .neq 59 (.agg p.arr) (.agg p.arr)).run Try.prog w = .ok (.bool false) w := by
  obtain ⟨la, hla⟩ := lits_pq p h
  obtain ⟨r, hr, hi⟩ := run_equalIn_deep (P := Try.prog) 9994 6 59 (by kernel_rfl) w 6 6 (.agg p.arr) (.agg p.arr) la la (by kernel_rfl) (by kernel_rfl) hla hla
  have : (Op.equalIn 10000 59 (.agg p.arr) (.agg p.arr)).run Try.prog w = .ok true w := by rw [hr, hi.2 rfl]
  simp only [binOp, Op.equal, Op.maxDepth, Sem.run_bind, this, Result.andThen_ok]
  rfl

theorem info_pq_arr (x : Pq) : (Try.prog.info? 59).map (·.size) = some x.arr.size := info_pz
theorem info_pq_list (x : Pq) : (Try.prog.info? 59).map (·.size) = some x.arr.toList.length := info_pq_arr x
theorem pq_one (x : Pq) : x.arr.all (·.oneCell') = true := by simp [Pq.arr, Value.oneCell']
theorem pq_length (x : Pq) : x.cells.length = 57 := rfl
theorem cells_one_pq (X : List Pq) : ∀ u ∈ X.flatMap Pq.cells, u.oneCell' = true := by
  intro u hu
  obtain ⟨x, _, hx⟩ := List.mem_flatMap.1 hu
  have := Array.all_eq_true.1 (pq_one x)
  obtain ⟨i, hi, rfl⟩ := List.getElem_of_mem (show u ∈ x.arr.toList from hx)
  exact this i (by simpa using hi)
theorem pq_range {w : World} {B : Nat} {A : Option Addr} {P : List Pq} (h : Recs w B A 57 Pq.cells P) {k : Nat} (hk : k < P.length) :
    ∃ b off, A = some ⟨b, off, none⟩ ∧ b < B ∧ w.rangeAt b (off + k * 57) (P[k]'hk).arr.toList := by
  obtain ⟨b, off, e, hb, hc⟩ := h (by rintro rfl; simp at hk)
  exact ⟨b, off, e, hb, fun j v hv => hc k _ (List.getElem?_eq_getElem hk) j v hv⟩
set_option maxRecDepth 100000 in
theorem pq_Same (P : List Pq) (A A' : Option Addr) (c c' B B' : Nat) (w : World) (hl : P.length ≤ 35184372088832) (hok : ∀ y ∈ P, okP y) (hA : Recs w B A 57 Pq.cells P) (hA' : Recs w B' A' 57 Pq.cells P) :
    Calls Try.prog 39 #[.slice A P.length c, .slice A' P.length c'] w fun e w' => e = .returned (.bool true) ∧ Drawn w w' := by
  go_enter Try.func39, Try.ntmps39
  go_wp2
  go_loopw [5] (fun i wr => ∃ k : Nat, k ≤ P.length ∧ i = .int .i64 k ∧ Drawn w wr) (fun i _ => P.length - (intOf i).toNat)
  case atStart => exact ⟨0, Nat.zero_le _, rfl, .refl _⟩
  case round =>
    obtain ⟨k, hk, rfl, HW⟩ := hrel
    by_cases hlt : k < P.length
    · obtain ⟨b, off, rfl, hb, hr⟩ := pq_range (hA.drawn HW) hlt
      obtain ⟨b', off', rfl, hb', hr'⟩ := pq_range (hA'.drawn HW) hlt
      obtain ⟨y, hy⟩ : ∃ y, P[k]'hlt = y := ⟨_, rfl⟩
      have hyy := hok _ (List.getElem_mem hlt)
      rw [hy] at hr hr' hyy
      clear hy
      have hneq : ∀ w, (binOp .neq 59 (.agg y.arr) (.agg y.arr)).run Try.prog w = .ok (.bool false) w := neq_pq y hyy
      have hSQ : (fun Z : World => Z.rangeAt b (off + k * 57) y.arr.toList ∧ Z.rangeAt b' (off' + k * 57) y.arr.toList) wr.drew := ⟨hr, hr'⟩
      go_upto_region 6 with fail
      refine wp_region_noPanic ?_
      refine Ord.region_Q (S := fun Z : World => Z.rangeAt b (off + k * 57) y.arr.toList ∧ Z.rangeAt b' (off' + k * 57) y.arr.toList) 999 (.one 0 true (.one 1 true (.one 2 true (.one 3 true (.one 4 true (.one 5 true (.one 6 true (.one 7 true (.one 8 true .nil))))))))) (by kernel_rfl) (by kernel_rfl) (by kernel_rfl) (by decide) (fun _ _ _ _ _ h => h) (hSQ) (fun hS0 => ?_)
      simp only [Ord.layT, List.getElem?_cons_zero, List.getElem?_cons_succ]
      (refine Ord.takeQ (v := ?_) (Or.inl ⟨rfl, ?_⟩) ?_; rotate_left; (intro w hSw; (try dsimp only at hSw); go_simp; try (with_reducible rfl)); (try simp only [Act.put, List.setIfInBounds_toArray, List.set_cons_zero, List.set_cons_succ]))
      (refine Ord.takeQ (v := ?_) (Or.inl ⟨rfl, ?_⟩) ?_; rotate_left; (intro w hSw; (try dsimp only at hSw); go_simp; try (with_reducible rfl)); (try simp only [Act.put, List.setIfInBounds_toArray, List.set_cons_zero, List.set_cons_succ]))
      (refine Ord.takeQ (v := ?_) (Or.inl ⟨rfl, ?_⟩) ?_; rotate_left; (intro w hSw; (try dsimp only at hSw); go_simp; try (with_reducible rfl)); (try simp only [Act.put, List.setIfInBounds_toArray, List.set_cons_zero, List.set_cons_succ]))
      (refine Ord.takeQ (yieldsIf_load_mid rfl _ _ rfl b (off + k * 57) rfl _ _ (fun w' h => h.1) Try.underlying59 rfl (info_pq_list _)) ?_; (try simp only [Act.put, List.setIfInBounds_toArray, List.set_cons_zero, List.set_cons_succ]))
      (refine Ord.takeQ (v := ?_) (Or.inl ⟨rfl, ?_⟩) ?_; rotate_left; (intro w hSw; (try dsimp only at hSw); go_simp; try (with_reducible rfl)); (try simp only [Act.put, List.setIfInBounds_toArray, List.set_cons_zero, List.set_cons_succ]))
      (refine Ord.takeQ (v := ?_) (Or.inl ⟨rfl, ?_⟩) ?_; rotate_left; (intro w hSw; (try dsimp only at hSw); go_simp; try (with_reducible rfl)); (try simp only [Act.put, List.setIfInBounds_toArray, List.set_cons_zero, List.set_cons_succ]))
      (refine Ord.takeQ (v := ?_) (Or.inl ⟨rfl, ?_⟩) ?_; rotate_left; (intro w hSw; (try dsimp only at hSw); go_simp; try (with_reducible rfl)); (try simp only [Act.put, List.setIfInBounds_toArray, List.set_cons_zero, List.set_cons_succ]))
      (refine Ord.takeQ (yieldsIf_load_mid rfl _ _ rfl b' (off' + k * 57) rfl _ _ (fun w' h => h.2) Try.underlying59 rfl (info_pq_list _)) ?_; (try simp only [Act.put, List.setIfInBounds_toArray, List.set_cons_zero, List.set_cons_succ]))
      (refine Ord.takeQ (v := ?_) (Or.inl ⟨rfl, ?_⟩) ?_; rotate_left; (intro w hSw; (try dsimp only at hSw); go_simp; try (with_reducible rfl)); (try simp only [Act.put, List.setIfInBounds_toArray, List.set_cons_zero, List.set_cons_succ]))
      refine Ord.doneQ (NoPanic.normal ?_)
      clear hSQ
      go_wp2_with fail
      go_roundw
      case rel => exact ⟨k + 1, by omega, by go_num, HW.drew⟩
      case measure => simp [intOf]; omega
    · obtain rfl : k = P.length := by omega
      go_wp2_with fail
      go_ret
      exact ⟨rfl, HW⟩
end Go.Proofs.Yteghacdpfhohoaa
