/-
  A piece is itself.
-/
import Derived.Test.YtebolanengnpfaaKnown15
import Derived.DeepKeys
namespace Go.Proofs.Ytebolanengnpfaa
open Go.RowKit Num Mem Opn
set_option linter.unusedVariables false
/-- numbers that fit. -/
def Pc.Ok (p : Pc) : Prop := (Lit.int .i64 p.kind).wf = true ∧ (Lit.int .i64 p.node).wf = true ∧ (Lit.int .i64 p.width).wf = true ∧ (Lit.int .i64 p.height).wf = true
set_option maxRecDepth 100000 in
set_option maxHeartbeats 4000000 in
theorem lits_sty (b : Bool) : ∃ la, Try.prog.keyLits 5 34 (styArr b).toList = some la := by
  have h : (Try.prog.keyLits 5 34 (styArr b).toList).isSome = true := by cases b <;> kernel_rfl
  exact Option.isSome_iff_exists.1 h
set_option maxRecDepth 100000 in
set_option maxHeartbeats 4000000 in
theorem lits_piece (p : Pc) (h : Pc.Ok p) : ∃ la, Try.prog.keyLits 6 36 p.arr.toList = some la := by
  obtain ⟨ls, hs⟩ := lits_sty p.pre
  obtain ⟨h1, h2, h3, h4⟩ := h
  have hfs : Try.prog.underlying 36 = some (.struct (Try.prog.fieldsOf 36)) := by kernel_rfl
  have hcs : Try.prog.cellsOf 36 = 57 := by kernel_rfl
  have hcs1 : Try.prog.cellsOf 3 = 1 := by kernel_rfl
  have hcs2 : Try.prog.cellsOf 2 = 1 := by kernel_rfl
  have hcs3 : Try.prog.cellsOf 9 = 1 := by kernel_rfl
  have hcs4 : Try.prog.cellsOf 34 = 52 := by kernel_rfl
  have ki : ∀ (n : Int), (Lit.int .i64 n).wf = true → Try.prog.keyLits 5 3 [.int .i64 n] = some [.int .i64 n] := by
    intro n hn
    simp [Program.keyLits, Try.underlying3, hn]
  have kj : ∀ (n : Int), (Lit.int .i64 n).wf = true → Try.prog.keyLits 5 2 [.int .i64 n] = some [.int .i64 n] := by
    intro n hn
    simp [Program.keyLits, Try.underlying2, hn]
  have ks : Try.prog.keyLits 5 9 [.string ByteArray.empty] = some [.string []] := by kernel_rfl
  have hdrop : (p.arr.toList.drop 5).take 52 = (styArr p.pre).toList := rfl
  rw [show (6 : Nat) = 5 + 1 from rfl]
  unfold Program.keyLits
  rw [hfs]
  dsimp only
  rw [if_pos ⟨by rw [hcs]; rfl, by kernel_rfl⟩]
  have hF : (Try.prog.fieldsOf 36).toList.map (fun f => (f.type, f.offset)) = [(3, 0), (3, 1), (9, 2), (2, 3), (2, 4), (34, 5)] := by kernel_rfl
  have hM : ∀ (fs : List Field) (l : List (TypeId × Nat)), fs.map (fun f => (f.type, f.offset)) = l → (fs.mapM fun f => Try.prog.keyLits 5 f.type ((p.arr.toList.drop f.offset).take (Try.prog.cellsOf f.type))) = (l.mapM fun f => Try.prog.keyLits 5 f.1 ((p.arr.toList.drop f.2).take (Try.prog.cellsOf f.1))) := by
    intro fs l e
    subst e
    rw [List.mapM_map]
    rfl
  rw [hM _ _ hF]
  simp only [List.mapM_cons, List.mapM_nil, hcs1, hcs2, hcs3, hcs4, hdrop, hs]
  rw [show (p.arr.toList.drop 0).take 1 = [.int .i64 p.kind] from rfl, show (p.arr.toList.drop 1).take 1 = [.int .i64 p.node] from rfl, show (p.arr.toList.drop 2).take 1 = [.string ByteArray.empty] from rfl, show (p.arr.toList.drop 3).take 1 = [.int .i64 p.width] from rfl, show (p.arr.toList.drop 4).take 1 = [.int .i64 p.height] from rfl]
  rw [ki _ h1, ki _ h2, ks, kj _ h3, kj _ h4]
  exact ⟨_, rfl⟩
theorem eq_piece (p : Pc) (h : Pc.Ok p) (w : World) : (Op.equalIn 10000 36 (.agg p.arr) (.agg p.arr)).run Try.prog w = .ok true w := by
  obtain ⟨la, hla⟩ := lits_piece p h
  obtain ⟨r, hr, hi⟩ := run_equalIn_deep (P := Try.prog) 9994 6 36 (by kernel_rfl) w 6 6 (.agg p.arr) (.agg p.arr) la la (by kernel_rfl) (by kernel_rfl) hla hla
  rw [hr, hi.2 rfl]
theorem neq_piece (p : Pc) (h : Pc.Ok p) (w : World) : (binOp .neq 36 (.agg p.arr) (.agg p.arr)).run Try.prog w = .ok (.bool false) w := by
  have := eq_piece p h w
  simp only [binOp, Op.equal, Op.maxDepth, Sem.run_bind, this, Result.andThen_ok]
  rfl
end Go.Proofs.Ytebolanengnpfaa
