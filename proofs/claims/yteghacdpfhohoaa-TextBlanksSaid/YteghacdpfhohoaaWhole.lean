/-
  Whole rows (structs) loaded and stored in abstract worlds.
-/
import Derived.Test.YteghacdpfhohoaaMem
import Derived.Deep.MidRow
import Derived.Lib.MinMax
import Derived.BigFrame
namespace Go.Proofs.Yteghacdpfhohoaa
open Go.RowKit Mem
set_option linter.unusedVariables false
namespace Mem
/-- only block b is another one. -/
structure Chg (b : Nat) (w w' : World) : Prop where
  os : w'.os = w.os
  tape : w'.tape = w.tape
  output : w'.output = w.output
  size : w'.heap.size = w.heap.size
  other : ∀ g, g ≠ b → w'.heap[g]? = w.heap[g]?
theorem Blk.chg {w w' : World} {g b : Nat} {t : TypeId} {cs : Array Value} (h : Blk w g t cs) (hc : Chg b w w') (hn : g ≠ b) : Blk w' g t cs := (hc.other g hn).trans h
theorem Chg.below {w w' : World} {b B : Nat} (hc : Chg b w w') (hB : B ≤ b) : Below B w w' :=
  ⟨hc.os, hc.tape, hc.output, by rw [hc.size]; exact Nat.le_refl _, fun g hg => hc.other g (by omega)⟩
theorem Chg.setCell (w : World) (p : Addr) (v : Value) : Chg p.block w (w.setCell p v) :=
  ⟨rfl, rfl, rfl, by simp [World.setCell], fun g hg => heap_setCell_other w p g v hg⟩
theorem setIfInBounds_append_left (l r : List Value) (x v : Value) : ((l ++ x :: r).toArray).setIfInBounds l.length v = (l ++ v :: r).toArray := by
  apply Array.ext'
  simp
theorem setCells_blk (b : Nat) (t : TypeId) : ∀ (cs old pre : List Value) (w : World), Blk w b t (pre ++ old).toArray → old.length = cs.length → Blk (w.setCells b pre.length cs) b t (pre ++ cs).toArray ∧ Chg b w (w.setCells b pre.length cs)
  | [], old, pre, w, h, hl => by
    cases old with
    | nil => exact ⟨h, rfl, rfl, rfl, rfl, fun _ _ => rfl⟩
    | cons => simp at hl
  | c :: cs, old, pre, w, h, hl => by
    cases old with
    | nil => simp at hl
    | cons o old =>
      have h1 := h.put pre.length c
      rw [setIfInBounds_append_left] at h1
      have h2 := setCells_blk b t cs old (pre ++ [c]) (w.setCell ⟨b, pre.length, none⟩ c) (by simpa using h1) (by simpa using hl)
      have hc := Chg.setCell w ⟨b, pre.length, none⟩ c
      simp only [List.length_append, List.length_cons, List.length_nil, List.append_assoc, List.cons_append, List.nil_append] at h2
      refine ⟨h2.1, h2.2.os.trans hc.os, h2.2.tape.trans hc.tape, h2.2.output.trans hc.output, h2.2.size.trans hc.size, fun g hg => (h2.2.other g hg).trans (hc.other g hg)⟩
theorem Blk.range {w : World} {b : Nat} {t : TypeId} {cs : Array Value} (h : Blk w b t cs) : w.rangeAt b 0 cs.toList := by
  intro j v hj
  rw [Nat.zero_add, h.cell]
  simpa using hj
variable {P : Program}
theorem wl_load {ops : Array Oper} {rest : List Oper} {op : Oper} {a : Act} {w : World} {Q : Exit → Act → World → Prop} (hw : Region.wanted op (yielded ops a.tmps) = true) (ty : TypeId) (x : Operand) (ho : op.op = .load ty x)
    (b : Nat) (hx : a.eval x = .pointer (some ⟨b, 0, none⟩)) (t : TypeId) (cs : Array Value) (d : TypeDesc) (hc : Blk w b t cs)
    (hu : P.underlying ty = some d) (hd : d.isRow = true) (hi : (P.info? ty).map (·.size) = some cs.size)
    (h : wpList P ops Q rest (a.put op.dst (.agg cs)) w) : wpList P ops Q (op :: rest) a w :=
  BigFrame.wpList_want hw fun _ hK => wp_load_mid ty x ho b 0 hx cs.toList d hc.range hu hd (by simpa using hi) (hK _ _ (by simpa using h))
theorem wl_store {ops : Array Oper} {rest : List Oper} {op : Oper} {a : Act} {w : World} {Q : Exit → Act → World → Prop} (hw : Region.wanted op (yielded ops a.tmps) = true) (ty : TypeId) (x y : Operand) (ho : op.op = .store ty x y)
    (b : Nat) (cells : Array Value) (hx : a.eval x = .pointer (some ⟨b, 0, none⟩)) (hy : a.eval y = .agg cells)
    (t : TypeId) (old : Array Value) (hb : Blk w b t old) (hs : old.size = cells.size) (hi : (P.info? ty).map (·.size) = some cells.size) (h1 : cells.all (·.oneCell') = true)
    (h : ∀ w', Blk w' b t cells → Chg b w w' → wpList P ops Q rest (a.put op.dst undef) w') : wpList P ops Q (op :: rest) a w := by
  have hk := setCells_blk b t cells.toList old.toList [] w (by simpa using hb) (by simpa using hs)
  refine BigFrame.wpList_want hw fun _ hK => wp_store_mid ty x y ho b 0 cells hx hy ?_ hi h1 (hK _ _ (h _ (by simpa using hk.1) (by simpa using hk.2)))
  intro j hj
  rw [Nat.zero_add, hb.cell]
  exact ⟨by rw [Array.getElem?_eq_getElem (by omega)]; rfl, hb.free j⟩
theorem wl_forget {ops : Array Oper} {rest : List Oper} {a : Act} {w : World} {Q : Exit → Act → World → Prop} (S : World → Prop) (hS : S w) (h : ∀ w', S w' → wpList P ops Q rest a w') : wpList P ops Q rest a w := h w hS
theorem wp_forget {c : Code} {a : Act} {w : World} {Q : Exit → Act → World → Prop} (S : World → Prop) (hS : S w) (h : ∀ w', S w' → Code.wp P c Q a w') : Code.wp P c Q a w := h w hS
theorem results_row {fn : Func} {tmps : Array Value} {w : World} (s ty b : Nat) (hf : fn.results = #[.cell s ty]) (hx : tmps.getD s undef = .pointer (some ⟨b, 0, none⟩)) {t : TypeId} {cs : Array Value} (hb : Blk w b t cs)
    (d : TypeDesc) (hu : P.underlying ty = some d) (hd : d.isRow = true) (hi : (P.info? ty).map (·.size) = some cs.size) : (results fn tmps).run P w = .ok (.agg cs) w := by
  have hl := run_loadVar_mid (P := P) w b 0 ty cs.toList d hb.range hu hd (by simpa using hi)
  have hx' : tmps[s]?.getD undef = .pointer (some ⟨b, 0, none⟩) := by simpa using hx
  have ha : (asAddr (.pointer (some ⟨b, 0, none⟩))).run P w = .ok ⟨b, 0, none⟩ w := rfl
  simp [results, hf, hx', Sem.run_bind, hl, ha]
@[go_sem high] theorem run_max_ints3 (w : World) (ts : Array TypeId) (t : TypeId) (k k' k'' : IntKind) (x y z : Int) :
    (Builtin.max_ ts t #[.int k x, .int k' y, .int k'' z]).run P w = .ok (.int k (max (max x y) z)) w := by
  have e : (if z > (if y > x then y else x) then z else (if y > x then y else x)) = max (max x y) z := by
    simp only [Int.max_def]
    split <;> split <;> split <;> split <;> omega
  simp [Builtin.max_, Builtin.max2, e]
structure Stop (p : Prop) : Prop where
  out : p
theorem stop_load {ops : Array Oper} {rest : List Oper} {op : Oper} {a : Act} {w : World} {Q : Exit → Act → World → Prop} (ty : TypeId) (x : Operand) (ho : op.op = .load ty x) (hw : Region.wanted op (yielded ops a.tmps) = true)
    (h : Stop (wpList P ops Q (op :: rest) a w)) : wpList P ops Q (op :: rest) a w := h.out
theorem stop_store {ops : Array Oper} {rest : List Oper} {op : Oper} {a : Act} {w : World} {Q : Exit → Act → World → Prop} (ty : TypeId) (x y : Operand) (ho : op.op = .store ty x y) (hw : Region.wanted op (yielded ops a.tmps) = true)
    (h : Stop (wpList P ops Q (op :: rest) a w)) : wpList P ops Q (op :: rest) a w := h.out
theorem stop_append {ops : Array Oper} {rest : List Oper} {op : Oper} {a : Act} {w : World} {Q : Exit → Act → World → Prop} (s x : Operand) (t t' : TypeId)
    (ho : op.op = .call { callee := .builtin .append, args := #[s, x], argTypes := #[t, t'] })
    (h : Stop (wpList P ops Q (op :: rest) a w)) : wpList P ops Q (op :: rest) a w := h.out
end Mem
end Go.Proofs.Yteghacdpfhohoaa
