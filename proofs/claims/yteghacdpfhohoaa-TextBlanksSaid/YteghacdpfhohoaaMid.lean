/-
  Whole records loaded out of, and stored into, the middle of a row.
-/
import Derived.Test.YteghacdpfhohoaaWhole
import Derived.Test.YteghacdpfhohoaaRecs
namespace Go.Proofs.Yteghacdpfhohoaa
open Go.RowKit Mem
set_option linter.unusedVariables false
namespace Mem
theorem setCells_mid (b : Nat) (t : TypeId) (post : List Value) : ∀ (cs old pre : List Value) (w : World), Blk w b t (pre ++ old ++ post).toArray → old.length = cs.length → Blk (w.setCells b pre.length cs) b t (pre ++ cs ++ post).toArray ∧ Chg b w (w.setCells b pre.length cs)
  | [], old, pre, w, h, hl => by
    cases old with
    | nil => exact ⟨h, rfl, rfl, rfl, rfl, fun _ _ => rfl⟩
    | cons => simp at hl
  | c :: cs, old, pre, w, h, hl => by
    cases old with
    | nil => simp at hl
    | cons o old =>
      have h0 : Blk w b t (pre ++ o :: (old ++ post)).toArray := by simpa using h
      have h1 := h0.put pre.length c
      rw [setIfInBounds_append_left] at h1
      have h2 := setCells_mid b t post cs old (pre ++ [c]) (w.setCell ⟨b, pre.length, none⟩ c) (by simpa using h1) (by simpa using hl)
      have hc := Chg.setCell w ⟨b, pre.length, none⟩ c
      simp only [List.length_append, List.length_cons, List.length_nil, List.append_assoc, List.cons_append, List.nil_append] at h2
      refine ⟨by have h3 := h2.1; simp only [List.append_assoc, List.cons_append] at h3 ⊢; exact h3, h2.2.os.trans hc.os, h2.2.tape.trans hc.tape, h2.2.output.trans hc.output, h2.2.size.trans hc.size, fun g hg => (h2.2.other g hg).trans (hc.other g hg)⟩
variable {P : Program}
theorem wl_load_at {ops : Array Oper} {rest : List Oper} {op : Oper} {a : Act} {w : World} {Q : Exit → Act → World → Prop} (hw : Region.wanted op (yielded ops a.tmps) = true) (ty : TypeId) (x : Operand) (ho : op.op = .load ty x)
    (b o : Nat) (hx : a.eval x = .pointer (some ⟨b, o, none⟩)) (cs : Array Value) (d : TypeDesc) (hc : w.rangeAt b o cs.toList)
    (hu : P.underlying ty = some d) (hd : d.isRow = true) (hi : (P.info? ty).map (·.size) = some cs.size)
    (h : wpList P ops Q rest (a.put op.dst (.agg cs)) w) : wpList P ops Q (op :: rest) a w :=
  BigFrame.wpList_want hw fun _ hK => wp_load_mid ty x ho b o hx cs.toList d hc hu hd (by simpa using hi) (hK _ _ (by simpa using h))
/-- a record is stored into a row that is known whole. -/
theorem wl_store_at {ops : Array Oper} {rest : List Oper} {op : Oper} {a : Act} {w : World} {Q : Exit → Act → World → Prop} (hw : Region.wanted op (yielded ops a.tmps) = true) (ty : TypeId) (x y : Operand) (ho : op.op = .store ty x y)
    (b o : Nat) (cells : Array Value) (hx : a.eval x = .pointer (some ⟨b, o, none⟩)) (hy : a.eval y = .agg cells)
    (t : TypeId) (pre old post : List Value) (hb : Blk w b t (pre ++ old ++ post).toArray) (hpre : pre.length = o) (hs : old.length = cells.size) (hi : (P.info? ty).map (·.size) = some cells.size) (h1 : cells.all (·.oneCell') = true)
    (h : ∀ w', Blk w' b t (pre ++ cells.toList ++ post).toArray → Chg b w w' → wpList P ops Q rest (a.put op.dst undef) w') : wpList P ops Q (op :: rest) a w := by
  subst hpre
  have hk := setCells_mid b t post cells.toList old pre w hb (by simpa using hs)
  refine BigFrame.wpList_want hw fun _ hK => wp_store_mid ty x y ho b pre.length cells hx hy ?_ hi h1 (hK _ _ (h _ hk.1 hk.2))
  intro j hj
  refine ⟨?_, hb.free _⟩
  rw [hb.cell]
  have hlt : pre.length + j < (pre ++ old ++ post).toArray.size := by simp; omega
  rw [Array.getElem?_eq_getElem hlt]
  rfl
section
variable {α : Type} {sz : Nat} {fl : α → List Value}
/-- a row of records, split at one of them. -/
theorem flat_split (hfl : ∀ x, (fl x).length = sz) (l : List α) {i : Nat} {x : α} (hi : l[i]? = some x) :
    l.flatMap fl = (l.take i).flatMap fl ++ fl x ++ (l.drop (i + 1)).flatMap fl ∧ ((l.take i).flatMap fl).length = i * sz := by
  have hlt := (List.getElem?_eq_some_iff.1 hi).1
  refine ⟨?_, ?_⟩
  · have h1 : l = l.take i ++ x :: l.drop (i + 1) := by
      have h2 : l[i] = x := (List.getElem?_eq_some_iff.1 hi).2
      rw [← h2]
      simp
    conv => lhs; rw [h1]
    simp [List.flatMap_append, List.flatMap_cons]
  · rw [flat_length hfl, List.length_take]; congr 1; omega
theorem flat_set (l : List α) {i : Nat} (y : α) (hi : i < l.length) : (l.set i y).flatMap fl = (l.take i).flatMap fl ++ fl y ++ (l.drop (i + 1)).flatMap fl := by
  rw [List.set_eq_take_append_cons_drop, if_pos hi]
  simp [List.flatMap_append, List.flatMap_cons]
end
end Mem
end Go.Proofs.Yteghacdpfhohoaa
