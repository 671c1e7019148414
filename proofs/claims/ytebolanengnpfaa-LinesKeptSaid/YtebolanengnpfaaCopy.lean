/-
  Rows of records: made, and copied over the beginning of a row that is known whole.
-/
import Derived.Test.YtebolanengnpfaaMid
import Derived.Laws.CopyOwn
namespace Go.Proofs.Ytebolanengnpfaa
open Go.RowKit Mem
set_option linter.unusedVariables false
namespace Mem
variable {P : Program}
theorem run_copy_recs (w : World) (dT sT ty elem : TypeId) (sz g dLen dCap : Nat) (sp : Option Addr) (n sCap : Nat) (hu : P.underlying dT = some (.slice elem)) (hsz : (P.info? elem).map (·.size) = some sz) (hle : n ≤ dLen)
    (t : TypeId) (old post cs : List Value) (hb : Blk w g t (old ++ post).toArray) (hcl : cs.length = n * sz) (hold : old.length = n * sz)
    (hpos : 0 < n → ∃ ad, sp = some ad ∧ ∀ j v, cs[j]? = some v → w.cell? (ad.add j) = some v) (h1 : ∀ v ∈ cs, v.oneCell' = true) :
    (Builtin.copy_ #[dT, sT] ty #[.slice (some ⟨g, 0, none⟩) dLen dCap, .slice sp n sCap]).run P w = .ok (goInt n) (w.setCells g 0 cs) := by
  cases hq : P.info? elem with
  | none => simp [hq] at hsz
  | some i =>
    have hi : i.size = sz := by simpa [hq] using hsz
    have hmin : min n dLen = n := Nat.min_eq_left hle
    rcases Nat.eq_zero_or_pos n with h0 | h0
    · subst h0
      obtain rfl : cs = [] := List.eq_nil_of_length_eq_zero (by simpa using hcl)
      have hl : ∀ (x : Addr), (loadCells x 0).run P w = .ok #[] w := fun x => by simpa using run_loadCells_list (P := P) w x [] (by simp)
      cases sp <;> simp [Builtin.copy_, run_underlying hu, Builtin.lenOf, Builtin.firstCells, sizeOf, typeInfo, hq, hmin, storeCells, hl, World.setCells]
    · obtain ⟨ad, rfl, hc⟩ := hpos h0
      have hl : (loadCells ad (n * i.size)).run P w = .ok cs.toArray w := by rw [hi, ← hcl]; exact run_loadCells_list (P := P) w ad cs hc
      have hlen : (old ++ post).toArray.size = old.length + post.length := by simp
      have hst := run_storeCells_cells (P := P) g 0 cs 0 w (fun j hj => by
        simp only [Nat.zero_add]
        rw [hb.cell, Array.getElem?_eq_getElem (by rw [hlen]; omega)]; rfl) (fun j hj => by simp only [Nat.zero_add]; exact hb.free j) h1
      simp only [Nat.add_zero] at hst
      simp [Builtin.copy_, run_underlying hu, Builtin.lenOf, Builtin.firstCells, sizeOf, typeInfo, hq, hmin, hl, hst]
theorem wl_copy_recs {w : World} {ops : Array Oper} {rest : List Oper} {o : Oper} {a : Act} {Q : Exit → Act → World → Prop} (hgd : o.guard = none) (d s : Operand) (dT sT : TypeId)
    (ho : o.op = .call { callee := .builtin .copy, args := #[d, s], argTypes := #[dT, sT] }) (elem : TypeId) (sz g dLen dCap : Nat) (sp : Option Addr) (n sCap : Nat) (hu : P.underlying dT = some (.slice elem)) (hsz : (P.info? elem).map (·.size) = some sz)
    (hd : a.eval d = .slice (some ⟨g, 0, none⟩) dLen dCap) (hs : a.eval s = .slice sp n sCap) (hle : n ≤ dLen)
    (t : TypeId) (old post cs : List Value) (hb : Blk w g t (old ++ post).toArray) (hcl : cs.length = n * sz) (hold : old.length = n * sz)
    (hpos : 0 < n → ∃ ad, sp = some ad ∧ ∀ j v, cs[j]? = some v → w.cell? (ad.add j) = some v) (h1 : ∀ v ∈ cs, v.oneCell' = true)
    (h : ∀ w', Blk w' g t (cs ++ post).toArray → Chg g w w' → wpList P ops Q rest (a.put o.dst (goInt n)) w') : wpList P ops Q (o :: rest) a w := by
  refine wpList_plain hgd fun K hK => ?_
  have hrun := run_copy_recs (P := P) w dT sT o.type elem sz g dLen dCap sp n sCap hu hsz hle t old post cs hb hcl hold hpos h1
  have hk := setCells_mid g t post cs old [] w (by simpa using hb) (by omega)
  unfold Oper.wp
  simp [execOp, ho, resolve, invoke, builtin, hd, hs, hrun, Result.andThen]
  exact hK _ _ (h _ (by simpa using hk.1) (by simpa using hk.2))
/-- new rows hold the zero value's cells, one behind the other. -/
theorem made_flat {α : Type} {fl : α → List Value} {z : α} {zv : Array Value} (hz : zv.toList = fl z) (hpos : 0 < zv.size) (n : Nat) : (madeCells zv (n * zv.size)) = ((List.replicate n z).flatMap fl).toArray := by
  apply Array.ext'
  have hlz : (fl z).length = zv.size := by rw [← hz]; simp
  have hfl : ∀ m, ((List.replicate m z).flatMap fl).length = m * zv.size := by
    intro m
    induction m with
    | zero => simp
    | succ m ih => rw [List.replicate_succ, List.flatMap_cons, List.length_append, ih, hlz, Nat.add_mul]; omega
  apply List.ext_getElem
  · simp only [Array.length_toList, size_madeCells]
    exact (hfl n).symm
  · intro i h1 h2
    have hi : i < n * zv.size := by simpa [size_madeCells] using h1
    have hm : i % zv.size < zv.size := Nat.mod_lt _ hpos
    have hg : ∀ m i, i < m * zv.size → ((List.replicate m z).flatMap fl)[i]? = (fl z)[i % zv.size]? := by
      intro m
      induction m with
      | zero => intro i hi; omega
      | succ m ih =>
        intro i hi
        rw [List.replicate_succ, List.flatMap_cons]
        rcases Nat.lt_or_ge i zv.size with h3 | h3
        · rw [List.getElem?_append_left (by omega), Nat.mod_eq_of_lt h3]
        · rw [List.getElem?_append_right (by omega), hlz, ih _ (by rw [Nat.add_mul] at hi; omega)]
          congr 1
          rw [Nat.mod_eq_sub_mod h3]
    have h3 := hg n i hi
    rw [List.getElem?_eq_getElem h2, ← hz] at h3
    have h4 : zv.toList[i % zv.size]? = some (zv.toList[i % zv.size]'(by simpa using hm)) := List.getElem?_eq_getElem _
    rw [h4] at h3
    rw [Option.some.inj h3]
    simp [madeCells, hm]
end Mem
end Go.Proofs.Ytebolanengnpfaa
