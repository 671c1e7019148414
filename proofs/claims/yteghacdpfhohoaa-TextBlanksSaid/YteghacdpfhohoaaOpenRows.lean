/-
  Rows of structs that came in, opened.
-/
import Derived.Test.YteghacdpfhohoaaOpen
import Derived.Test.YteghacdpfhohoaaRecs
import Derived.Deep.Slices
import Derived.Deep.Fields
namespace Go.Proofs.Yteghacdpfhohoaa
open Go.ChangeShapes Go.WideShapes Go.RowKit Go.Joins Go.Deep Mem
namespace Opn
section
variable {H : Type} {enc : TypeId × Value → H} {P : Program} {W : World}
/-- a row's elements, each as its cells, with a reading of each field. -/
theorem open_recs {t e : TypeId} {fs : Array Field} {v : Value} {d : DataW H} {p : List MemPlace} (ht : P.underlying t = some (.slice e)) (he : P.underlying e = some (.struct fs)) (hone : oneCellFields P fs = true) (hC : P.cellsOf e = fs.size) (hpos : 0 < fs.size)
    (hv : ∃ a len cap, v = .slice a len cap) (h : DataW.Trod enc P W 0 (fun _ => true) true t v d p) (hlt : ∀ x ∈ p, x.block < W.heap.size)
    (hs : ∀ es sp, d = .slice es sp → (es.length + sp.length) * P.bytesOf e ≤ reachBytes) :
    ∃ A rows c, v = .slice A rows.length c ∧ rows.length ≤ c ∧ c * P.bytesOf e ≤ reachBytes ∧ Recs W W.heap.size A fs.size (fun r => r) rows ∧
      ∀ r ∈ rows, r.length = fs.size ∧ ∀ (j : Nat) (f : Field), fs[j]? = some f → ∃ u n y, r[j]? = some u ∧ DataW.trod enc P W 0 (fun _ => true) true n f.type [u] = some y := by
  obtain ⟨a, len, cap, rfl⟩ := hv
  obtain ⟨fuel, hf⟩ := h
  rcases open_slice ht hf with ⟨hcs, _⟩ | ⟨x, n, c, m, q, D, Pl, hcs, _, hl, hm, hmm, hx, hi⟩
  · simp [Value.cells] at hcs
    obtain ⟨rfl, rfl, rfl⟩ := hcs
    exact ⟨none, [], 0, rfl, Nat.le_refl _, by simp, Recs.nil _ _ _ _ _, by simp⟩
  · simp [Value.cells] at hcs
    obtain ⟨rfl, rfl, rfl⟩ := hcs
    simp only [if_true] at hmm
    subst hmm
    simp only [Prod.mk.injEq] at hx
    obtain ⟨rfl, rfl⟩ := hx
    have hr := hs _ _ rfl
    simp only [List.length_map, List.length_range] at hr
    rw [show len + (m - len) = m by omega] at hr
    rw [hC] at hi
    obtain ⟨R, hR⟩ := choose_lt (α := List Value) (p := fun i cs' => W.cells? 0 (x.add (i * fs.size)) fs.size = some cs' ∧ DataW.trod enc P W 0 (fun _ => true) true q e cs' = some (D i, Pl i)) (fun i him => hi i him)
    refine ⟨some x, (List.range len).map R, m, by simp, by simpa using hl, hr, ?_, ?_⟩
    · intro hne
      have hpos2 : 0 < len := by
        rcases Nat.eq_zero_or_pos len with h0 | h0
        · subst h0; simp at hne
        · exact h0
      obtain ⟨b, off, spot⟩ := x
      obtain ⟨_, hc0, hcell0⟩ := World.cells?_some (hR 0 (by omega)).1
      have h0 := hcell0 0 hpos
      rw [List.getElem?_eq_getElem (by omega)] at h0
      have hspot : spot = none := by simpa [Addr.add] using World.cell?_spot h0
      subst hspot
      refine ⟨b, off, rfl, hlt (.cell b off) (List.mem_append_left _ (MemPlace.mem_row.2 ⟨0, by rw [hC]; exact Nat.mul_pos (by omega) hpos, by simp⟩)), ?_⟩
      intro i r hir j u hju
      rw [List.getElem?_map] at hir
      have hil : i < len := by
        rcases Nat.lt_or_ge i len with h1 | h1
        · exact h1
        · rw [List.getElem?_eq_none (by simpa using h1)] at hir; simp at hir
      rw [List.getElem?_range hil] at hir
      obtain rfl : R i = r := by simpa using hir
      obtain ⟨_, hcl, hcell⟩ := World.cells?_some (hR i (by omega)).1
      replace hju : (R i)[j]? = some u := hju
      have hj : j < fs.size := by
        have := (List.getElem?_eq_some_iff.1 hju).1
        omega
      have h2 := hcell j hj
      rw [Addr.add_mid, Addr.add_mid] at h2
      rw [h2, hju]
    · intro r hr2
      rw [List.mem_map] at hr2
      obtain ⟨i, hi1, rfl⟩ := hr2
      rw [List.mem_range] at hi1
      obtain ⟨h1, h2⟩ := hR i (by omega)
      obtain ⟨_, hcl, _⟩ := World.cells?_some h1
      obtain ⟨ys, n', _, hy, _, hyl, hg⟩ := DataW.trod_struct he h2
      refine ⟨hcl, fun j f hj => ?_⟩
      obtain ⟨ho, hk⟩ := hone_of hone j f hj
      have hjl : j < fs.size := (Array.getElem?_eq_some_iff.1 hj).1
      have h3 := hg j f hj
      rw [ho, hk] at h3
      have h4 : ((R i).drop j).take 1 = [(R i)[j]'(by omega)] := by
        rw [List.drop_eq_getElem_cons (by omega)]
        rfl
      rw [h4] at h3
      exact ⟨_, n', _, List.getElem?_eq_getElem (by omega), h3.trans (List.getElem?_eq_getElem (by omega))⟩
/-- rows that are the cells of records. -/
theorem recs_of_rows {α : Type} {w : World} {B : Nat} {A : Option Addr} {sz : Nat} {fl : α → List Value} {l : List α} (h : Recs w B A sz (fun r => r) (l.map fl)) : Recs w B A sz fl l := fun hn => by
  obtain ⟨b, off, e, hb, hc⟩ := h (by simpa using hn)
  exact ⟨b, off, e, hb, fun i x hx j v hv => hc i (fl x) (by simp [hx]) j v hv⟩
theorem list_of_rows {α : Type} {fl : α → List Value} {Q : α → Prop} {rows : List (List Value)} (h : ∀ r ∈ rows, ∃ x, r = fl x ∧ Q x) : ∃ l : List α, rows = l.map fl ∧ ∀ x ∈ l, Q x := by
  induction rows with
  | nil => exact ⟨[], rfl, by simp⟩
  | cons r t ih =>
    obtain ⟨x, hx, hq⟩ := h r (by simp)
    obtain ⟨l, hl, hl2⟩ := ih (fun r hr => h r (by simp [hr]))
    exact ⟨x :: l, by simp [hx, hl], by simpa using ⟨hq, hl2⟩⟩
theorem field_i64 {u : TypeId} {v : Value} {n : Nat} {y : DataW H × List MemPlace} (hu : P.underlying u = some (.int .i64)) (h : DataW.trod enc P W 0 (fun _ => true) true n u [v] = some y) : ∃ x, v = .int .i64 x ∧ I64 x := by
  obtain ⟨x, e, _, w0⟩ := DataW.trod_int hu h
  simp only [List.cons.injEq, and_true] at e
  exact ⟨x, e, i64_of_wf w0⟩
theorem field_bool {u : TypeId} {v : Value} {n : Nat} {y : DataW H × List MemPlace} (hu : P.underlying u = some .bool) (h : DataW.trod enc P W 0 (fun _ => true) true n u [v] = some y) : ∃ x, v = .bool x := by
  obtain ⟨x, e, _⟩ := DataW.trod_bool hu h
  simp only [List.cons.injEq, and_true] at e
  exact ⟨x, e⟩
end
end Opn
end Go.Proofs.Yteghacdpfhohoaa
