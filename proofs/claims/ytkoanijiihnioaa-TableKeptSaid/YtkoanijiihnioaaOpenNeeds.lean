/-
  Rows of rows that came in, opened: of needs, of numbers.
-/
import Derived.Test.YtkoanijiihnioaaOpenRows
import Derived.Test.YtkoanijiihnioaaTabA
namespace Go.Proofs.Ytkoanijiihnioaa
open Go.ChangeShapes Go.WideShapes Go.RowKit Go.Joins Go.Deep Mem
namespace Opn
section
variable {H : Type} {enc : TypeId × Value → H} {P : Program} {W : World}
theorem weights_all {e : TypeId} {l : List (DataW H)} {d : DataW H} (hd : d ∈ l) {n : Nat} (hn : n ∈ d.weights P e) : n ∈ DataW.weightsAll P e l := by
  induction l with
  | nil => simp at hd
  | cons a l ih =>
    simp only [DataW.weightsAll, List.mem_append]
    rcases List.mem_cons.1 hd with h | h
    · subst h; exact .inl hn
    · exact .inr (ih h)
/-- a slice of slices: its cells, each a slice that reads. -/
theorem open_outer {t e q : TypeId} {v : Value} {d : DataW H} {p : List MemPlace} (ht : P.underlying t = some (.slice e)) (he : P.underlying e = some (.slice q)) (ce : P.cellsOf e = 1) (be : P.bytesOf e = 24)
    (hv : ∃ a len cap, v = .slice a len cap) (h : DataW.Trod enc P W 0 (fun _ => true) true t v d p) (hlt : ∀ x ∈ p, x.block < W.heap.size) (hs : ∀ n ∈ d.weights P t, n ≤ reachBytes) :
    ∃ A vs c, v = .slice A vs.length c ∧ vs.length ≤ c ∧ c ≤ 4611686018427387904 ∧ Seg W W.heap.size A vs ∧
      ∀ u ∈ vs, (∃ a len cap, u = .slice a len cap) ∧ ∃ d' p', DataW.Trod enc P W 0 (fun _ => true) true e u d' p' ∧ (∀ x ∈ p', x.block < W.heap.size) ∧ (∀ es sp, d' = .slice es sp → (es.length + sp.length) * P.bytesOf q ≤ reachBytes) := by
  obtain ⟨a, len, cap, rfl⟩ := hv
  obtain ⟨fuel, hf⟩ := h
  rcases open_slice1 ht ce hf with ⟨hcs, _⟩ | ⟨x, n, c, m, q', V, D, Pl, hcs, _, hl, hm, hmm, hx, hi⟩
  · simp [Value.cells] at hcs
    obtain ⟨rfl, rfl, rfl⟩ := hcs
    exact ⟨none, [], 0, rfl, Nat.le_refl _, by omega, Seg.nil _ _ _, by simp⟩
  · simp [Value.cells] at hcs
    obtain ⟨rfl, rfl, rfl⟩ := hcs
    simp only [if_true] at hmm
    subst hmm
    simp only [Prod.mk.injEq] at hx
    obtain ⟨rfl, rfl⟩ := hx
    have hout : m * 24 ≤ reachBytes := by
      have := hs ((((List.range len).map D).length + ((List.range (m - len)).map fun j => D (len + j)).length) * P.bytesOf e) (by simp [DataW.weights, ht])
      rw [be] at this
      simp only [List.length_map, List.length_range] at this
      rwa [show len + (m - len) = m by omega] at this
    refine ⟨some x, (List.range len).map V, m, by simp, by simpa using hl, by unfold reachBytes at hout; omega, ?_, ?_⟩
    · intro hne
      have hpos : 0 < len := by
        rcases Nat.eq_zero_or_pos len with h0 | h0
        · subst h0; simp at hne
        · exact h0
      obtain ⟨b, off, spot⟩ := x
      have h0 := (hi 0 (by omega)).1
      have hspot : spot = none := by simpa [Addr.add] using World.cell?_spot h0
      subst hspot
      refine ⟨b, off, rfl, hlt (.cell b off) (List.mem_append_left _ (MemPlace.mem_row.2 ⟨0, by omega, by simp⟩)), fun j hj => ?_⟩
      have hj' : j < len := by simpa using hj
      have h2 := (hi j (by omega)).1
      rw [Addr.add_mid] at h2
      rw [h2]
      simp [hj']
    · intro u hu
      rw [List.mem_map] at hu
      obtain ⟨i, hi1, rfl⟩ := hu
      rw [List.mem_range] at hi1
      obtain ⟨h1, h2⟩ := hi i (by omega)
      have hshape : ∃ a len cap, V i = .slice a len cap := by
        rcases open_slice he h2 with ⟨hc, _⟩ | ⟨a, l2, c2, _, _, _, _, hc, _⟩
        · simp at hc; exact ⟨_, _, _, hc⟩
        · simp at hc; exact ⟨_, _, _, hc⟩
      refine ⟨hshape, D i, Pl i, ⟨q', ?_⟩, fun y hy => hlt y (List.mem_append_right _ (List.mem_flatMap.2 ⟨i, List.mem_range.2 (by omega), hy⟩)), fun es sp e1 => ?_⟩
      · obtain ⟨a, l2, c2, hva⟩ := hshape
        rw [hva] at h2 ⊢
        exact h2
      · refine hs _ ?_
        simp only [DataW.weights, ht, List.mem_cons, List.mem_append]
        right; left
        refine weights_all (d := D i) (List.mem_map.2 ⟨i, List.mem_range.2 hi1, rfl⟩) ?_
        rw [e1]
        simp [DataW.weights, he]
/-- rows of which each reads, chosen all at once. -/
theorem rows_choose {α : Type} {sz : Nat} {fl : α → List Value} {ok : α → Prop} : ∀ {vs : List Value}, (∀ u ∈ vs, ∃ A' r c, u = .slice A' r.length c ∧ r.length ≤ c ∧ c ≤ 4611686018427387904 ∧ Recs W W.heap.size A' sz fl r ∧ ∀ x ∈ r, ok x) →
    ∃ ls : List (List α), vs.length = ls.length ∧ (∀ (i : Nat) (r : List α), ls[i]? = some r → ∃ A' c, vs[i]? = some (Value.slice A' r.length c) ∧ r.length ≤ c ∧ Recs W W.heap.size A' sz fl r) ∧ ∀ r ∈ ls, r.length ≤ 4611686018427387904 ∧ ∀ x ∈ r, ok x := by
  intro vs
  induction vs with
  | nil => intro _; exact ⟨[], rfl, fun i r h => by simp at h, by simp⟩
  | cons v vs ih =>
    intro h
    obtain ⟨A', r, c, rfl, h1, h2, h3, h4⟩ := h v (by simp)
    obtain ⟨ls, k1, k2, k3⟩ := ih (fun u hu => h u (by simp [hu]))
    refine ⟨r :: ls, by simp [k1], fun i q hq => ?_, fun q hq => ?_⟩
    · cases i with
      | zero =>
        have : r = q := by simpa using hq
        subst this
        exact ⟨A', c, rfl, h1, h3⟩
      | succ i => exact k2 i q (by simpa using hq)
    · rcases List.mem_cons.1 hq with e | e
      · subst e; exact ⟨by omega, h4⟩
      · exact k3 q e
end
end Opn
/-- rows of needs that came in. -/
structure RowsN (W : World) (A : Option Addr) (ls : List (List Num.Nd)) (c : Nat) : Prop where
  ex : ∃ vs, Rows2 W W.heap.size A 2 Num.Nd.cells vs ls
  cap : ls.length ≤ c
  few : c ≤ 4611686018427387904
  ok : ∀ r ∈ ls, r.length ≤ 4611686018427387904 ∧ ∀ x ∈ r, Opn.I64 x.least ∧ Opn.I64 x.most
/-- a row of needs that came in. -/
structure RowN (W : World) (A : Option Addr) (r : List Num.Nd) (c : Nat) : Prop where
  row : Recs W W.heap.size A 2 Num.Nd.cells r
  cap : r.length ≤ c
  few : c ≤ 4611686018427387904
  ok : ∀ x ∈ r, Opn.I64 x.least ∧ Opn.I64 x.most
namespace Opn
section
variable {H : Type} {enc : TypeId × Value → H} {W : World}
theorem open_need {v : Value} {d : DataW H} {p : List MemPlace} (hv : ∃ a len cap, v = .slice a len cap) (h : DataW.Trod enc Try.prog W 0 (fun _ => true) true 53 v d p) (hlt : ∀ x ∈ p, x.block < W.heap.size)
    (hs : ∀ es sp, d = .slice es sp → (es.length + sp.length) * Try.prog.bytesOf 58 ≤ reachBytes) :
    ∃ A l c, v = .slice A l.length c ∧ RowN W A l c := by
  have hb : Try.prog.bytesOf 58 = 16 := by kernel_rfl
  obtain ⟨A, rows, c, rfl, hc, hr, hR, hf⟩ := open_recs Try.underlying53 Try.underlying58 (by kernel_rfl) (by kernel_rfl) (by decide) hv h hlt hs
  obtain ⟨l, rfl, hl⟩ := list_of_rows (fl := Num.Nd.cells) (Q := fun x => I64 x.least ∧ I64 x.most) (rows := rows) (fun r hr => by
    obtain ⟨h4, hj⟩ := hf r hr
    obtain ⟨u0, n0, y0, e0, t0⟩ := hj 0 _ rfl
    obtain ⟨u1, n1, y1, e1, t1⟩ := hj 1 _ rfl
    obtain ⟨x0, rfl, i0⟩ := field_i64 Try.underlying2 t0
    obtain ⟨x1, rfl, i1⟩ := field_i64 Try.underlying2 t1
    refine ⟨⟨x0, x1⟩, ?_, i0, i1⟩
    match r, h4, e0, e1 with
    | [a, b], _, e0, e1 =>
      simp at e0 e1
      simp [Num.Nd.cells, e0, e1])
  rw [hb] at hr
  refine ⟨A, l, c, by simp, recs_of_rows hR, by simpa using hc, ?_, hl⟩
  unfold reachBytes at hr
  omega
theorem open_needs {v : Value} {d : DataW H} {p : List MemPlace} (hv : ∃ a len cap, v = .slice a len cap) (h : DataW.Trod enc Try.prog W 0 (fun _ => true) true 49 v d p) (hlt : ∀ x ∈ p, x.block < W.heap.size)
    (hs : ∀ n ∈ d.weights Try.prog 49, n ≤ reachBytes) :
    ∃ A ls c, v = .slice A ls.length c ∧ RowsN W A ls c := by
  obtain ⟨A, vs, c, rfl, hc, hc2, hS, hu⟩ := open_outer Try.underlying49 Try.underlying53 (by kernel_rfl) (by kernel_rfl) hv h hlt hs
  obtain ⟨ls, k1, k2, k3⟩ := rows_choose (W := W) (sz := 2) (fl := Num.Nd.cells) (ok := fun x => I64 x.least ∧ I64 x.most) (vs := vs) (fun u hm => by
    obtain ⟨hsh, d', p', ht, hl, hw⟩ := hu u hm
    obtain ⟨A', r, c', rfl, hr⟩ := open_need hsh ht hl hw
    exact ⟨A', r, c', rfl, hr.cap, hr.few, hr.row, hr.ok⟩)
  exact ⟨A, ls, c, by rw [k1], ⟨vs, k1, hS, k2⟩, by rw [← k1]; exact hc, hc2, k3⟩
end
end Opn
end Go.Proofs.Ytkoanijiihnioaa
