/-
  What came in, opened: numbers, rows of numbers, structs of numbers.
-/
import Derived.Test.YtkkiefcapbddkaaGreatDoorMem
import Derived.ProofKit
import Derived.OpenShut
import Derived.SizedLaws
import Derived.Lib.SmallJoins
namespace Go.Proofs.YtkkiefcapbddkaaGreatDoor
open Go.ChangeShapes Go.WideShapes Go.RowKit Go.Joins Go.Deep Mem
namespace Opn
/-- a number that fits int64. -/
def I64 (a : Int) : Prop := -9223372036854775808 ≤ a ∧ a ≤ 9223372036854775807
theorem i64_of_wf {a : Int} (h : (Lit.int .i64 a).wf = true) : I64 a := by
  simp [Lit.wf, IntKind.min, IntKind.max, IntKind.signed, IntKind.bits] at h
  exact ⟨by omega, by omega⟩
/-- a row of numbers that came in: its elements, its address, its capacity. -/
def Row64 (W : World) (A : Option Addr) (l : List Int) (c : Nat) : Prop := Ints W W.heap.size A l ∧ l.length ≤ c ∧ c ≤ 17592186043904 ∧ ∀ x ∈ l, I64 x

section
variable {H : Type} {enc : TypeId × Value → H} {P : Program} {W : World}
theorem open_row {t e : TypeId} {v : Value} {d : DataW H} {p : List MemPlace} (ht : P.underlying t = some (.slice e)) (he : P.underlying e = some (.int .i64)) (hc : P.cellsOf e = 1) (hb : P.bytesOf e = 8)
    (hv : ∃ a len cap, v = .slice a len cap) (h : DataW.Trod enc P W 0 (fun _ => true) true t v d p) (hlt : ∀ x ∈ p, x.block < W.heap.size)
    (hs : ∀ es sp, d = .slice es sp → (es.length + sp.length) * P.bytesOf e ≤ reachBytes) :
    ∃ A l c, v = .slice A l.length c ∧ Row64 W A l c := by
  obtain ⟨a, len, cap, rfl⟩ := hv
  obtain ⟨fuel, hf⟩ := h
  rcases open_ints ht he hc hf with ⟨hcs, _⟩ | ⟨x, n, c, zs, hcs, _, hl, hm, hz, hx, hcell, hwz⟩
  · simp [Value.cells] at hcs
    obtain ⟨rfl, rfl, rfl⟩ := hcs
    exact ⟨none, [], 0, rfl, Seg.nil _ _ _, Nat.le_refl _, by omega, by simp⟩
  · simp [Value.cells] at hcs
    obtain ⟨rfl, rfl, rfl⟩ := hcs
    simp only [if_true] at hz
    simp only [Prod.mk.injEq] at hx
    obtain ⟨rfl, rfl⟩ := hx
    have hr := hs _ _ rfl
    rw [hb] at hr
    simp only [lits, List.length_map, List.length_take, List.length_drop, reachBytes] at hr
    have hlen : (zs.take len).length = len := by simp; omega
    refine ⟨some x, zs.take len, cap, by rw [hlen], ?_, by omega, by omega, fun y hy => i64_of_wf (hwz y (List.mem_of_mem_take hy))⟩
    intro hne
    have hpos : 0 < zs.length := by
      rcases Nat.eq_zero_or_pos zs.length with h0 | h0
      · have : zs = [] := List.eq_nil_of_length_eq_zero h0
        subst this
        simp at hne
      · exact h0
    obtain ⟨b, off, spot⟩ := x
    have h0 := hcell 0 hpos
    have hspot : spot = none := by simpa [Addr.add] using World.cell?_spot h0
    subst hspot
    refine ⟨b, off, rfl, hlt (.cell b off) (MemPlace.mem_row.2 ⟨0, by omega, by simp⟩), fun j hj => ?_⟩
    rw [List.length_map, hlen] at hj
    have hj' : j < zs.length := by omega
    have := hcell j hj'
    rw [show (Addr.add ⟨b, off, none⟩ j) = ⟨b, off + j, none⟩ by unfold Addr.add; split <;> simp_all] at this
    rw [this]
    simp [List.getElem?_take_of_lt hj, List.getD_eq_getElem?_getD, hj']
theorem open_four {t e0 e1 e2 e3 : TypeId} {f0 f1 f2 f3 : Field} {v : Value} {d : DataW H} {p : List MemPlace} {b0 : Nat} (hs : P.underlying t = some (.struct #[f0, f1, f2, f3])) (hone : oneCellFields P #[f0, f1, f2, f3] = true) (hC : P.cellsOf t = 4)
    (g0 : f0.type = e0) (g1 : f1.type = e1) (g2 : f2.type = e2) (g3 : f3.type = e3)
    (i0 : P.underlying e0 = some (.int .i64)) (i1 : P.underlying e1 = some (.int .i64)) (i2 : P.underlying e2 = some (.int .i64)) (i3 : P.underlying e3 = some (.int .i64))
    (hv : Value.okWide P W .any b0 t v) (h : DataW.Trod enc P W 0 (fun _ => true) true t v d p) :
    ∃ x0 x1 x2 x3, v = .agg #[.int .i64 x0, .int .i64 x1, .int .i64 x2, .int .i64 x3] ∧ I64 x0 ∧ I64 x1 ∧ I64 x2 ∧ I64 x3 := by
  subst g0 g1 g2 g3
  obtain ⟨v0, v1, v2, v3, y0, y1, y2, y3, n, rfl, _, _, h0, h1, h2, h3⟩ := open_agg4 hs hone hC hv h
  obtain ⟨x0, e0, _, w0⟩ := DataW.trod_int i0 h0
  obtain ⟨x1, e1, _, w1⟩ := DataW.trod_int i1 h1
  obtain ⟨x2, e2, _, w2⟩ := DataW.trod_int i2 h2
  obtain ⟨x3, e3, _, w3⟩ := DataW.trod_int i3 h3
  simp only [List.cons.injEq, and_true] at e0 e1 e2 e3
  subst e0 e1 e2 e3
  exact ⟨x0, x1, x2, x3, rfl, i64_of_wf w0, i64_of_wf w1, i64_of_wf w2, i64_of_wf w3⟩
end
end Opn
end Go.Proofs.YtkkiefcapbddkaaGreatDoor
