/-
  Items that came in, opened.
-/
import Derived.Test.YteghacdpfhohoaaOpenRows
import Derived.Test.YteghacdpfhohoaaRecs
import Derived.Test.YteghacdpfhohoaaFix
import Derived.Test.YteghacdpfhohoaaFlexA
namespace Go.Proofs.Yteghacdpfhohoaa
open Go.ChangeShapes Go.WideShapes Go.RowKit Go.Joins Go.Deep Mem
/-- a row of items that came in. -/
structure RowI (W : World) (A : Option Addr) (l : List Num.It) (c : Nat) : Prop where
  row : Recs W W.heap.size A 4 Num.It.cells l
  cap : l.length ≤ c
  few : c ≤ 4611686018427387904
  ok : ∀ x ∈ l, Opn.I64 x.base ∧ Opn.I64 x.outer ∧ Opn.I64 x.grow ∧ Opn.I64 x.shrink
namespace Opn
section
variable {H : Type} {enc : TypeId × Value → H} {W : World}
theorem open_items {v : Value} {d : DataW H} {p : List MemPlace} (hv : ∃ a len cap, v = .slice a len cap) (h : DataW.Trod enc Try.prog W 0 (fun _ => true) true 22 v d p) (hlt : ∀ x ∈ p, x.block < W.heap.size)
    (hs : ∀ es sp, d = .slice es sp → (es.length + sp.length) * Try.prog.bytesOf 30 ≤ reachBytes) :
    ∃ A l c, v = .slice A l.length c ∧ RowI W A l c := by
  have hb : Try.prog.bytesOf 30 = 32 := by kernel_rfl
  obtain ⟨A, rows, c, rfl, hc, hr, hR, hf⟩ := open_recs Try.underlying22 Try.underlying30 (by kernel_rfl) (by kernel_rfl) (by decide) hv h hlt hs
  obtain ⟨l, rfl, hl⟩ := list_of_rows (fl := Num.It.cells) (Q := fun x => I64 x.base ∧ I64 x.outer ∧ I64 x.grow ∧ I64 x.shrink) (rows := rows) (fun r hr => by
    obtain ⟨h4, hj⟩ := hf r hr
    obtain ⟨u0, n0, y0, e0, t0⟩ := hj 0 _ rfl
    obtain ⟨u1, n1, y1, e1, t1⟩ := hj 1 _ rfl
    obtain ⟨u2, n2, y2, e2, t2⟩ := hj 2 _ rfl
    obtain ⟨u3, n3, y3, e3, t3⟩ := hj 3 _ rfl
    obtain ⟨x0, rfl, i0⟩ := field_i64 Try.underlying2 t0
    obtain ⟨x1, rfl, i1⟩ := field_i64 Try.underlying2 t1
    obtain ⟨x2, rfl, i2⟩ := field_i64 Try.underlying2 t2
    obtain ⟨x3, rfl, i3⟩ := field_i64 Try.underlying2 t3
    refine ⟨⟨x0, x1, x2, x3⟩, ?_, i0, i1, i2, i3⟩
    match r, h4, e0, e1, e2, e3 with
    | [a, b, c, d], _, e0, e1, e2, e3 =>
      simp at e0 e1 e2 e3
      simp [Num.It.cells, e0, e1, e2, e3])
  rw [hb] at hr
  refine ⟨A, l, c, by simp, recs_of_rows hR, by simpa using hc, ?_, hl⟩
  unfold reachBytes at hr
  omega
end
end Opn
end Go.Proofs.Yteghacdpfhohoaa
