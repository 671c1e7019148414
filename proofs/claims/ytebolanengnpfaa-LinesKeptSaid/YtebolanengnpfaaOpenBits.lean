/-
  Bits that came in, opened.
-/
import Derived.Test.YtebolanengnpfaaOpenRows
import Derived.Test.YtebolanengnpfaaKnown15
namespace Go.Proofs.Ytebolanengnpfaa
open Go.ChangeShapes Go.WideShapes Go.RowKit Go.Joins Go.Deep Mem Num
namespace Opn
section
variable {H : Type} {enc : TypeId × Value → H} {W : World}
theorem open_bits {v : Value} {d : DataW H} {p : List MemPlace} (hv : ∃ a len cap, v = .slice a len cap) (h : DataW.Trod enc Try.prog W 0 (fun _ => true) true 22 v d p) (hlt : ∀ x ∈ p, x.block < W.heap.size)
    (hs : ∀ es sp, d = .slice es sp → (es.length + sp.length) * Try.prog.bytesOf 55 ≤ reachBytes) :
    ∃ A l c, v = .slice A l.length c ∧ RowB W A l c := by
  have hb : Try.prog.bytesOf 55 = 32 := by kernel_rfl
  obtain ⟨A, rows, c, rfl, hc, hr, hR, hf⟩ := open_recs Try.underlying22 Try.underlying55 (by kernel_rfl) (by kernel_rfl) (by decide) hv h hlt hs
  obtain ⟨l, rfl, hl⟩ := list_of_rows (fl := Bt.cells) (Q := fun x => I64 x.kind ∧ I64 x.width ∧ I64 x.height) (rows := rows) (fun r hr => by
    obtain ⟨h4, hj⟩ := hf r hr
    obtain ⟨u0, n0, y0, e0, t0⟩ := hj 0 _ rfl
    obtain ⟨u1, n1, y1, e1, t1⟩ := hj 1 _ rfl
    obtain ⟨u2, n2, y2, e2, t2⟩ := hj 2 _ rfl
    obtain ⟨u3, n3, y3, e3, t3⟩ := hj 3 _ rfl
    obtain ⟨x0, rfl, i0⟩ := field_i64 Try.underlying3 t0
    obtain ⟨x1, rfl, i1⟩ := field_i64 Try.underlying2 t1
    obtain ⟨x2, rfl, i2⟩ := field_i64 Try.underlying2 t2
    obtain ⟨x3, rfl⟩ := field_bool Try.underlying4 t3
    refine ⟨⟨x0, x1, x2, x3⟩, ?_, i0, i1, i2⟩
    match r, h4, e0, e1, e2, e3 with
    | [a, b, c, d], _, e0, e1, e2, e3 =>
      simp at e0 e1 e2 e3
      simp [Bt.cells, e0, e1, e2, e3])
  rw [hb] at hr
  refine ⟨A, l, c, by simp, recs_of_rows hR, by simpa using hc, ?_, hl⟩
  unfold reachBytes at hr
  omega
end
end Opn
end Go.Proofs.Ytebolanengnpfaa
