/-
  Asks that came in, opened.
-/
import Derived.Test.YtkoanijiihnioaaOpenRows
import Derived.Test.YtkoanijiihnioaaRecs
import Derived.Test.YtkoanijiihnioaaFix
namespace Go.Proofs.Ytkoanijiihnioaa
open Go.ChangeShapes Go.WideShapes Go.RowKit Go.Joins Go.Deep Mem
/-- what is asked for. -/
structure Ak where
  right : Bool
  w : Int
  h : Int
  from_ : Int
def Ak.cells (x : Ak) : List Value := [.bool x.right, .int .i64 x.w, .int .i64 x.h, .int .i64 x.from_]
theorem ak_length (x : Ak) : x.cells.length = 4 := rfl
/-- a row of asks that came in. -/
structure RowA (W : World) (A : Option Addr) (l : List Ak) (c : Nat) : Prop where
  row : Recs W W.heap.size A 4 Ak.cells l
  cap : l.length ≤ c
  few : c ≤ 4611686018427387904
  ok : ∀ x ∈ l, Opn.I64 x.w ∧ Opn.I64 x.h ∧ Opn.I64 x.from_
namespace Opn
section
variable {H : Type} {enc : TypeId × Value → H} {W : World}
theorem open_asks {v : Value} {d : DataW H} {p : List MemPlace} (hv : ∃ a len cap, v = .slice a len cap) (h : DataW.Trod enc Try.prog W 0 (fun _ => true) true 22 v d p) (hlt : ∀ x ∈ p, x.block < W.heap.size)
    (hs : ∀ es sp, d = .slice es sp → (es.length + sp.length) * Try.prog.bytesOf 30 ≤ reachBytes) :
    ∃ A l c, v = .slice A l.length c ∧ RowA W A l c := by
  have hb : Try.prog.bytesOf 30 = 32 := by kernel_rfl
  obtain ⟨A, rows, c, rfl, hc, hr, hR, hf⟩ := open_recs Try.underlying22 Try.underlying30 (by kernel_rfl) (by kernel_rfl) (by decide) hv h hlt hs
  obtain ⟨l, rfl, hl⟩ := list_of_rows (fl := Ak.cells) (Q := fun x => I64 x.w ∧ I64 x.h ∧ I64 x.from_) (rows := rows) (fun r hr => by
    obtain ⟨h4, hj⟩ := hf r hr
    obtain ⟨u0, n0, y0, e0, t0⟩ := hj 0 _ rfl
    obtain ⟨u1, n1, y1, e1, t1⟩ := hj 1 _ rfl
    obtain ⟨u2, n2, y2, e2, t2⟩ := hj 2 _ rfl
    obtain ⟨u3, n3, y3, e3, t3⟩ := hj 3 _ rfl
    obtain ⟨x0, rfl⟩ := field_bool Try.underlying4 t0
    obtain ⟨x1, rfl, i1⟩ := field_i64 Try.underlying2 t1
    obtain ⟨x2, rfl, i2⟩ := field_i64 Try.underlying2 t2
    obtain ⟨x3, rfl, i3⟩ := field_i64 Try.underlying2 t3
    refine ⟨⟨x0, x1, x2, x3⟩, ?_, i1, i2, i3⟩
    match r, h4, e0, e1, e2, e3 with
    | [a, b, c, d], _, e0, e1, e2, e3 =>
      simp at e0 e1 e2 e3
      simp [Ak.cells, e0, e1, e2, e3])
  rw [hb] at hr
  refine ⟨A, l, c, by simp, recs_of_rows hR, by simpa using hc, ?_, hl⟩
  unfold reachBytes at hr
  omega
end
end Opn
/-- an ask, its cells. -/
theorem ask_at {w : World} {B : Nat} {A : Option Addr} {l : List Ak} (h : Recs w B A 4 Ak.cells l) {k : Nat} (hk : k < l.length) :
    ∃ b off a, A = some ⟨b, off, none⟩ ∧ b < B ∧ Hid (l[k]? = some a) ∧ w.cell? ⟨b, off + k * 4, none⟩ = some (.bool a.right) ∧ w.cell? ⟨b, off + k * 4 + 1, none⟩ = some (.int .i64 a.w) ∧ w.cell? ⟨b, off + k * 4 + 2, none⟩ = some (.int .i64 a.h) ∧ w.cell? ⟨b, off + k * 4 + 3, none⟩ = some (.int .i64 a.from_) := by
  obtain ⟨b, off, e, hb, hc⟩ := h (by rintro rfl; simp at hk)
  have ha : l[k]? = some l[k] := List.getElem?_eq_getElem hk
  exact ⟨b, off, l[k], e, hb, hid ha, hc k _ ha 0 _ rfl, hc k _ ha 1 _ rfl, hc k _ ha 2 _ rfl, hc k _ ha 3 _ rfl⟩
end Go.Proofs.Ytkoanijiihnioaa
