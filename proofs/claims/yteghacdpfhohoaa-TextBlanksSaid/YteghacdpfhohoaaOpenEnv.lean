/-
  An api.Env and an api.Style that came in, opened.
-/
import Derived.Test.YteghacdpfhohoaaTextA
import Derived.Test.YteghacdpfhohoaaOpenRows
import Derived.ChangeMaps5
namespace Go.Proofs.Yteghacdpfhohoaa
open Go.ChangeShapes Go.WideShapes Go.RowKit Go.Joins Go.Deep Num Mem Opn
set_option linter.unusedVariables false
namespace Opn
def styleTypes : List TypeId := [3, 3, 3, 3, 3, 2, 3, 2, 3, 2, 3, 2, 3, 2, 3, 2, 3, 2, 3, 2, 3, 2, 3, 2, 3, 2, 3, 2, 3, 2, 3, 2, 2, 2, 2, 2, 41, 41, 2, 2, 3, 4, 4, 4, 4, 2, 2, 2, 3, 3, 2, 4]
theorem cells_style : Try.prog.cellTypes Try.prog.depth 43 = some styleTypes := by kernel_rfl
theorem style_cells : Try.prog.cellsOf 43 = 52 := by kernel_rfl
theorem style_kinds : ∀ u ∈ styleTypes, u = 3 ∨ u = 2 ∨ u = 41 ∨ u = 4 := by decide
theorem cell_int {P : Program} {w : World} {r : Reach} {b : Nat} {t : TypeId} {k : IntKind} {v : Value} (ht : P.underlying t = some (.int k)) (h : Cell.okWide P w r b t v) : ∃ n, v = .int k n := by
  unfold Cell.okWide at h
  rw [ht] at h
  simp only [Cell.ok, ht] at h
  cases v <;> simp at h
  obtain ⟨rfl, hb⟩ := h
  exact ⟨_, rfl⟩
theorem cell_i64 {P : Program} {w : World} {r : Reach} {b : Nat} {t : TypeId} {v : Value} (ht : P.underlying t = some (.int .i64)) (h : Cell.okWide P w r b t v) : ∃ n, v = .int .i64 n ∧ I64 n := by
  unfold Cell.okWide at h
  rw [ht] at h
  simp only [Cell.ok, ht] at h
  cases v <;> simp at h
  obtain ⟨rfl, hb⟩ := h
  refine ⟨_, rfl, ?_⟩
  simp [IntKind.has, IntKind.min, IntKind.max, IntKind.signed, IntKind.bits] at hb
  exact ⟨by omega, by omega⟩
theorem cell_bool {P : Program} {w : World} {r : Reach} {b : Nat} {t : TypeId} {v : Value} (ht : P.underlying t = some .bool) (h : Cell.okWide P w r b t v) : ∃ x, v = .bool x := by
  unfold Cell.okWide at h
  rw [ht] at h
  simp only [Cell.ok, ht] at h
  cases v <;> simp at h
  exact ⟨_, rfl⟩
theorem i32_of_wf {a : Int} (h : (Lit.int .i32 a).wf = true) : -2147483648 ≤ a ∧ a ≤ 2147483647 := by
  simp [Lit.wf, IntKind.min, IntKind.max, IntKind.signed, IntKind.bits] at h
  exact ⟨by omega, by omega⟩
/-- a style that came in: its 52 cells, its size and its line. -/
structure Style52 (cs : Array Value) (sz ln : Int) : Prop where
  size : cs.size = 52
  one : cs.all (·.oneCell') = true
  c38 : cs[38]? = some (.int .i64 sz)
  c39 : cs[39]? = some (.int .i64 ln)
  isz : I64 sz
  iln : I64 ln
set_option maxRecDepth 100000 in
theorem open_style52 {W : World} {r : Reach} {b : Nat} {v : Value} (h : Value.okWide Try.prog W r b 43 v) : ∃ cs sz ln, v = .agg cs ∧ Style52 cs sz ln := by
  unfold Value.okWide at h
  rw [Try.underlying43] at h
  obtain ⟨cs, rfl, hsz, ts, hts, -, hrow⟩ := h
  rw [cells_style] at hts
  obtain rfl := Option.some.inj hts
  rw [style_cells] at hsz
  have hone : ∀ i (hi : i < cs.size), (cs[i]).oneCell' = true := by
    intro i hi
    obtain ⟨u, hu, hc⟩ := hrow i cs[i] (by simp [hi])
    rcases style_kinds u (List.mem_of_getElem? hu) with rfl | rfl | rfl | rfl
    · obtain ⟨n, e⟩ := cell_int Try.underlying3 hc; rw [e]; rfl
    · obtain ⟨n, e⟩ := cell_int Try.underlying2 hc; rw [e]; rfl
    · obtain ⟨n, e⟩ := cell_int Try.underlying41 hc; rw [e]; rfl
    · obtain ⟨n, e⟩ := cell_bool Try.underlying4 hc; rw [e]; rfl
  obtain ⟨u, hu, hc⟩ := hrow 38 cs[38] (by simp [hsz])
  obtain rfl : 2 = u := Option.some.inj hu
  obtain ⟨n, e, hn⟩ := cell_i64 Try.underlying2 hc
  obtain ⟨u2, hu2, hc2⟩ := hrow 39 cs[39] (by simp [hsz])
  obtain rfl : 2 = u2 := Option.some.inj hu2
  obtain ⟨n2, e2, hn2⟩ := cell_i64 Try.underlying2 hc2
  refine ⟨cs, n, n2, rfl, hsz, by simp only [Array.all_eq_true]; exact hone, ?_, ?_, hn, hn2⟩
  · rw [← e]; simp [hsz]
  · rw [← e2]; simp [hsz]
section
variable {H : Type} {enc : TypeId × Value → H} {W : World}
set_option maxRecDepth 100000 in
theorem open_env {b0 : Nat} {v : Value} {d : DataW H} {p : List MemPlace} (hv : Value.okWide Try.prog W .any b0 36 v) (h : DataW.Trod enc Try.prog W 0 (fun _ => true) true 36 v d p) (hlt : ∀ x ∈ p, x.block < W.heap.size)
    (hs : ∀ n ∈ d.weights Try.prog 36, n ≤ reachBytes) : ∃ ew eh A l c, v = .agg #[.int .i64 ew, .int .i64 eh, .slice A l.length c] ∧ I64 ew ∧ I64 eh ∧ Row64 W A l c := by
  obtain ⟨v0, v1, v2, y0, y1, y2, n, rfl, rfl, rfl, h0, h1, h2⟩ := open_agg3 Try.underlying36 (by kernel_rfl) (by kernel_rfl) hv h
  obtain ⟨x0, e0, _, w0⟩ := DataW.trod_int Try.underlying2 h0
  obtain ⟨x1, e1, _, w1⟩ := DataW.trod_int Try.underlying2 h1
  simp only [List.cons.injEq, and_true] at e0 e1
  subst e0 e1
  have hsl : ∃ a len cap, v2 = .slice a len cap := by
    rcases DataW.trod_slice Try.underlying27 h2 with ⟨e, -⟩ | ⟨a, len, cap, _, _, _, _, e, -⟩
    · simp only [List.cons.injEq, and_true] at e; exact ⟨_, _, _, e⟩
    · simp only [List.cons.injEq, and_true] at e; exact ⟨_, _, _, e⟩
  obtain ⟨A, l, c, rfl, hr⟩ := open_row (d := y2.1) (p := y2.2) Try.underlying27 Try.underlying2 (by kernel_rfl) (by kernel_rfl) hsl ⟨n, by obtain ⟨a, len, cap, rfl⟩ := hsl; exact h2⟩ (fun x hx => hlt x (by simp [hx])) (fun es sp e => by
    refine hs _ ?_
    simp only [DataW.weights, Try.underlying36]
    refine DataW.weights_mem_each (j := 2) (t := 27) (d := y2.1) rfl rfl _ ?_
    rw [e]
    simp [DataW.weights, Try.underlying27])
  exact ⟨x0, x1, A, l, c, rfl, i64_of_wf w0, i64_of_wf w1, hr⟩
end
end Opn
end Go.Proofs.Yteghacdpfhohoaa
