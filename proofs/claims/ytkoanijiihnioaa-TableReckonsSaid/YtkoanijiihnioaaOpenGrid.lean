/-
  Rows of rows of numbers that came in, opened.
-/
import Derived.Test.YtkoanijiihnioaaOpenNeeds
import Derived.Test.YtkoanijiihnioaaTabE
namespace Go.Proofs.Ytkoanijiihnioaa
open Go.ChangeShapes Go.WideShapes Go.RowKit Go.Joins Go.Deep Mem Num
theorem recs_of_ints {w : World} {B : Nat} {A : Option Addr} {r : List Int} (h : Ints w B A r) : Recs w B A 1 fl1 r := fun hn => by
  obtain ⟨b, off, e, hb, hc⟩ := h (by simpa using hn)
  refine ⟨b, off, e, hb, fun i x hx j v hv => ?_⟩
  have hi := (List.getElem?_eq_some_iff.1 hx).1
  have := hc i (by simpa using hi)
  cases j with
  | succ j => simp [fl1] at hv
  | zero =>
    have hv' : Value.int .i64 x = v := by simpa [fl1] using hv
    subst hv'
    rw [Nat.mul_one, Nat.add_zero, this]
    simp [hx]
theorem Mem.Rows2.take {α : Type} {w : World} {B : Nat} {A : Option Addr} {sz : Nat} {fl : α → List Value} {vs : List Value} {ls : List (List α)} (h : Rows2 w B A sz fl vs ls) (n : Nat) : Rows2 w B A sz fl (vs.take n) (ls.take n) := by
  refine ⟨by simp [h.len], fun hne => ?_, fun i r hi => ?_⟩
  · obtain ⟨b, off, e, hb, hc⟩ := h.seg (by rintro rfl; simp at hne)
    refine ⟨b, off, e, hb, fun j hj => ?_⟩
    rw [List.length_take] at hj
    rw [hc j (by omega), List.getElem?_take, if_pos (by omega)]
  · rw [List.getElem?_take] at hi ⊢
    by_cases hn : i < n
    · rw [if_pos hn] at hi ⊢
      exact h.row i r hi
    · rw [if_neg hn] at hi
      exact absurd hi (by simp)
/-- rows of numbers that came in. -/
structure RowsG (W : World) (A : Option Addr) (ls : List (List Int)) (c : Nat) : Prop where
  ex : ∃ vs, Rows2 W W.heap.size A 1 fl1 vs ls
  cap : ls.length ≤ c
  few : c ≤ 4611686018427387904
  ok : ∀ r ∈ ls, r.length ≤ 4611686018427387904 ∧ ∀ x ∈ r, Opn.I64 x
namespace Opn
section
variable {H : Type} {enc : TypeId × Value → H} {W : World}
theorem open_grid {v : Value} {d : DataW H} {p : List MemPlace} (hv : ∃ a len cap, v = .slice a len cap) (h : DataW.Trod enc Try.prog W 0 (fun _ => true) true 70 v d p) (hlt : ∀ x ∈ p, x.block < W.heap.size)
    (hs : ∀ n ∈ d.weights Try.prog 70, n ≤ reachBytes) :
    ∃ A ls c, v = .slice A ls.length c ∧ RowsG W A ls c := by
  obtain ⟨A, vs, c, rfl, hc, hc2, hS, hu⟩ := open_outer Try.underlying70 Try.underlying55 (by kernel_rfl) (by kernel_rfl) hv h hlt hs
  obtain ⟨ls, k1, k2, k3⟩ := rows_choose (W := W) (sz := 1) (fl := fl1) (ok := fun x => I64 x) (vs := vs) (fun u hm => by
    obtain ⟨hsh, d', p', ht, hl, hw⟩ := hu u hm
    obtain ⟨A', r, c', rfl, hr1, hr2, hr3, hr4⟩ := open_row Try.underlying55 Try.underlying2 (by kernel_rfl) (by kernel_rfl) hsh ht hl hw
    exact ⟨A', r, c', rfl, hr2, by omega, recs_of_ints hr1, hr4⟩)
  exact ⟨A, ls, c, by rw [k1], ⟨vs, k1, hS, k2⟩, by rw [← k1]; exact hc, hc2, k3⟩
end
end Opn
end Go.Proofs.Ytkoanijiihnioaa
