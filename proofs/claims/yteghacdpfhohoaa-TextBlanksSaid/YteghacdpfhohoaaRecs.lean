/-
  Rows of records: a slice whose elements take sz cells each.
-/
import Derived.Test.YteghacdpfhohoaaMem
import Derived.Laws.AppendOwn
import Derived.Deep.MidRow
namespace Go.Proofs.Yteghacdpfhohoaa
open Go.RowKit
namespace Mem
/-- the records' cells lie there, one behind the other. -/
def Recs {α : Type} (w : World) (B : Nat) (A : Option Addr) (sz : Nat) (fl : α → List Value) (l : List α) : Prop :=
  l ≠ [] → ∃ b off, A = some ⟨b, off, none⟩ ∧ b < B ∧ ∀ i x, l[i]? = some x → ∀ j v, (fl x)[j]? = some v → w.cell? ⟨b, off + i * sz + j, none⟩ = some v
section
variable {α : Type} {w w' : World} {B : Nat} {A : Option Addr} {sz : Nat} {fl : α → List Value} {l : List α}
theorem Recs.nil (w : World) (B : Nat) (A : Option Addr) (sz : Nat) (fl : α → List Value) : Recs w B A sz fl [] := fun h => absurd rfl h
theorem Recs.keep (h : Recs w B A sz fl l) (hk : ∀ p : Addr, p.block < B → w'.cell? p = w.cell? p) : Recs w' B A sz fl l := fun hn => by
  obtain ⟨b, off, e, hb, hc⟩ := h hn
  exact ⟨b, off, e, hb, fun i x hx j v hv => (hk ⟨b, off + i * sz + j, none⟩ hb).trans (hc i x hx j v hv)⟩
theorem Recs.below (h : Recs w B A sz fl l) (hb : Below B w w') : Recs w' B A sz fl l := h.keep fun _ hp => hb.cell hp
theorem Recs.drawn (h : Recs w B A sz fl l) (hd : Drawn w w') : Recs w' B A sz fl l := h.below (hd.below B)
theorem Recs.more (h : Recs w B A sz fl l) {B' : Nat} (hB : B ≤ B') : Recs w B' A sz fl l := fun hn => by
  obtain ⟨b, off, e, hb, hc⟩ := h hn
  exact ⟨b, off, e, by omega, hc⟩
theorem Recs.alloc (h : Recs w B A sz fl l) (hB : B ≤ w.heap.size) (o : Obj) : Recs (w.alloc o) B A sz fl l := h.keep fun p hp => World.cell?_alloc_lt w o p (by omega)
theorem Recs.setCell (h : Recs w B A sz fl l) {p : Addr} (hB : B ≤ p.block) (u : Value) : Recs (w.setCell p u) B A sz fl l :=
  h.keep fun q hq => World.cell?_setCell_other w p q u (fun e => by subst e; omega)
theorem Recs.take (h : Recs w B A sz fl l) (n : Nat) : Recs w B A sz fl (l.take n) := fun hn => by
  obtain ⟨b, off, e, hb, hc⟩ := h (by rintro rfl; simp at hn)
  refine ⟨b, off, e, hb, fun i x hx => hc i x ?_⟩
  rw [List.getElem?_take] at hx
  split at hx
  · exact hx
  · cases hx
/-- at an index within it. -/
theorem Recs.at_ (h : Recs w B A sz fl l) {k : Nat} (hk : k < l.length) :
    ∃ b off x, A = some ⟨b, off, none⟩ ∧ b < B ∧ Hid (l[k]? = some x) ∧ ∀ j v, (fl x)[j]? = some v → w.cell? ⟨b, off + k * sz + j, none⟩ = some v := by
  obtain ⟨b, off, e, hb, hc⟩ := h (by rintro rfl; simp at hk)
  exact ⟨b, off, l[k], e, hb, List.getElem?_eq_getElem hk, hc k _ (List.getElem?_eq_getElem hk)⟩
theorem flat_length (hfl : ∀ x, (fl x).length = sz) (l : List α) : (l.flatMap fl).length = l.length * sz := by
  induction l with
  | nil => simp
  | cons x l ih => simp [List.flatMap_cons, hfl, ih, Nat.add_mul]; omega
theorem flat_get (hfl : ∀ x, (fl x).length = sz) {i : Nat} {x : α} (hi : l[i]? = some x) {j : Nat} {v : Value} (hv : (fl x)[j]? = some v) : (l.flatMap fl)[i * sz + j]? = some v := by
  induction l generalizing i with
  | nil => simp at hi
  | cons y l ih =>
    have hj : j < sz := by rw [← hfl x]; exact (List.getElem?_eq_some_iff.1 hv).1
    cases i with
    | zero =>
      have : y = x := by simpa using hi
      subst this
      rw [List.flatMap_cons, Nat.zero_mul, Nat.zero_add, List.getElem?_append_left (by rw [hfl]; exact hj)]
      exact hv
    | succ i =>
      rw [List.flatMap_cons, List.getElem?_append_right (by rw [hfl, Nat.add_mul]; omega), hfl]
      rw [show (i + 1) * sz + j - sz = i * sz + j by rw [Nat.add_mul]; omega]
      exact ih (by simpa using hi)
/-- a row of the call's own holds the records. -/
theorem Recs.of_own {base : Nat} {e : TypeId} {n c : Nat} (hfl : ∀ x, (fl x).length = sz) (hsz : 0 < sz) (h : w.ownsRow base e sz (.slice A n c) n (l.flatMap fl)) : Recs w w.heap.size A sz fl l := fun hn => by
  have hlen := h.1
  rw [flat_length hfl] at hlen
  have hln : l.length = n := Nat.eq_of_mul_eq_mul_right hsz hlen
  have hpos : 0 < l.length := by
    rcases Nat.eq_zero_or_pos l.length with h0 | h0
    · exact absurd (List.eq_nil_of_length_eq_zero h0) hn
    · exact h0
  rcases h.2 with ⟨_, h1⟩ | ⟨g, cap, cur, hv, hg, hh, hnc, hcap, hcs, htake⟩
  · omega
  · injection hv with a1 a2 a3
    subst a1
    refine ⟨g, 0, rfl, ?_, fun i x hx j v hv => ?_⟩
    · rcases Nat.lt_or_ge g w.heap.size with hlt | hge
      · exact hlt
      · rw [Array.getElem?_eq_none hge] at hh; cases hh
    · have hq := flat_get hfl hx hv
      rw [← htake] at hq
      rw [Nat.zero_add, cell_of_row w g _ cur e (0, 0) hh]
      have hlt := (List.getElem?_eq_some_iff.1 hq).1
      rw [List.length_take] at hlt
      rw [List.getElem?_take_of_lt (by omega)] at hq
      simpa using hq
/-- the address of a row that is not empty. -/
theorem own_some {base : Nat} {e : TypeId} {v : Value} {n : Nat} {xs : List Value} (h : w.ownsRow base e sz v n xs) : ∃ A c, v = .slice A n c ∧ n ≤ c := by
  rcases h.2 with ⟨rfl, rfl⟩ | ⟨g, cap, cur, rfl, hg, hh, hnc, _⟩
  · exact ⟨none, 0, rfl, Nat.le_refl _⟩
  · exact ⟨_, cap, rfl, hnc⟩
theorem own_nil (w : World) (base : Nat) (e : TypeId) (sz : Nat) : w.ownsRow base e sz (.slice none 0 0) 0 [] := ⟨by simp, .inl ⟨rfl, rfl⟩⟩
/-- a row is kept over whatever leaves its block alone. -/
theorem own_keep {base : Nat} {e : TypeId} {v : Value} {n : Nat} {xs : List Value} (h : w.ownsRow base e sz v n xs) (hk : ∀ g, v.ownBlock = some g → g < w.heap.size → w'.heap[g]? = w.heap[g]?) : w'.ownsRow base e sz v n xs := by
  refine ⟨h.1, ?_⟩
  rcases h.2 with ⟨rfl, rfl⟩ | ⟨g, cap, cur, rfl, hg, hh, h3⟩
  · exact .inl ⟨rfl, rfl⟩
  · refine .inr ⟨g, cap, cur, rfl, hg, ?_, h3⟩
    rw [hk g rfl ?_, hh]
    rcases Nat.lt_or_ge g w.heap.size with hlt | hge
    · exact hlt
    · rw [Array.getElem?_eq_none hge] at hh; cases hh
/-- rows of two element types lie in two blocks. -/
theorem own_apart {base base' : Nat} {e e' : TypeId} {v v' : Value} {n n' sz' : Nat} {xs xs' : List Value} (h : w.ownsRow base e sz v n xs) (h' : w.ownsRow base' e' sz' v' n' xs') (hne : e ≠ e') {g : Nat} (hg : v.ownBlock = some g) : some g ≠ v'.ownBlock := by
  intro hq
  rcases h.2 with ⟨rfl, rfl⟩ | ⟨g1, cap, cur, rfl, _, hh, _⟩
  · simp [Value.ownBlock] at hg
  · rcases h'.2 with ⟨rfl, rfl⟩ | ⟨g2, cap', cur', rfl, _, hh', _⟩
    · simp [Value.ownBlock] at hq
    · simp only [Value.ownBlock, Option.some.injEq] at hg hq
      rw [hg] at hh
      rw [← hq, hh] at hh'
      injection hh' with hh'
      injection hh' with _ ht
      exact hne ht
theorem own_grown {base base' : Nat} {e e' : TypeId} {v v' : Value} {n n' sz' : Nat} {xs xs' : List Value} (h : w.ownsRow base e sz v n xs) (h' : w.ownsRow base' e' sz' v' n' xs') (hne : e ≠ e') (hg : w.grownBy w' v'.ownBlock) : w'.ownsRow base e sz v n xs :=
  own_keep h (fun g hv hlt => hg.block g hlt (own_apart h h' hne hv))
theorem own_lt {base : Nat} {e : TypeId} {v : Value} {n : Nat} {xs : List Value} (h : w.ownsRow base e sz v n xs) {g : Nat} (hg : v.ownBlock = some g) : g < w.heap.size := by
  rcases h.2 with ⟨rfl, rfl⟩ | ⟨g1, cap, cur, rfl, _, hh, _⟩
  · simp [Value.ownBlock] at hg
  · simp only [Value.ownBlock, Option.some.injEq] at hg
    subst hg
    rcases Nat.lt_or_ge g1 w.heap.size with hlt | hge
    · exact hlt
    · rw [Array.getElem?_eq_none hge] at hh; cases hh
/-- a block newer than the row is kept over an append onto the row. -/
theorem blk_grown {base : Nat} {e t : TypeId} {v : Value} {n g : Nat} {xs : List Value} {cs : Array Value} {w0 : World} (h : w0.ownsRow base e sz v n xs) (hb : Blk w g t cs) (hg : w.grownBy w' v.ownBlock) (hge : w0.heap.size ≤ g) : Blk w' g t cs :=
  (hg.block g hb.lt (fun hq => by have := own_lt h hq.symm; omega)).trans hb
theorem own_below {base : Nat} {e : TypeId} {v : Value} {n : Nat} {xs : List Value} (h : w.ownsRow base e sz v n xs) (hb : Below w.heap.size w w') : w'.ownsRow base e sz v n xs :=
  own_keep h (fun g _ hlt => hb.block g hlt)
/-- behind an append onto a row of the call's own. -/
theorem below_grown {B base : Nat} {e : TypeId} {a : World} {v : Value} {n : Nat} {xs : List Value} (hB : Below B a w) (h : w.ownsRow base e sz v n xs) (hg : w.grownBy w' v.ownBlock) (hb : B ≤ base) (hs : B ≤ w.heap.size) : Below B a w' :=
  hB.grown hg hs (fun k hk => by
    rcases h.2 with ⟨rfl, rfl⟩ | ⟨g, cap, cur, rfl, hg', _⟩
    · simp [Value.ownBlock] at hk
    · simp only [Value.ownBlock, Option.some.injEq] at hk
      omega)
end
end Mem
end Go.Proofs.Yteghacdpfhohoaa
