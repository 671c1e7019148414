/-
  Columns of tables, with no program in sight: what table.Columns, Widths and Rows compute.
-/
import Derived.Test.YtkoanijiihnioaaPlainM
namespace Go.Proofs.Ytkoanijiihnioaa
namespace Num
/-- the least and the most width. -/
structure Nd where
  least : Int
  most : Int
deriving DecidableEq
def Nd.cells (n : Nd) : List Value := [.int .i64 n.least, .int .i64 n.most]
def nd0 : Nd := ⟨0, 0⟩
def merge (o n : Nd) : Nd := ⟨max o.least (sat n.least), max o.most (sat n.most)⟩
def put1 (out : List Nd) (k : Nat) (n : Nd) : List Nd := if k = out.length then out ++ [merge nd0 n] else out.set k (merge (out.getD k nd0) n)
def mrow : Nat → List Nd → List Nd → List Nd
  | _, out, [] => out
  | k, out, n :: r => mrow (k + 1) (put1 out k n) r
def mrows : List Nd → List (List Nd) → List Nd
  | out, [] => out
  | out, r :: t => mrows (mrow 0 out r) t
def fin (o : Nd) : Nd := ⟨o.least, max o.most o.least⟩
def cols (l : List (List Nd)) : List Nd := (mrows [] l).map fin
theorem put1_length {out : List Nd} {k : Nat} {n : Nd} (hk : k ≤ out.length) : (put1 out k n).length = max out.length (k + 1) := by
  unfold put1
  split
  · simp; omega
  · simp; omega
theorem put1_get {out : List Nd} {k : Nat} {n : Nd} (hk : k ≤ out.length) (i : Nat) : (put1 out k n).getD i nd0 = if i = k then merge (out.getD i nd0) n else out.getD i nd0 := by
  unfold put1
  split
  · rename_i h
    subst h
    simp only [List.getD_eq_getElem?_getD, List.getElem?_append]
    by_cases h1 : i < out.length
    · rw [if_pos h1, if_neg (by omega)]
    · rw [if_neg h1]
      by_cases h2 : i = out.length
      · subst h2; simp
      · rw [if_neg h2, List.getElem?_eq_none (by simp; omega), List.getElem?_eq_none (by omega)]
  · rename_i h
    simp only [List.getD_eq_getElem?_getD, List.getElem?_set]
    by_cases h1 : k = i
    · subst h1
      rw [if_pos rfl, if_pos rfl, if_pos (by omega)]
      rfl
    · rw [if_neg h1, if_neg (by omega)]
theorem mrow_length {r : List Nd} : ∀ {k : Nat} {out : List Nd}, k ≤ out.length → (mrow k out r).length = max out.length (k + r.length) := by
  induction r with
  | nil => intro k out hk; simp [mrow]; omega
  | cons n r ih =>
    intro k out hk
    rw [mrow, ih (by rw [put1_length hk]; omega), put1_length hk]
    simp; omega
theorem mrow_get {r : List Nd} : ∀ {k : Nat} {out : List Nd}, k ≤ out.length → ∀ i, (mrow k out r).getD i nd0 = if k ≤ i ∧ i < k + r.length then merge (out.getD i nd0) (r.getD (i - k) nd0) else out.getD i nd0 := by
  induction r with
  | nil => intro k out hk i; rw [mrow, if_neg (by simp)]
  | cons n r ih =>
    intro k out hk i
    rw [mrow, ih (by rw [put1_length hk]; omega), put1_get hk]
    by_cases h1 : i = k
    · subst h1
      rw [if_neg (by omega), if_pos rfl, if_pos (by simp)]
      simp
    · by_cases h2 : k + 1 ≤ i ∧ i < k + 1 + r.length
      · rw [if_pos h2, if_neg h1, if_pos (by simp; omega)]
        obtain ⟨j, rfl⟩ : ∃ j, i = k + 1 + j := ⟨i - (k + 1), by omega⟩
        rw [show k + 1 + j - (k + 1) = j by omega, show k + 1 + j - k = j + 1 by omega]
        rfl
      · rw [if_neg h2, if_neg h1, if_neg (by simp; omega)]
/-- nothing is below 0, and nothing above m. -/
def Bet (m : Int) (out : List Nd) : Prop := ∀ i, 0 ≤ (out.getD i nd0).least ∧ (out.getD i nd0).least ≤ m ∧ 0 ≤ (out.getD i nd0).most ∧ (out.getD i nd0).most ≤ m
theorem bet_nil {m : Int} (h : 0 ≤ m) : Bet m [] := by intro i; simp [nd0, h]
def Most (m : Int) (r : List Nd) : Prop := ∀ n ∈ r, sat n.least ≤ m ∧ sat n.most ≤ m
theorem bet_put {m : Int} {out : List Nd} {k : Nat} {n : Nd} (hk : k ≤ out.length) (h : Bet m out) (hn : sat n.least ≤ m ∧ sat n.most ≤ m) : Bet m (put1 out k n) := by
  intro i
  have := h i
  rw [put1_get hk]
  split
  · simp only [merge]; omega
  · exact this
theorem bet_row {m : Int} {r : List Nd} : ∀ {k : Nat} {out : List Nd}, k ≤ out.length → Bet m out → Most m r → Bet m (mrow k out r) := by
  induction r with
  | nil => intro k out _ h _; exact h
  | cons n r ih =>
    intro k out hk h hm
    rw [mrow]
    exact ih (by rw [put1_length hk]; omega) (bet_put hk h (hm n (by simp))) (fun x hx => hm x (by simp [hx]))
theorem bet_rows {m : Int} {l : List (List Nd)} : ∀ {out : List Nd}, Bet m out → (∀ r ∈ l, Most m r) → Bet m (mrows out l) := by
  induction l with
  | nil => intro out h _; exact h
  | cons r l ih =>
    intro out h hm
    rw [mrows]
    exact ih (bet_row (Nat.zero_le _) h (hm r (by simp))) (fun x hx => hm x (by simp [hx]))
theorem fin_get (out : List Nd) (i : Nat) : (out.map fin).getD i nd0 = fin (out.getD i nd0) := by
  simp only [List.getD_eq_getElem?_getD, List.getElem?_map]
  cases out[i]? <;> simp [fin, nd0]
theorem bet_fin {m : Int} {out : List Nd} (h : Bet m out) : Bet m (out.map fin) := by
  intro i
  have := h i
  rw [fin_get]
  simp only [fin]
  omega
/-- the columns: least at 0 or above, most no less than least. -/
theorem cols_bet {m : Int} (hm0 : 0 ≤ m) {l : List (List Nd)} (hm : ∀ r ∈ l, Most m r) : Bet m (cols l) := bet_fin (bet_rows (bet_nil hm0) hm)
theorem cols_le (l : List (List Nd)) (i : Nat) : ((cols l).getD i nd0).least ≤ ((cols l).getD i nd0).most := by
  unfold cols
  rw [fin_get]
  simp only [fin]
  omega
theorem mrows_length {l : List (List Nd)} {m : Nat} (hl : ∀ r ∈ l, r.length ≤ m) : ∀ {out : List Nd}, out.length ≤ m → (mrows out l).length ≤ m := by
  induction l with
  | nil => intro out h; exact h
  | cons r l ih =>
    intro out h
    rw [mrows]
    refine ih (fun x hx => hl x (by simp [hx])) ?_
    rw [mrow_length (Nat.zero_le _)]
    have := hl r (by simp)
    omega
theorem cols_length {l : List (List Nd)} {m : Nat} (hl : ∀ r ∈ l, r.length ≤ m) : (cols l).length ≤ m := by
  unfold cols
  rw [List.length_map]
  exact mrows_length hl (by simp)
/-- one list is no less than another, place by place. -/
def Over (a b : List Nd) : Prop := b.length ≤ a.length ∧ ∀ i, (b.getD i nd0).least ≤ (a.getD i nd0).least ∧ (b.getD i nd0).most ≤ (a.getD i nd0).most
theorem over_row {r out : List Nd} : Over (mrow 0 out r) out := by
  refine ⟨by rw [mrow_length (Nat.zero_le _)]; omega, fun i => ?_⟩
  rw [mrow_get (Nat.zero_le _)]
  split
  · simp only [merge]; omega
  · omega
theorem over_refl (a : List Nd) : Over a a := ⟨Nat.le_refl _, fun _ => ⟨Int.le_refl _, Int.le_refl _⟩⟩
theorem over_trans {a b c : List Nd} (h : Over a b) (k : Over b c) : Over a c := ⟨Nat.le_trans k.1 h.1, fun i => ⟨Int.le_trans (k.2 i).1 (h.2 i).1, Int.le_trans (k.2 i).2 (h.2 i).2⟩⟩
theorem over_rows {l : List (List Nd)} : ∀ {out : List Nd}, Over (mrows out l) out := by
  induction l with
  | nil => intro out; exact over_refl _
  | cons r l ih => intro out; rw [mrows]; exact over_trans ih over_row
theorem over_fin {a b : List Nd} (h : Over a b) : Over (a.map fin) (b.map fin) := by
  refine ⟨by simpa using h.1, fun i => ?_⟩
  have := h.2 i
  rw [fin_get, fin_get]
  simp only [fin]
  omega
theorem mrows_append (a b : List (List Nd)) : ∀ out : List Nd, mrows out (a ++ b) = mrows (mrows out a) b := by
  induction a with
  | nil => intro out; rfl
  | cons r a ih => intro out; simp only [List.cons_append, mrows]; exact ih _
/-- one row more: no column needs less. -/
theorem cols_more (l : List (List Nd)) (r : List Nd) : Over (cols (l ++ [r])) (cols l) := by
  unfold cols
  rw [mrows_append]
  exact over_fin over_row
/-- a row lies under the columns. -/
def Under (r out : List Nd) : Prop := r.length ≤ out.length ∧ ∀ i, i < r.length → sat (r.getD i nd0).least ≤ (out.getD i nd0).least ∧ sat (r.getD i nd0).most ≤ (out.getD i nd0).most
theorem under_row (r out : List Nd) : Under r (mrow 0 out r) := by
  refine ⟨by rw [mrow_length (Nat.zero_le _)]; omega, fun i hi => ?_⟩
  rw [mrow_get (Nat.zero_le _), if_pos (by omega)]
  simp only [merge, Nat.sub_zero]
  omega
theorem under_over {r a b : List Nd} (h : Under r b) (k : Over a b) : Under r a := ⟨Nat.le_trans h.1 k.1, fun i hi => ⟨Int.le_trans (h.2 i hi).1 (k.2 i).1, Int.le_trans (h.2 i hi).2 (k.2 i).2⟩⟩
theorem ext_nd {a b : List Nd} (hl : a.length = b.length) (h : ∀ i, a.getD i nd0 = b.getD i nd0) : a = b := by
  apply List.ext_getElem hl
  intro i h1 h2
  have := h i
  simpa [List.getD_eq_getElem?_getD, h1, h2] using this
theorem mrow_under {r out : List Nd} (h : Under r out) : mrow 0 out r = out := by
  apply ext_nd
  · rw [mrow_length (Nat.zero_le _)]; have := h.1; omega
  · intro i
    rw [mrow_get (Nat.zero_le _)]
    split
    · rename_i hi
      have := h.2 i (by omega)
      generalize out.getD i nd0 = o at *
      obtain ⟨x, y⟩ := o
      simp only [merge, Nat.sub_zero, Nd.mk.injEq] at this ⊢
      omega
    · rfl
/-- the first row once more changes nothing. -/
theorem cols_twice (r : List Nd) (l : List (List Nd)) : cols ((r :: l) ++ [r]) = cols (r :: l) := by
  unfold cols
  rw [mrows_append]
  show (mrow 0 (mrows [] (r :: l)) r).map fin = _
  rw [mrow_under]
  rw [mrows]
  exact under_over (under_row _ _) over_rows
/-- how much a column weighs. -/
def wgt (n : Nd) : Int := min ((n.most - n.least + 63) / 64) 65536
def leasts (l : List Nd) : List Int := l.map (·.least)
def mosts (l : List Nd) : List Int := l.map (·.most)
def wgts (l : List Nd) : List Int := l.map wgt
def ones (n : Nat) : List Int := List.replicate n 1
def widths (room : Int) (l : List Nd) (sure : Bool) : List Int :=
  if room ≤ sums (leasts l) l.length then leasts l
  else if room ≤ sums (mosts l) l.length then zadd (leasts l) (share (sub room (sums (leasts l) l.length)) (wgts l))
  else if sure then zadd (mosts l) (share (sub room (sums (mosts l) l.length)) (ones l.length))
  else mosts l
end Num
end Go.Proofs.Ytkoanijiihnioaa
