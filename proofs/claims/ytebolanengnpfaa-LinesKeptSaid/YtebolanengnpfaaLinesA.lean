/-
  The numbers of chapter 15, with no program in sight: what First, Break and Set compute.
-/
import Derived.Test.YtebolanengnpfaaPlainA
namespace Go.Proofs.Ytebolanengnpfaa
namespace Num
/-- a piece: its kind, its width, its height; is it pre? -/
structure Pc where
  kind : Int
  node : Int
  width : Int
  height : Int
  pre : Bool
deriving DecidableEq
def Pc.thin (p : Pc) : Bool := p.kind == 2 && !p.pre
/-- how many loose spaces stand first. -/
def lead : List Pc → Nat
  | [] => 0
  | p :: t => if p.thin then lead t + 1 else 0
/-- how many pieces a line takes, once it has a width; m: has it a word? -/
def scan (room : Int) : List Pc → Int → Bool → Nat
  | [], _, _ => 0
  | p :: t, n, m =>
    if p.kind = 3 then 1
    else if p.kind = 1 ∧ m = true ∧ room < add n p.width then 0
    else scan room t (add n p.width) (m || p.kind == 1) + 1
/-- where the line ends that begins at i. -/
def stop (room : Int) (l : List Pc) (i : Nat) : Nat := i + lead (l.drop i) + scan room (l.drop (i + lead (l.drop i))) 0 false
/-- the highest of some pieces. -/
def high (h : Int) : List Pc → Int
  | [] => h
  | p :: t => high (max h p.height) t
/-- the sum of some widths. -/
def wides (n : Int) : List Pc → Int
  | [] => n
  | p :: t => wides (add n p.width) t
def cut (l : List Pc) (i j : Nat) : List Pc := (l.take j).drop i
/-- up to where a line has a width: j pieces behind a. -/
def back (l : List Pc) (a : Nat) : Nat → Nat
  | 0 => 0
  | b + 1 => if a < b + 1 ∧ (l.getD b ⟨0, 0, 0, 0, false⟩).thin = true then back l a b else b + 1
def wideA (l : List Pc) (i j : Nat) : Nat := i + lead (cut l i j)
def wideB (l : List Pc) (i j : Nat) : Nat :=
  if wideA l i j < j ∧ (l.getD (j - 1) ⟨0, 0, 0, 0, false⟩).kind = 3 then j else back l (wideA l i j) j
structure Ln where
  from_ : Int
  to : Int
  width : Int
  height : Int
deriving DecidableEq
def first (room strut : Int) (l : List Pc) (i : Nat) : Ln :=
  ⟨i, stop room l i, wides 0 (cut l (wideA l i (stop room l i)) (wideB l i (stop room l i))), high strut (cut l i (stop room l i))⟩
def firstAny (room strut : Int) (l : List Pc) (i : Int) : Ln :=
  if i < 0 ∨ (l.length : Int) ≤ i then ⟨0, 0, 0, 0⟩ else first room strut l i.toNat
def brk (room strut : Int) (l : List Pc) : Nat → Nat → List Ln
  | 0, _ => []
  | f + 1, i => if i < l.length then first room strut l i :: brk room strut l f (stop room l i) else []
theorem lead_le (l : List Pc) : lead l ≤ l.length := by
  induction l with
  | nil => simp [lead]
  | cons p t ih => simp only [lead, List.length_cons]; split <;> omega
theorem scan_le (room : Int) (l : List Pc) (n : Int) (m : Bool) : scan room l n m ≤ l.length := by
  induction l generalizing n m with
  | nil => simp [scan]
  | cons p t ih =>
    simp only [scan, List.length_cons]
    split
    · omega
    · split
      · omega
      · have := ih (add n p.width) (m || p.kind == 1); omega
theorem stop_le (room : Int) (l : List Pc) {i : Nat} (h : i ≤ l.length) : stop room l i ≤ l.length := by
  have h1 := lead_le (l.drop i)
  have h2 := scan_le room (l.drop (i + lead (l.drop i))) 0 false
  simp only [List.length_drop] at h1 h2
  unfold stop
  omega
theorem scan_pos {room : Int} {l : List Pc} (h : l ≠ []) : 0 < scan room l 0 false := by
  cases l with
  | nil => exact absurd rfl h
  | cons p t =>
    simp only [scan]
    split
    · omega
    · rw [if_neg (by simp)]; omega
theorem stop_gt (room : Int) (l : List Pc) {i : Nat} (h : i < l.length) : i < stop room l i := by
  unfold stop
  rcases Nat.eq_zero_or_pos (lead (l.drop i)) with h0 | h0
  · rw [h0, Nat.add_zero]
    have := scan_pos (room := room) (l := l.drop i) (by intro e; have := congrArg List.length e; simp at this; omega)
    omega
  · omega
theorem back_le (l : List Pc) (a b : Nat) : back l a b ≤ b := by
  induction b with
  | zero => simp [back]
  | succ b ih => simp only [back]; split <;> omega
theorem back_ge (l : List Pc) {a b : Nat} (h : a ≤ b) : a ≤ back l a b := by
  induction b with
  | zero => simp [back]; omega
  | succ b ih =>
    simp only [back]
    split
    · rename_i hc; exact ih (by omega)
    · exact h
theorem cut_length (l : List Pc) {i j : Nat} (hj : j ≤ l.length) : (cut l i j).length = j - i := by
  unfold cut; simp; omega
theorem wideA_ge (l : List Pc) (i j : Nat) : i ≤ wideA l i j := by unfold wideA; omega
theorem wideA_le (l : List Pc) {i j : Nat} (h : i ≤ j) (hj : j ≤ l.length) : wideA l i j ≤ j := by
  have := lead_le (cut l i j)
  rw [cut_length l hj] at this
  unfold wideA; omega
theorem wideB_le (l : List Pc) (i j : Nat) : wideB l i j ≤ j := by
  unfold wideB; split
  · omega
  · exact back_le _ _ _
theorem wideB_ge (l : List Pc) {i j : Nat} (h : i ≤ j) (hj : j ≤ l.length) : wideA l i j ≤ wideB l i j := by
  have := wideA_le l h hj
  unfold wideB; split
  · omega
  · exact back_ge _ this
end Num
end Go.Proofs.Ytebolanengnpfaa
