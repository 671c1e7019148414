/-
  Chapter 15's runs, with no program in sight.
-/
import Derived.Test.YtebolanengnpfaaLinesC
namespace Go.Proofs.Ytebolanengnpfaa
namespace Num
/-- a run: its piece, its rectangle. -/
structure Rn where
  piece : Int
  x : Int
  y : Int
  w : Int
  h : Int
deriving DecidableEq
/-- the runs of some pieces, the first of which is number i. -/
def runs (bottom : Int) : List Pc → Nat → Int → List Rn
  | [], _, _ => []
  | p :: t, i, n => if p.kind = 3 then runs bottom t (i + 1) n else ⟨i, n, sub bottom p.height, p.width, p.height⟩ :: runs bottom t (i + 1) (add n p.width)
/-- where the runs of a line begin. -/
def begin_ (x w width align : Int) : Int :=
  if align = 1 then add (sat x) (max (sub w width) 0) else if align = 2 then add (sat x) (prt (max (sub w width) 0) 1 2) else sat x
def runsOf (l : List Pc) (i j : Nat) (width height x y w align : Int) : List Rn :=
  runs (add y height) (cut l (wideA l i j) (wideB l i j)) (wideA l i j) (begin_ x w width align)
theorem runs_length (bottom : Int) (s : List Pc) : ∀ i n, (runs bottom s i n).length ≤ s.length := by
  induction s with
  | nil => intro i n; simp [runs]
  | cons p t ih =>
    intro i n
    simp only [runs]
    split
    · have := ih (i + 1) n; simp; omega
    · have := ih (i + 1) (add n p.width); simp; omega
end Num
end Go.Proofs.Ytebolanengnpfaa
