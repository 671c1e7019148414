/-
  The walks of casementlaw15's helpers: small, Within, some.
-/
import Derived.Test.YtebolanengnpfaaBreak
import Derived.Test.YtebolanengnpfaaOrd
import Derived.Test.YtebolanengnpfaaOpen
namespace Go.Proofs.Ytebolanengnpfaa
open Go.RowKit Num Mem Opn
set_option linter.unusedVariables false
namespace Num
/-- a number brought into 0 .. 2^24 - 1. -/
def lit24 (n : Int) : Int := if n < 0 then (-(n + 1)) % 16777216 else n % 16777216
theorem lit24_lo (n : Int) : 0 ≤ lit24 n := by unfold lit24; split <;> omega
theorem lit24_hi (n : Int) : lit24 n < 16777216 := by unfold lit24; split <;> omega
/-- the kind of a piece out of any number. -/
def kindOf (k : Int) : Int := 1 + (RowKit.wrap64 (k - 1)) % 3
theorem kindOf_mem (k : Int) : kindOf k = 1 ∨ kindOf k = 2 ∨ kindOf k = 3 := by unfold kindOf; omega
/-- what a piece is drawn of. -/
structure Bt where
  kind : Int
  width : Int
  height : Int
  pre : Bool
def Bt.cells (b : Bt) : List Value := [.int .i64 b.kind, .int .i64 b.width, .int .i64 b.height, .bool b.pre]
def pcOf (i : Nat) (b : Bt) : Pc := ⟨kindOf b.kind, i, if kindOf b.kind = 3 then 0 else lit24 b.width, lit24 b.height, b.pre⟩
def pcs : Nat → List Bt → List Pc
  | _, [] => []
  | i, b :: t => pcOf i b :: pcs (i + 1) t
theorem pcs_length (l : List Bt) : ∀ i, (pcs i l).length = l.length := by
  induction l with
  | nil => intro i; rfl
  | cons b t ih => intro i; simp [pcs, ih]
theorem pcs_mem (l : List Bt) : ∀ {i : Nat} {p : Pc}, p ∈ pcs i l → ∃ k b, p = pcOf k b := by
  induction l with
  | nil => intro i p h; simp [pcs] at h
  | cons b t ih =>
    intro i p h
    simp only [pcs, List.mem_cons] at h
    rcases h with h | h
    · exact ⟨i, b, h⟩
    · exact ih h
theorem pcOf_wide (i : Nat) (b : Bt) : 0 ≤ (pcOf i b).width ∧ (pcOf i b).width < 16777216 := by
  have h1 := lit24_lo b.width
  have h2 := lit24_hi b.width
  unfold pcOf
  dsimp only
  split <;> omega
theorem pcs_wide (l : List Bt) (i : Nat) : Wide24 (pcs i l) := by
  intro p hp
  obtain ⟨k, b, rfl⟩ := pcs_mem l hp
  exact pcOf_wide k b
end Num
theorem law_small (n : Int) (w : World) (h : I64 n) : Calls Try.prog 20 #[.int .i64 n] w fun e w' => e = .returned (.int .i64 (lit24 n)) ∧ w = w' := by
  obtain ⟨h1, h2⟩ := h
  rcases Int.lt_or_le n 0 with h3 | h3
  · have HF : Hid (lit24 n = (-(n + 1)) % 16777216) := hid (by unfold lit24; rw [if_pos h3])
    have h4 : 0 ≤ -(n + 1) := by omega
    have h5 : -(n + 1) ≤ 9223372036854775807 := by omega
    go_enter Try.func20, Try.ntmps20
    go_wp2_with fail
    go_ret
    exact ⟨ret_int (by rw [HF.out, ← Int.neg_tmod, Int.tmod_eq_emod_of_nonneg (by omega)]), rfl⟩
  · have HF : Hid (lit24 n = n % 16777216) := hid (by unfold lit24; rw [if_neg (by omega)])
    go_enter Try.func20, Try.ntmps20
    go_wp2_with fail
    go_ret
    exact ⟨ret_int (by rw [HF.out]), rfl⟩
theorem within3 (n : Int) (w : World) (h : I64 n) : Calls Try.prog 29 #[.int .i64 n, .int .i64 0, .int .i64 2] w fun e w' => e = .returned (.int .i64 (n % 3)) ∧ w = w' := by
  obtain ⟨h1, h2⟩ := h
  have ht : n.tmod 3 = if 0 ≤ n ∨ n % 3 = 0 then n % 3 else n % 3 - 3 := by
    rw [Int.tmod_eq_emod]
    have : ((3 : Int) ∣ n) ↔ n % 3 = 0 := by omega
    simp only [this]
    split <;> simp_all <;> omega
  by_cases hc : 0 ≤ n ∨ n % 3 = 0
  · rw [if_pos hc] at ht
    have HT := hid ht
    have g1 : 0 ≤ n.tmod 3 := by omega
    have g2 : n.tmod 3 ≤ 2 := by omega
    clear ht
    go_enter Try.func29, Try.ntmps29
    go_wp2_with fail
    go_ret
    exact ⟨ret_int (by have := HT.out; omega), rfl⟩
  · rw [if_neg hc] at ht
    have HT := hid ht
    have g1 : n.tmod 3 < 0 := by omega
    have g2 : -2 ≤ n.tmod 3 := by omega
    clear ht
    go_enter Try.func29, Try.ntmps29
    go_wp2_with fail
    go_ret
    exact ⟨ret_int (by have := HT.out; omega), rfl⟩
end Go.Proofs.Ytebolanengnpfaa
