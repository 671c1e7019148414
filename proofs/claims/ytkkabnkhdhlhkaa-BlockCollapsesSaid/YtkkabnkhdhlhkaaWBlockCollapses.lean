/-
  The walk of BlockCollapses, and its plain law.
-/
import Derived.Test.YtkkabnkhdhlhkaaBlockJ
namespace Go.Proofs.Ytkkabnkhdhlhkaa
open Go.RowKit Num Mem Opn
set_option linter.unusedVariables false
namespace Num
def col (a b : Int) : Int := if 0 ≤ a ∧ 0 ≤ b then max a b else if a < 0 ∧ b < 0 then min a b else add a b
theorem col_comm (a b : Int) : col b a = col a b := by unfold col add sat; omega
theorem col_self (a : Int) : col a a = a := by unfold col add sat; omega
theorem col_zero (a : Int) (h : -1099511627776 ≤ a ∧ a ≤ 1099511627776) : col a 0 = a := by unfold col add sat; omega
theorem col_pos (a b : Int) (ha : 0 ≤ a) (hb : 0 ≤ b) : a ≤ col a b ∧ b ≤ col a b := by unfold col add sat; omega
theorem col_neg (a b : Int) (ha : a < 0) (hb : b < 0) : col a b ≤ a ∧ col a b ≤ b := by unfold col add sat; omega
end Num
theorem block_Col (a b : Int) (w : World) : Calls Try.prog 17 #[.int .i64 a, .int .i64 b] w fun e w' => e = .returned (.int .i64 (col a b)) ∧ Below w.heap.size w w' := block_Collapse a b w
set_option maxRecDepth 100000 in
set_option maxHeartbeats 2000000 in
theorem collapses_out (a b : Int) (w : World) (h : 1099511627776 < a ∨ a ≤ 1099511627776 ∧ a < -1099511627776 ∨ a ≤ 1099511627776 ∧ -1099511627776 ≤ a ∧ 1099511627776 < b ∨ a ≤ 1099511627776 ∧ -1099511627776 ≤ a ∧ b ≤ 1099511627776 ∧ b < -1099511627776) :
    Calls Try.prog 4 #[.int .i64 a, .int .i64 b] w fun e w' => e = .returned (.bool true) ∧ Below w.heap.size w w' := by
  rcases h with h | ⟨h1, h⟩ | ⟨h1, h2, h⟩ | ⟨h1, h2, h3, h⟩ <;> (
  go_enter Try.func4, Try.ntmps4
  go_wp2_with fail
  refine (law16_known _).mono ?_
  rintro e w1 ⟨rfl, hb⟩
  go_wp2_with fail
  go_returns
  exact ⟨rfl, hb⟩)
set_option maxRecDepth 100000 in
set_option maxHeartbeats 2000000 in
theorem collapses_in (a b : Int) (w : World) (h1 : a ≤ 1099511627776) (h2 : -1099511627776 ≤ a) (h3 : b ≤ 1099511627776) (h4 : -1099511627776 ≤ b) :
    Calls Try.prog 4 #[.int .i64 a, .int .i64 b] w fun e w' => e = .returned (.bool true) ∧ Below w.heap.size w w' := by
  have gen : ∀ da db na nb ma mb ga gb : Bool, Hid (decide (a < 0) = da) → Hid (decide (b < 0) = db) → Hid (decide (0 ≤ a) = ga) → Hid (decide (0 ≤ b) = gb) → Hid (decide (a ≤ col a b) = na) → Hid (decide (b ≤ col a b) = nb) → Hid (decide (col a b ≤ a) = ma) → Hid (decide (col a b ≤ b) = mb) →
      (da || (db || (na && nb))) = true → (ga || (gb || (ma && mb))) = true →
      Calls Try.prog 4 #[.int .i64 a, .int .i64 b] w fun e w' => e = .returned (.bool true) ∧ Below w.heap.size w w' := by
    intro da db na nb ma mb ga gb Ha Hb Hga Hgb Hna Hnb Hma Hmb e1 e2
    obtain ⟨e1⟩ : Nonempty (Hid ((da || (db || (na && nb))) = true)) := ⟨e1⟩
    obtain ⟨e2⟩ : Nonempty (Hid ((ga || (gb || (ma && mb))) = true)) := ⟨e2⟩
    go_enter Try.func4, Try.ntmps4
    go_wp2_with fail
    refine (block_Col a b _).mono ?_
    rintro e w1 ⟨rfl, b1⟩
    go_wp2_with fail
    refine (block_Col b a _).mono ?_
    rw [col_comm]
    rintro e w2 ⟨rfl, b2⟩
    replace b2 := b1.trans (b2.mono b1.size)
    clear b1
    go_wp2_with fail
    refine (block_Col a a _).mono ?_
    rw [col_self]
    rintro e w3 ⟨rfl, b3⟩
    replace b3 := b2.trans (b3.mono b2.size)
    clear b2
    go_wp2_with fail
    refine (block_Col a 0 _).mono ?_
    rw [col_zero a ⟨h2, h1⟩]
    rintro e w4 ⟨rfl, b4⟩
    replace b4 := b3.trans (b4.mono b3.size)
    clear b3
    replace Ha := Ha.out; replace Hb := Hb.out; replace Hga := Hga.out; replace Hgb := Hgb.out; replace Hna := Hna.out; replace Hnb := Hnb.out; replace Hma := Hma.out; replace Hmb := Hmb.out
    cases da <;> cases db <;> cases ga <;> cases gb <;> first | (exfalso; simp at Ha Hb Hga Hgb; omega) | skip
    all_goals simp only [Bool.true_or, Bool.or_true, Bool.false_or, Bool.and_eq_true] at e1 e2
    all_goals (try obtain ⟨rfl, rfl⟩ := e1.out)
    all_goals (try obtain ⟨rfl, rfl⟩ := e2.out)
    all_goals (
      go_wp2_with fail
      refine (law16_known _).mono ?_
      rintro e w5 ⟨rfl, b5⟩
      go_wp2_with fail
      go_returns
      exact ⟨rfl, b4.trans (b5.mono b4.size)⟩)
  refine gen _ _ _ _ _ _ _ _ rfl rfl rfl rfl rfl rfl rfl rfl ?_ ?_
  · have := col_pos a b
    simp
    omega
  · have := col_neg a b
    simp
    omega
theorem walk_BlockCollapses (a b : Int) (w : World) (_ : I64 a) (_ : I64 b) :
    Calls Try.prog 4 #[.int .i64 a, .int .i64 b] w fun e w' => e = .returned (.bool true) ∧ Below w.heap.size w w' := by
  by_cases h : a ≤ 1099511627776 ∧ -1099511627776 ≤ a ∧ b ≤ 1099511627776 ∧ -1099511627776 ≤ b
  · exact collapses_in a b w h.1 h.2.1 h.2.2.1 h.2.2.2
  · exact collapses_out a b w (by omega)
end Go.Proofs.Ytkkabnkhdhlhkaa
