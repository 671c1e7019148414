/-
  casementlaw17's small; Room.All.
-/
import Derived.Test.YtkoanijiihnioaaFloatE
import Derived.Test.YtkoanijiihnioaaOpen
import Derived.Deep.DeepMust
namespace Go.Proofs.Ytkoanijiihnioaa
open Go.RowKit Num Mem Opn
set_option linter.unusedVariables false
set_option linter.unusedSimpArgs false
namespace Num
/-- a number brought into 2^24, its sign kept. -/
def few (n : Int) : Int := if n < 0 then -((-(n + 1)) % 16777216) else n % 16777216
theorem few_lo (n : Int) : -16777215 ≤ few n := by unfold few; split <;> omega
theorem few_hi (n : Int) : few n ≤ 16777215 := by unfold few; split <;> omega
end Num
theorem ret_intF {a b : Int} (h : a = b) : Ending.returned (.int .i64 a) = .returned (.int .i64 b) := by rw [h]
theorem small_pos (n : Int) (w : World) (h : 0 ≤ n) (h2 : n ≤ 9223372036854775807) : Calls Try.prog 15 #[.int .i64 n] w fun e w' => e = .returned (.int .i64 (n % 16777216)) ∧ w = w' := by
  go_enter Try.func15, Try.ntmps15
  go_wp2_with fail
  go_ret
  exact ⟨rfl, rfl⟩
theorem small_any (n : Int) (w : World) (h : I64 n) : Calls Try.prog 15 #[.int .i64 n] w fun e w' => e = .returned (.int .i64 (few n)) ∧ w = w' := by
  obtain ⟨h1, h2⟩ := h
  rcases Int.lt_or_le n 0 with h3 | h3
  · have HF : Hid (few n = -((-(n + 1)) % 16777216)) := by show _ = _; unfold few; rw [if_pos h3]
    have h4 : 0 ≤ -(n + 1) := by omega
    have h5 : -(n + 1) ≤ 9223372036854775807 := by omega
    have h6 := Int.emod_nonneg (-(n + 1)) (by omega : (16777216 : Int) ≠ 0)
    have h7 := Int.emod_lt_of_pos (-(n + 1)) (by omega : (0 : Int) < 16777216)
    go_enter Try.func15, Try.ntmps15
    go_wp2_with fail
    refine (small_pos _ _ (by omega) (by omega)).mono ?_
    rintro e w' ⟨rfl, rfl⟩
    go_wp2_with fail
    go_ret
    exact ⟨ret_intF (by rw [HF.out]), rfl⟩
  · have HF : Hid (few n = n % 16777216) := by show _ = _; unfold few; rw [if_neg (by omega)]
    refine (small_pos n w h3 h2).mono ?_
    rintro e w' ⟨rfl, rfl⟩
    exact ⟨ret_intF (by rw [HF.out]), rfl⟩
theorem small_still (n : Int) (w : World) (h : I64 n) : Calls Try.prog 15 #[.int .i64 n] w fun e w' => e = .returned (.int .i64 (few n)) ∧ w' = w := (small_any n w h).mono fun _ _ ⟨h, h'⟩ => ⟨h, h'.symm⟩
set_option maxRecDepth 100000 in
/-- a row of floats, cloned. -/
theorem floats_Clone (l : List Fl) (v : Value) (base : Nat) (w : World) (hl : l.length ≤ 1000) (ho : w.ownsRow base 38 5 v l.length (l.flatMap Fl.cells)) :
    Calls Try.prog 52 #[v] w fun e w' =>
      ∃ v', e = .returned v' ∧ w'.ownsRow w.heap.size 38 5 v' l.length (l.flatMap Fl.cells) ∧ Below w.heap.size w w' := by
  obtain ⟨i0, hi, hz0, hz1, hz2⟩ := info_parts info_float5
  have hn : w.ownsRow w.heap.size 38 5 (.slice none 0 0) 0 [] := own_nil _ _ _ _
  have hm : (w.alloc (.cells #[] 38)).ownsRow w.heap.size 38 5 (.slice (some ⟨w.heap.size, 0, none⟩) 0 0) 0 [] := World.ownsRow_made w #[] 0 (Nat.le_refl _) (by decide) rfl
  have hlen := flat_length fl_length l
  have hone : ∀ u ∈ l.flatMap Fl.cells, u.oneCell' = true := by
    intro u hu
    obtain ⟨f, _, hf⟩ := List.mem_flatMap.1 hu
    simp only [Fl.cells, List.mem_cons, List.not_mem_nil, or_false] at hf
    rcases hf with rfl | rfl | rfl | rfl | rfl <;> rfl
  have hB : Below w.heap.size w (w.alloc (.cells #[] 38)) := by go_grown
  rcases ho.2 with ⟨rfl, hx⟩ | ⟨g, cap, cur, rfl, hb, hg, h3, h4, h5, h6⟩
  · have hl0 : l.length = 0 := by rw [hx] at hlen; simp at hlen; omega
    have e1 : l = [] := List.length_eq_zero_iff.1 hl0
    subst e1
    have he : (binOp .eql 35 (.slice none 0 0) (.slice none 0 0)).run Try.prog w = .ok (.bool true) w := by kernel_rfl
    go_enter Try.func52, Try.ntmps52
    go_wp2_with fail
    go_ret
    exact ⟨_, rfl, hn, Below.refl _ _⟩
  · have hc : ∀ j u, (l.flatMap Fl.cells)[j]? = some u → (w.alloc (.cells #[] 38)).cell? ((⟨g, 0, none⟩ : Addr).add j) = some u := (ho.alloc _).cells rfl
    have he : (binOp .eql 35 (.slice (some ⟨g, 0, none⟩) l.length cap) (.slice none 0 0)).run Try.prog w = .ok (.bool false) w := by kernel_rfl
    go_enter Try.func52, Try.ntmps52
    go_wp2_with (refine stop_append _ _ _ _ rfl ?_)
    refine ⟨?_⟩
    refine wpList_append_own _ rfl _ _ 35 rfl w.heap.size 38 i0 (.agg #[.bool false, .int .i64 0, .int .i64 0, .int .i64 0, .int .i64 0]) 5 40 Try.underlying35 hi hz0 hz1 hz2 rfl (by decide) (.slice (some ⟨w.heap.size, 0, none⟩) 0 0) _ _ rfl hm ⟨g, 0, none⟩ l.length cap (l.flatMap Fl.cells) rfl hlen hc hone (by unfold maxLen; omega) (by omega) (by simp) ?_
    intro v2 w2 ho2 hg2 _
    (try simp only [Act.put, List.setIfInBounds_toArray, List.set_cons_zero, List.set_cons_succ])
    obtain ⟨A2, c2, rfl, -⟩ := own_some ho2
    rw [Nat.zero_add] at ho2 ⊢
    rw [List.nil_append] at ho2
    go_wp2_with fail
    go_ret
    exact ⟨_, rfl, ho2, hB.trans (own_belowB hm hg2 (by simp))⟩
theorem room_All (g base : Nat) (left right : Int) (l : List Fl) (v : Value) (w : World) (hl : l.length ≤ 1000) (hr : RoomAt w g base left right l v) :
    Calls Try.prog 20 #[.pointer (some ⟨g, 0, none⟩)] w fun e w' =>
      ∃ v', e = .returned v' ∧ w'.ownsRow w.heap.size 38 5 v' l.length (l.flatMap Fl.cells) ∧ Below w.heap.size w w' := by
  have c2 : w.cell? ⟨g, 2, none⟩ = some v := hr.blk.cell 2
  obtain ⟨A, c, rfl, -⟩ := own_some hr.own
  go_enter Try.func20, Try.ntmps20
  go_wp2_with fail
  refine (floats_Clone l _ base w hl hr.own).mono ?_
  rintro e w1 ⟨v', rfl, ho, hb⟩
  obtain ⟨A2, c2', rfl, -⟩ := own_some ho
  go_wp2_with fail
  go_ret
  exact ⟨_, rfl, ho, hb⟩
end Go.Proofs.Ytkoanijiihnioaa
