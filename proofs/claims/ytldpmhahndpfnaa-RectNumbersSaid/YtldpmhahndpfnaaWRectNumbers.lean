/-
  The walk of RectNumbers.
-/
import Derived.Test.YtldpmhahndpfnaaRect3
import Derived.Test.YtldpmhahndpfnaaOpen
namespace Go.Proofs.Ytldpmhahndpfnaa
open Go.RowKit Num Mem Opn

set_option maxHeartbeats 2000000 in
theorem walk_RectNumbers (w : World) :
    Calls Try.prog 10 #[] w fun e w' => e = .returned (.bool true) ∧ Below w.heap.size w w' := by
  go_enter Try.func10, Try.ntmps10
  go_wp2_with fail
  refine (rect_Meet _ _ _ _ _ _ _ _ _).mono ?_
  rw [show meet ⟨0, 0, 10, 10⟩ ⟨20, 0, 1, 1⟩ = ⟨0, 0, 0, 0⟩ by decide]
  rintro e w1 ⟨rfl, hb1⟩
  go_wp2_with fail
  refine (rect_Join _ _ _ _ _ _ _ _ _).mono ?_
  rw [show join ⟨0, 0, 1, 1⟩ ⟨5, 5, 1, 1⟩ = ⟨0, 0, 6, 6⟩ by decide]
  rintro e w2 ⟨rfl, hb2⟩
  have B2 := hb1.trans (hb2.mono hb1.size)
  clear hb1 hb2
  go_wp2_with fail
  refine (rect_Inset _ _ _ _ _ _ _ _ _).mono ?_
  rw [show add 0 9 = 9 by decide, show max (sub (sub 10 9) 9) 0 = 0 by decide]
  rintro e w3 ⟨rfl, rfl⟩
  go_wp2_with fail
  refine (rect_Has _ _ _ _ _ _ _).mono ?_
  rw [show has ⟨0, 0, 1, 1⟩ 1 0 = false by decide]
  rintro e w4 ⟨rfl, hb4⟩
  have B4 : Below w.heap.size w w4 := Below.trans (by have := B2.size; go_grown) (hb4.mono (by have := B2.size; simp; omega))
  clear hb4 B2
  go_wp2_with fail
  refine (rect_Has _ _ _ _ _ _ _).mono ?_
  rw [show has ⟨0, 0, 1, 1⟩ 0 0 = true by decide]
  rintro e w5 ⟨rfl, hb5⟩
  have B5 := B4.trans (hb5.mono B4.size)
  clear hb5 B4
  go_wp2_with fail
  refine (rect_Join _ _ _ _ _ _ _ _ _).mono ?_
  rw [show join ⟨0, 0, 0, 0⟩ ⟨1, 0, 2, 3⟩ = ⟨1, 0, 2, 3⟩ by decide]
  rintro e w6 ⟨rfl, hb6⟩
  have B6 := B5.trans (hb6.mono B5.size)
  clear hb6 B5
  go_wp2_with fail
  refine (rect_Empty_b _ _ _ _ _).mono ?_
  rw [show emp 1 0 = true by decide]
  rintro e w7 ⟨rfl, hb7⟩
  have B7 := B6.trans (hb7.mono B6.size)
  clear hb7 B6
  go_wp2_with fail
  refine (known2 _).mono ?_
  rintro e w8 ⟨rfl, hb8⟩
  go_wp2
  go_ret
  exact ⟨rfl, B7.trans (hb8.mono B7.size)⟩
end Go.Proofs.Ytldpmhahndpfnaa
