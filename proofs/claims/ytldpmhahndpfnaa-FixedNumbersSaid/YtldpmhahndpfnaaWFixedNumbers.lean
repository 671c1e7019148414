/-
  The walk of FixedNumbers.
-/
import Derived.Test.YtldpmhahndpfnaaKnown1
import Derived.Test.YtldpmhahndpfnaaOpen
namespace Go.Proofs.Ytldpmhahndpfnaa
open Go.RowKit Num Mem Opn

set_option maxHeartbeats 2000000 in
theorem walk_FixedNumbers (w : World) :
    Calls Try.prog 12 #[] w fun e w' => e = .returned (.bool true) ∧ Below w.heap.size w w' := by
  have h1 : (times 70368744177664 2 == 70368744177664) = true := by decide
  have h2 : (times 2 1099511627776 == 131072) = true := by decide
  have h3 : (prt 100 1 3 == 33) = true := by decide
  have h4 : (prt 7 0 5 == 0) = true := by decide
  have h5 : (prt 7 1 0 == 7) = true := by decide
  have h6 : (add 4611686018427387904 (-5) == 70368744177659) = true := by decide
  have h7 : (prt 64 50 100 == 32) = true := by decide
  go_enter Try.func12, Try.ntmps12
  go_wp2_with (first | (go_at_call 34; refine (fixed_Times _ _ _).mono ?_; rintro e w' ⟨rfl, rfl⟩) | (go_at_call 26; refine (fixed_Part _ _ _ _).mono ?_; rintro e w' ⟨rfl, rfl⟩) | fail)
  refine (share_n 10 [0, 0] 2 _ _ _ rfl (by omega) (Ints.ofBlk (Blk.new w _ _) (by simp))).mono ?_
  rintro e w1 ⟨rfl, hb, hs⟩
  simp only [World.size_alloc] at hb hs
  have hz := hb.size
  simp only [World.size_alloc] at hz
  rw [show share 10 [0, 0] = [0, 0] by decide] at hs
  go_wp2_with fail
  refine (same_n [0, 0] 2 _ _ _ _ (w1.heap.size + 1) (w1.heap.size + 1) _ rfl (by omega) (Ints.ofBlk (hs.alloc _) (by omega)) (Ints.ofBlk (Blk.new w1 _ _) (by omega))).mono ?_
  rintro e w2 ⟨rfl, hd⟩
  have B2 : Below w.heap.size w w2 := ((((Below.refl _ _).alloc (Nat.le_refl _) _).trans (hb.mono (by omega))).alloc (by omega) _).trans (hd.below _)
  clear hb hs hz hd
  go_wp2_with fail
  refine (share_n 7 [3, 1] 2 _ _ _ rfl (by omega) (Ints.ofBlk (Blk.new w2 _ _) (by simp))).mono ?_
  rintro e w3 ⟨rfl, hb, hs⟩
  simp only [World.size_alloc] at hb hs
  have hz := hb.size
  have hz2 := B2.size
  simp only [World.size_alloc] at hz
  rw [show share 7 [3, 1] = [5, 2] by decide] at hs
  go_wp2_with fail
  refine (same_n [5, 2] 2 _ _ _ _ (w3.heap.size + 1) (w3.heap.size + 1) _ rfl (by omega) (Ints.ofBlk (hs.alloc _) (by omega)) (Ints.ofBlk (Blk.new w3 _ _) (by omega))).mono ?_
  rintro e w4 ⟨rfl, hd⟩
  have B4 : Below w.heap.size w w4 := (((B2.alloc (by omega) _).trans (hb.mono (by omega))).alloc (by omega) _).trans (hd.below _)
  clear hb hs hz hd B2 hz2
  go_wp2_with fail
  refine (share_n 5 [] 0 _ _ _ rfl (by omega) (Ints.nil _ _ _)).mono ?_
  rintro e w5 ⟨rfl, hb, hs⟩
  have hz := B4.size
  have B5 : Below w.heap.size w w5 := B4.trans (hb.mono (by omega))
  clear hb hs hz B4
  go_wp2_with (first | (go_at_call 35; refine (fixed_Sum [] _ _ 0 _ (by decide) (Ints.nil _ _ _)).mono ?_; rintro e w' ⟨rfl, rfl⟩) | (go_at_call 24; refine (fixed_Add _ _ _).mono ?_; rintro e w' ⟨rfl, rfl⟩) | (go_at_call 26; refine (fixed_Part _ _ _ _).mono ?_; rintro e w' ⟨rfl, rfl⟩) | (go_at_call 23; refine (known1 _).mono ?_; rintro e w' ⟨rfl, hb⟩))
  go_ret
  exact ⟨rfl, B5.trans (hb.mono B5.size)⟩
end Go.Proofs.Ytldpmhahndpfnaa
