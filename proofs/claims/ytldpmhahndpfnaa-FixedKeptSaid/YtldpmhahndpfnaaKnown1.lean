/-
  The walk of casementlaw1.known: it answers true.
-/
import Derived.Test.YtldpmhahndpfnaaBook
namespace Go.Proofs.Ytldpmhahndpfnaa
open Go.RowKit Num Mem

theorem share_n (t : Int) (l : List Int) (n : Nat) (A : Option Addr) (c : Nat) (w : World) (hn : l.length = n) (hl : n ≤ 1048576) (hA : Ints w w.heap.size A l) :
    Calls Try.prog 20 #[.int .i64 t, .slice A n c] w fun e w' =>
      e = .returned (.slice (some ⟨w.heap.size, 0, none⟩) n n) ∧ Below w.heap.size w w' ∧ Blk w' w.heap.size 2 (ints (share t l)) := by
  subst hn
  exact fixed_Share t l A c w hl hA
theorem same_n (l : List Int) (n : Nat) (A A' : Option Addr) (c c' B B' : Nat) (w : World) (hn : l.length = n) (hl : n ≤ 35184372088832) (hA : Ints w B A l) (hA' : Ints w B' A' l) :
    Calls Try.prog 19 #[.slice A n c, .slice A' n c'] w fun e w' => e = .returned (.bool true) ∧ Drawn w w' := by
  subst hn
  exact book_Same l A A' c c' B B' w hl hA hA'

theorem known1 (w : World) : Calls Try.prog 23 #[] w fun e w' => e = .returned (.bool true) ∧ Below w.heap.size w w' := by
  have h1 : (add 70368744177664 1 == 70368744177664) = true := by decide
  have h2 : (sub (-70368744177664) 1 == -70368744177664) = true := by decide
  have h3 : (prt (-1) 1 2 == -1) = true := by decide
  go_enter Try.func23, Try.ntmps23
  go_wp2_with fail
  refine (fixed_Add _ _ _).mono ?_
  rintro e w' ⟨rfl, rfl⟩
  go_wp2_with fail
  refine (fixed_Sub _ _ _).mono ?_
  rintro e w' ⟨rfl, rfl⟩
  go_wp2_with fail
  refine (fixed_Part _ _ _ _).mono ?_
  rintro e w' ⟨rfl, rfl⟩
  go_wp2_with fail
  refine (share_n 10 [1, 1, 1] 3 _ _ _ rfl (by omega) (Ints.ofBlk (Blk.new w _ _) (by simp))).mono ?_
  rintro e w1 ⟨rfl, hb, hs⟩
  simp only [World.size_alloc] at hb hs
  have hz := hb.size
  simp only [World.size_alloc] at hz
  rw [show share 10 [1, 1, 1] = [4, 3, 3] by decide] at hs
  go_wp2_with fail
  refine (same_n [4, 3, 3] 3 _ _ _ _ (w1.heap.size + 1) (w1.heap.size + 1) _ rfl (by omega) (Ints.ofBlk (hs.alloc _) (by omega)) (Ints.ofBlk (Blk.new w1 _ _) (by omega))).mono ?_
  rintro e w2 ⟨rfl, hd⟩
  go_wp2
  go_ret
  exact ⟨rfl, ((((Below.refl _ _).alloc (Nat.le_refl _) _).trans (hb.mono (by omega))).alloc (by omega) _).trans (hd.below _)⟩
end Go.Proofs.Ytldpmhahndpfnaa
