/-
  The walk of FixedShares.
-/
import Derived.Test.YtldpmhahndpfnaaKnown1
import Derived.Test.YtldpmhahndpfnaaShareRef
import Derived.Test.YtldpmhahndpfnaaOpen
namespace Go.Proofs.Ytldpmhahndpfnaa
open Go.RowKit Num Mem Opn

theorem share_length (t : Int) (l : List Int) : (share t l).length = l.length := by
  have hg : ∀ j x r, (give j x r).length = x.length := by
    intro j
    induction j with
    | zero => intro x r; rfl
    | succ j ih => intro x r; rw [give, ih, List.length_set]
  unfold share
  split
  · simp
  · rw [hg, upto_length]

theorem refShare_n (t : Int) (l : List Int) (n : Nat) (A : Option Addr) (c : Nat) (w : World) (hn : l.length = n) (hl : n ≤ 1048576) (hA : Ints w w.heap.size A l) :
    Calls Try.prog 21 #[.int .i64 t, .slice A n c] w fun e w' =>
      e = .returned (.slice (some ⟨w.heap.size, 0, none⟩) n n) ∧ Below w.heap.size w w' ∧ Blk w' w.heap.size 2 (ints (share t l)) := by
  subst hn
  exact ref_Share t l A c w hl hA
theorem roomy_n (l : List Int) (n : Nat) (A : Option Addr) (c : Nat) (m : Int) (w : World) (hn : l.length = n) (hl : n ≤ 17592186044416) (hA : Ints w w.heap.size A l) :
    Calls Try.prog 18 #[.slice A n c, .int .i64 m] w fun e w' =>
      e = .returned (.slice (some ⟨w.heap.size, 0, none⟩) (n + 80) (n + 80)) ∧ Below w.heap.size w w' ∧ Blk w' w.heap.size 2 (ints (l ++ List.replicate 80 m)) := by
  subst hn
  exact book_Roomy l A c m w hl hA
theorem intact_n (l : List Int) (n m' : Nat) (A A' : Option Addr) (c c' B B' : Nat) (m : Int) (w : World) (hn : l.length = n) (hm : n + 80 = m') (hl : n ≤ 17592186044416) (hc : n + 80 ≤ c) (hA : Ints w B A (l ++ List.replicate 80 m)) (hA' : Ints w B' A' l) :
    Calls Try.prog 22 #[.slice A m' c, .slice A' n c', .int .i64 m] w fun e w' => e = .returned (.bool true) ∧ Drawn w w' := by
  subst hn hm
  exact book_Intact l A A' c c' B B' m w hl hc hA hA'

set_option maxHeartbeats 2000000 in
theorem walk_FixedShares (t : Int) (A : Option Addr) (l : List Int) (cp : Nat) (w : World) (_ : I64 t) (hr : Row64 w A l cp) :
    Calls Try.prog 4 #[.int .i64 t, .slice A l.length cp] w fun e w' => e = .returned (.bool true) ∧ Below w.heap.size w w' := by
  obtain ⟨hA, hlc, hcp, _⟩ := hr
  obtain ⟨k, hk, hk1, hk2⟩ : ∃ k, (l.take k).length = k ∧ k ≤ 300 ∧ (300 < l.length ∧ k = 300 ∨ l.length ≤ 300 ∧ k = l.length) := by
    rcases Nat.lt_or_ge 300 l.length with h | h
    · exact ⟨300, by simp; omega, by omega, .inl ⟨h, rfl⟩⟩
    · exact ⟨l.length, by simp, h, .inr ⟨h, rfl⟩⟩
  have hT := hA.take k
  generalize l.take k = l' at hT hk
  have HK := hid hk
  clear hk
  rcases hk2 with ⟨hgt, rfl⟩ | ⟨hle, rfl⟩
  all_goals
    go_enter Try.func4, Try.ntmps4
    go_wp2_with fail
    refine (roomy_n l' _ A cp (-7) w HK.out (by omega) hT).mono ?_
    rintro e w1 ⟨rfl, hb, hB⟩
    have hz := hb.size
    have hz2 := hB.lt
    have hF := Ints.ofBlk hB (Nat.lt_succ_self _)
    have hF2 : Ints w1 (w.heap.size + 1) (some ⟨w.heap.size, 0, none⟩) l' := by
      have := hF.take l'.length
      rwa [List.take_append_of_le_length (Nat.le_refl _), List.take_length] at this
    go_wp2_with fail
    refine (share_n t l' _ _ _ w1 HK.out (by omega) (hF2.more (by omega))).mono ?_
    rintro e w2 ⟨rfl, hb2, hB2⟩
    have hz3 := hb2.size
    have hz4 := hB2.lt
    go_wp2_with fail
    refine (refShare_n t l' _ _ _ w2 HK.out (by omega) (((hT.below hb).below (hb2.mono (by omega))).more (by omega))).mono ?_
    rintro e w3 ⟨rfl, hb3, hB3⟩
    have hz5 := hb3.size
    go_wp2_with fail
    refine (same_n (share t l') _ _ _ _ _ _ _ w3 ((share_length t l').trans HK.out) (by omega) (Ints.ofBlk (hB2.below hb3 (by omega)) (Nat.lt_succ_self _)) (Ints.ofBlk hB3 (Nat.lt_succ_self _))).mono ?_
    rintro e w4 ⟨rfl, hd⟩
    go_wp2_with fail
    refine (intact_n l' _ _ _ _ _ _ (w.heap.size + 1) w.heap.size (-7) _ HK.out rfl (by omega) (by omega) (((hF.below (hb2.mono (by omega))).below (hb3.mono (by omega))).drawn hd) ((((hT.below hb).below (hb2.mono (by omega))).below (hb3.mono (by omega))).drawn hd)).mono ?_
    rintro e w5 ⟨rfl, hd2⟩
    have hd3 := hd.trans hd2
    have hz6 := (hd3.below 0).size
    go_wp2_with fail
    refine (known1 _).mono ?_
    rintro e w6 ⟨rfl, hb6⟩
    go_wp2
    go_ret
    exact ⟨rfl, hb.trans ((hb2.mono (by omega)).trans ((hb3.mono (by omega)).trans ((hd3.below _).trans (hb6.mono (by omega)))))⟩
end Go.Proofs.Ytldpmhahndpfnaa
