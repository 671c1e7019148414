/-
  The walk of FixedReckons.
-/
import Derived.Test.YtldpmhahndpfnaaKnown1
import Derived.Test.YtldpmhahndpfnaaOpen
namespace Go.Proofs.Ytldpmhahndpfnaa
open Go.RowKit Num Mem Opn

set_option maxHeartbeats 2000000 in
theorem walk_FixedReckons (a b c : Int) (A : Option Addr) (l : List Int) (cp : Nat) (w : World) (_ : I64 a) (_ : I64 b) (_ : I64 c) (hr : Row64 w A l cp) :
    Calls Try.prog 13 #[.int .i64 a, .int .i64 b, .int .i64 c, .slice A l.length cp] w fun e w' => e = .returned (.bool true) ∧ Below w.heap.size w w' := by
  obtain ⟨hA, hlc, hcp, _⟩ := hr
  have hlen : l.length ≤ 17592186043904 := by omega
  go_enter Try.func13, Try.ntmps13
  go_wp2_with fail
  refine (book_Roomy l A cp (-7) w (by omega) hA).mono ?_
  rintro e w1 ⟨rfl, hb, hB⟩
  have hz := hb.size
  have hz2 := hB.lt
  have hF : Ints w1 (w.heap.size + 1) (some ⟨w.heap.size, 0, none⟩) l := by
    have := Ints.ofBlkTake hB (Nat.lt_succ_self _) l.length
    rwa [List.take_append_of_le_length (Nat.le_refl _), List.take_length] at this
  go_wp2_with (first | (go_at_call 36; refine (fixed_Sat _ _).mono ?_; rintro e w' ⟨rfl, rfl⟩) | (go_at_call 37; refine (ref_Sat _ _).mono ?_; rintro e w' ⟨rfl, rfl⟩) | (go_at_call 24; refine (fixed_Add _ _ _).mono ?_; rintro e w' ⟨rfl, rfl⟩) | (go_at_call 38; refine (ref_Add _ _ _).mono ?_; rintro e w' ⟨rfl, rfl⟩) | (go_at_call 25; refine (fixed_Sub _ _ _).mono ?_; rintro e w' ⟨rfl, rfl⟩) | (go_at_call 39; refine (ref_Sub _ _ _).mono ?_; rintro e w' ⟨rfl, rfl⟩) | (go_at_call 34; refine (fixed_Times _ _ _).mono ?_; rintro e w' ⟨rfl, rfl⟩) | (go_at_call 40; refine (ref_Times _ _ _).mono ?_; rintro e w' ⟨rfl, rfl⟩) | (go_at_call 26; refine (fixed_Part _ _ _ _).mono ?_; rintro e w' ⟨rfl, rfl⟩) | (go_at_call 41; refine (ref_Part _ _ _ _).mono ?_; rintro e w' ⟨rfl, rfl⟩) | fail)
  refine (fixed_Sum l _ _ (w.heap.size + 1) _ (by omega) hF).mono ?_
  rintro e w' ⟨rfl, rfl⟩
  go_wp2_with fail
  refine (ref_Sum l _ _ w.heap.size _ (by omega) (hA.below hb)).mono ?_
  rintro e w' ⟨rfl, rfl⟩
  go_wp2_with fail
  refine (book_Intact l _ _ _ _ (w.heap.size + 1) w.heap.size (-7) _ (by omega) (by omega) (Ints.ofBlk hB (Nat.lt_succ_self _)) (hA.below hb)).mono ?_
  rintro e w2 ⟨rfl, hd⟩
  go_wp2_with fail
  refine (known1 _).mono ?_
  rintro e w3 ⟨rfl, hb3⟩
  have hz3 := (hd.below 0).size
  go_wp2
  go_ret
  exact ⟨rfl, hb.trans ((hd.below _).trans (hb3.mono (by omega)))⟩
end Go.Proofs.Ytldpmhahndpfnaa
