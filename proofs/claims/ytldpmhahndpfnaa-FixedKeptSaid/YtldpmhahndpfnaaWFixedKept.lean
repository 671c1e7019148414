/-
  The walk of FixedKept.
-/
import Derived.Test.YtldpmhahndpfnaaKnown1
import Derived.Test.YtldpmhahndpfnaaBookE
import Derived.Test.YtldpmhahndpfnaaOpen
namespace Go.Proofs.Ytldpmhahndpfnaa
open Go.RowKit Num Mem Opn
set_option linter.unusedVariables false
theorem own_ints {w : World} {B g n : Nat} {ty : TypeId} {l : List Int} (h : Blk w g ty (ints l)) (hB : B ≤ g) (hn : l.length = n) (hm : n ≤ maxLen) : w.ownsRow B ty 1 (.slice (some ⟨g, 0, none⟩) n n) n (l.map (Value.int .i64)) := by
  refine ⟨by simp [hn], .inr ⟨g, n, ints l, rfl, hB, h, Nat.le_refl _, hm, by simp [ints, hn], ?_⟩⟩
  have : (ints l).toList = l.map (Value.int .i64) := by simp [ints]
  rw [this, List.take_of_length_le (by simp [hn])]
theorem mark1 (i j : Nat) (w : World) (hi : i ≤ 3001) (hj : j ≤ maxLen) : Calls Try.prog 29 #[.int .i64 i, .int .i64 j] w fun e w' => e = .returned (.int .i64 (-1000 - (i : Int))) ∧ w = w' := by
  have h : IntKind.i64.wrap (-1000 - (i : Int)) = -1000 - (i : Int) := IntWalk.i64_in _ (by omega)
  go_enter Try.func29, Try.ntmps29
  go_wp2_with fail
  go_ret
  exact ⟨rfl, rfl⟩
theorem share_length1 (t : Int) (l : List Int) : (share t l).length = l.length := by
  have hg : ∀ j x r, (give j x r).length = x.length := by
    intro j
    induction j with
    | zero => intro x r; rfl
    | succ j ih => intro x r; rw [give, ih, List.length_set]
  unfold share
  split
  · simp
  · rw [hg, upto_length]
set_option maxRecDepth 100000 in
set_option maxHeartbeats 4000000 in
theorem walk_FixedKept (t : Int) (A : Option Addr) (l : List Int) (cp : Nat) (w : World) (_ : I64 t) (hr : Row64 w A l cp) :
    Calls Try.prog 8 #[.int .i64 t, .slice A l.length cp] w fun e w' => e = .returned (.bool true) ∧ Below w.heap.size w w' := by
  obtain ⟨hA, hlc, hcp, _⟩ := hr
  obtain ⟨k, hk, hk1, hk2⟩ : ∃ k, (l.take k).length = k ∧ k ≤ 100 ∧ (100 < l.length ∧ k = 100 ∨ l.length ≤ 100 ∧ k = l.length) := by
    rcases Nat.lt_or_ge 100 l.length with h | h
    · exact ⟨100, by simp; omega, by omega, .inl ⟨h, rfl⟩⟩
    · exact ⟨l.length, by simp, h, .inr ⟨h, rfl⟩⟩
  have hT := hA.take k
  generalize l.take k = l' at hT hk
  have HK := hid hk
  have HS := hid (share_length1 t l')
  have hmx : k ≤ maxLen := by unfold maxLen; omega
  clear hk
  have hbk : Blk (w.alloc (.cells #[.slice none 0 0, .slice none 0 0, .int .i64 0, .bool false] 40)) w.heap.size 40 #[.slice none 0 0, .slice none 0 0, .int .i64 0, .bool false] := Blk.new _ _ _
  have hb0 : Below w.heap.size w (w.alloc (.cells #[.slice none 0 0, .slice none 0 0, .int .i64 0, .bool false] 40)) := (Below.refl _ _).alloc (Nat.le_refl _) _
  have hsz0 : (w.alloc (.cells #[.slice none 0 0, .slice none 0 0, .int .i64 0, .bool false] 40)).heap.size = w.heap.size + 1 := by simp
  replace hsz0 := hid hsz0
  rcases hk2 with ⟨hgt, rfl⟩ | ⟨hle, rfl⟩
  all_goals
    go_enter Try.func8, Try.ntmps8
    go_wp2_with fail
    generalize w.alloc (.cells #[.slice none 0 0, .slice none 0 0, .int .i64 0, .bool false] 40) = w0 at *
    have hlt0 : w.heap.size < w0.heap.size := by have := hsz0.out; omega
    have hK0 : BookAt 40 29 2 1 flI (fun _ => True) w0 w.heap.size w0.heap.size w0.heap.size 0 := BookAt.new hbk hlt0 (Nat.le_refl _)
    clear hbk hsz0
    have hT0 := (hT.below hb0).more hb0.size
    refine (share_n t l' _ A cp w0 HK.out (by omega) hT0).mono ?_
    rintro e w1 ⟨rfl, hb1, hP⟩
    have hz1 := hb1.size
    have hK1 := hK0.below hb1
    have hO1 := own_ints hP (Nat.le_refl _) (HS.out.trans HK.out) hmx
    have hk1 := book_Keep_int64 _ _ _ _ _ (share t l') w1 (by omega) (by have := HS.out; have := HK.out; omega) hK1 (by rw [HS.out, HK.out]; exact hO1)
    have hB1 := hb0.trans (hb1.mono hb0.size)
    clear hK0 hK1 hT0 hP hO1 hb1
    go_wp2_with fail
    refine hk1.mono ?_
    clear hk1
    rintro e w2 ⟨rfl, hK2, hbk2⟩
    have hB2 := hB1.trans (hbk2.below _ (Nat.le_refl _) (by omega))
    have hz2 := hbk2.size
    clear hbk2 hB1
    have hT2 := (hT.below hB2).more hB2.size
    go_wp2_with fail
    refine (share_n t l' _ A cp w2 HK.out (by omega) hT2).mono ?_
    rintro e w3 ⟨rfl, hb3, hP⟩
    have hz3 := hb3.size
    have hK3 := hK2.below hb3
    have hO3 := own_ints (B := w1.heap.size) hP hz2 (HS.out.trans HK.out) hmx
    have hk3 := book_Keep_int64 _ _ _ _ _ (share t l') w3 (by omega) (by have := HS.out; have := HK.out; omega) hK3 (by rw [HS.out, HK.out]; exact hO3)
    have hB3 := hB2.trans (hb3.mono hB2.size)
    clear hK2 hK3 hT2 hP hO3 hb3 hB2
    go_wp2_with fail
    refine hk3.mono ?_
    clear hk3
    rintro e w4 ⟨rfl, hK4, hbk4⟩
    have hB4 := hB3.trans (hbk4.below _ (Nat.le_refl _) (by omega))
    clear hbk4 hB3
    have hap := book_Apart_int64 _ _ _ _ 29 (fun i _ => -1000 - (i : Int)) w4 (by omega) (fun _ _ => by kernel_rfl) (fun i j w hi hj => mark1 i j w hi hj) hK4
    go_wp2_with fail
    refine hap.mono ?_
    clear hap hK4
    rintro e w5 ⟨rfl, hbk5⟩
    have hB5 := hB4.trans (hbk5.below _ (Nat.le_refl _) (by omega))
    clear hbk5 hB4
    go_wp2_with fail
    refine (known1 w5).mono ?_
    rintro e w6 ⟨rfl, hb6⟩
    go_wp2_with fail
    go_ret
    exact ⟨rfl, hB5.trans (hb6.mono hB5.size)⟩
end Go.Proofs.Ytldpmhahndpfnaa
