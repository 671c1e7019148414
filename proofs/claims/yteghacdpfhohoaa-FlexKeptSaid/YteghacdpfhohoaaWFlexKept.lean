/-
  The walk of FlexKept.
-/
import Derived.Test.YteghacdpfhohoaaWFlexFills
import Derived.Test.YteghacdpfhohoaaPlainF4
import Derived.Test.YteghacdpfhohoaaBookES
import Derived.Test.YteghacdpfhohoaaBookG
namespace Go.Proofs.Yteghacdpfhohoaa
open Go.RowKit Num Mem Opn
set_option linter.unusedVariables false
theorem own_ints {w : World} {B g n : Nat} {ty : TypeId} {l : List Int} (h : Blk w g ty (ints l)) (hB : B ≤ g) (hn : l.length = n) (hm : n ≤ maxLen) : w.ownsRow B ty 1 (.slice (some ⟨g, 0, none⟩) n n) n (l.map (Value.int .i64)) := by
  refine ⟨by simp [hn], .inr ⟨g, n, ints l, rfl, hB, h, Nat.le_refl _, hm, by simp [ints, hn], ?_⟩⟩
  have : (ints l).toList = l.map (Value.int .i64) := by simp [ints]
  rw [this, List.take_of_length_le (by simp [hn])]
theorem mark_span (i j : Nat) (w : World) (hi : i ≤ 3001) (hj : j ≤ maxLen) : Calls Try.prog 46 #[.int .i64 i, .int .i64 j] w fun e w' => e = .returned (.agg #[.int .i64 (-100 - (i : Int)), .int .i64 (-(j : Int))]) ∧ Below w.heap.size w w' := by
  unfold maxLen at hj
  have h : IntKind.i64.wrap (-100 - (i : Int)) = -100 - (i : Int) := IntWalk.i64_in _ (by omega)
  have h2 : IntKind.i64.wrap (-(j : Int)) = -(j : Int) := IntWalk.i64_in _ (by omega)
  go_enter Try.func46, Try.ntmps46
  go_wp2_with fail
  go_returns
  exact ⟨rfl, (Below.refl w.heap.size w).alloc (Nat.le_refl _) _⟩
theorem mark_size (i j : Nat) (w : World) (hi : i ≤ 3001) (hj : j ≤ maxLen) : Calls Try.prog 44 #[.int .i64 i, .int .i64 j] w fun e w' => e = .returned (.int .i64 (-1000 - (i : Int))) ∧ w = w' := by
  have h : IntKind.i64.wrap (-1000 - (i : Int)) = -1000 - (i : Int) := IntWalk.i64_in _ (by omega)
  go_enter Try.func44, Try.ntmps44
  go_wp2_with fail
  go_ret
  exact ⟨rfl, rfl⟩
theorem Mem.BookAt.Sw {α : Type} {bt lt ty : TypeId} {sz : Nat} {fl : α → List Value} {ok : α → Prop} {w : World} {g B S n : Nat} (h : BookAt bt lt ty sz fl ok w g B S n) : S ≤ w.heap.size := by
  obtain ⟨Ls, v1, v2, held, hn, hb⟩ := h.ex
  exact hb.Sw
theorem sizes_bd (room : Int) (l : List It) (hl : l.length ≤ 1048576) (i : Nat) : -70368744177664 ≤ (sizes room l).getD i 0 ∧ (sizes room l).getD i 0 ≤ 70368744177664 := by
  unfold sizes
  split
  · rcases Nat.lt_or_ge i l.length with hi | hi
    · rw [zadd_get (by rw [share_length, outs_length, grws_length]) (by rw [outs_length]; exact hi)]
      exact ⟨add_lo _ _, add_hi _ _⟩
    · rw [getD_out (by rw [zadd_length (by rw [share_length, outs_length, grws_length]), outs_length]; exact hi)]
      decide
  · split
    · have h1 := (shr_le (m := 70368744177664) (by decide) l hl (l.length + 1) (outs l) (List.replicate l.length false) (-frees room l l.length) (outs_length l) (by simp) (sz_outs l)).2 i
      have h2 := sz_outs l i
      omega
    · have h2 := sz_outs l i
      omega
theorem ats_bd (l : List It) (s g : List Int) (k : Nat) : -70368744177664 ≤ ats 0 l s g k ∧ ats 0 l s g k ≤ 70368744177664 := by
  cases k with
  | zero => simp [ats]
  | succ k =>
    rw [ats]
    split
    · exact ⟨add_lo _ _, add_hi _ _⟩
    · exact ⟨add_lo _ _, add_hi _ _⟩
theorem places_ok (room : Int) (l : List It) (hl : l.length ≤ 1048576) : ∀ x ∈ places room l 3, okSp x := by
  intro x hx
  obtain ⟨i, hi, rfl⟩ := List.getElem_of_mem hx
  unfold places at hi ⊢
  have hi' : i < l.length := by rwa [plcs_length] at hi
  have hg := plcs_get (at0 (lft room l (sizes room l)) 3) l (sizes room l) (gapsOf (lft room l (sizes room l)) 3 l.length) l.length i hi'
  rw [List.getElem?_eq_getElem hi] at hg
  injection hg with hg
  rw [hg]
  have h1 := ats_bd l (sizes room l) (gapsOf (lft room l (sizes room l)) 3 l.length) i
  have h2 := sizes_bd room l hl i
  have h0 : at0 (lft room l (sizes room l)) 3 = 0 := rfl
  rw [h0]
  exact ⟨⟨by dsimp only; omega, by dsimp only; omega⟩, ⟨by dsimp only; omega, by dsimp only; omega⟩⟩
theorem places_len (room : Int) (l : List It) (j : Int) : (places room l j).length = l.length := plcs_length _ _ _ _ _
set_option maxRecDepth 100000 in
set_option maxHeartbeats 16000000 in
theorem walk_FlexKept (room : Int) (A0 : Option Addr) (l0 : List It) (c0 : Nat) (w : World) (ir : I64 room) (hr : RowI w A0 l0 c0) :
    Calls Try.prog 11 #[.int .i64 room, .slice A0 l0.length c0] w fun e w' => e = .returned (.bool true) ∧ Below w.heap.size w w' := by
  obtain ⟨hA0, hlc, hcp, hx⟩ := hr
  have hl40 : ((l0.take 40).map it).length ≤ 40 := by simp; omega
  go_enter Try.func11, Try.ntmps11
  go_wp2_with fail
  refine (some_items l0 A0 c0 _ (by omega) hA0 (fun x h => ⟨(hx x h).1, (hx x h).2.1⟩)).mono ?_
  rintro e w1 ⟨v, v', rfl, hb1, ho⟩
  generalize (l0.take 40).map it = l at *
  obtain ⟨A, c, rfl, hc⟩ := own_some ho
  have hR1 : Recs w1 w1.heap.size A 4 It.cells l := Recs.of_own it_length (by decide) ho
  clear hA0 hlc hcp hx ho
  obtain ⟨X, hXe⟩ : ∃ X, sizes room l = X := ⟨_, rfl⟩
  obtain ⟨Y, hYe⟩ : ∃ Y, places room l 3 = Y := ⟨_, rfl⟩
  have hXl : X.length = l.length := by rw [← hXe]; exact sizes_length room l
  have hYl : Y.length = l.length := by rw [← hYe]; exact places_len room l 3
  have hYo : ∀ x ∈ Y, okSp x := by rw [← hYe]; exact places_ok room l (by omega)
  replace hXl := hid hXl
  replace hYl := hid hYl
  replace hYo := hid hYo
  replace hXe := hid hXe
  replace hYe := hid hYe
  have hn1 : Blk ((w1.alloc (.cells #[.slice none 0 0, .slice none 0 0, .int .i64 0, .bool false] 80)).alloc (.cells #[.slice none 0 0, .slice none 0 0, .int .i64 0, .bool false] 83)) w1.heap.size 80 #[.slice none 0 0, .slice none 0 0, .int .i64 0, .bool false] := (Blk.new _ _ _).alloc _
  have hn2 : Blk ((w1.alloc (.cells #[.slice none 0 0, .slice none 0 0, .int .i64 0, .bool false] 80)).alloc (.cells #[.slice none 0 0, .slice none 0 0, .int .i64 0, .bool false] 83)) (w1.heap.size + 1) 83 #[.slice none 0 0, .slice none 0 0, .int .i64 0, .bool false] := by
    have := Blk.new (w1.alloc (.cells #[.slice none 0 0, .slice none 0 0, .int .i64 0, .bool false] 80)) 83 #[.slice none 0 0, .slice none 0 0, .int .i64 0, .bool false]
    simpa using this
  have hn3 : Below w1.heap.size w1 ((w1.alloc (.cells #[.slice none 0 0, .slice none 0 0, .int .i64 0, .bool false] 80)).alloc (.cells #[.slice none 0 0, .slice none 0 0, .int .i64 0, .bool false] 83)) := ((Below.refl _ _).alloc (Nat.le_refl _) _).alloc (by simp) _
  have hn4 := hid (show ((w1.alloc (.cells #[.slice none 0 0, .slice none 0 0, .int .i64 0, .bool false] 80)).alloc (.cells #[.slice none 0 0, .slice none 0 0, .int .i64 0, .bool false] 83)).heap.size = w1.heap.size + 2 by simp)
  go_wp2_with fail
  generalize (w1.alloc (.cells #[.slice none 0 0, .slice none 0 0, .int .i64 0, .bool false] 80)).alloc (.cells #[.slice none 0 0, .slice none 0 0, .int .i64 0, .bool false] 83) = w2 at *
  obtain ⟨g, hg⟩ : ∃ g, w1.heap.size = g := ⟨_, rfl⟩
  have hz2 : g + 2 ≤ w2.heap.size := by have := hn4.out; omega
  have hzw : w.heap.size ≤ g := by have := hb1.size; omega
  rw [hg] at hn1 hn2 hn3 hR1 ⊢
  replace hR1 : Recs w2 g A 4 It.cells l := hR1.below hn3
  have hB2 : Below w.heap.size w w2 := hb1.trans (hn3.mono hzw)
  have hK0 : BookAt 80 27 2 1 flI (fun _ => True) w2 g (g + 2) (g + 2) 0 := BookAt.new hn1 (by omega) hz2
  have hW0 : BookAt 83 73 76 2 Sp.cells okSp w2 (g + 1) (g + 2) (g + 2) 0 := BookAt.new hn2 (by omega) hz2
  clear hn1 hn2 hn3 hn4 hb1 hg
  go_loopw [9] (fun s9 wr => ∃ k : Nat, k ≤ 2 ∧ s9 = .int .i64 k ∧ Below w.heap.size w wr ∧ Below g w2 wr ∧ g + 2 ≤ wr.heap.size ∧ (∃ S, S ≤ wr.heap.size ∧ BookAt 80 27 2 1 flI (fun _ => True) wr g (g + 2) S k) ∧ (∃ S, S ≤ wr.heap.size ∧ BookAt 83 73 76 2 Sp.cells okSp wr (g + 1) (g + 2) S k)) (fun i _ => 2 - (intOf i).toNat)
  case atStart => exact ⟨0, by omega, rfl, hB2, Below.refl _ _, hz2, ⟨_, hz2, hK0⟩, ⟨_, hz2, hW0⟩⟩
  case round =>
    clear hK0 hW0 hB2
    obtain ⟨k, hk, rfl, hB, hBg, hz, ⟨S1, hs1, hK⟩, ⟨S2, hs2, hW⟩⟩ := hrel
    by_cases hlt : k < 2
    · have dk : decide ((k : Int) < 2) = true := decide_eq_true (by omega)
      have hC := flex_Sizes room l A c wr (by omega) ir ((hR1.below hBg).more (by omega))
      rw [hXe.out] at hC
      go_wp2_with fail
      refine hC.mono ?_
      clear hC
      rintro e w3 ⟨rfl, hb3, hS3⟩
      have hz3 := hb3.size
      have hO3 := own_ints (B := S1) hS3 hs1 hXl.out (by unfold maxLen; omega)
      have hB3 := hB.trans (hb3.mono hB.size)
      have hG3 := hBg.trans (hb3.mono (by omega : g ≤ wr.heap.size))
      replace hK := hK.below hb3
      replace hW := hW.below hb3
      clear hb3 hS3 hB hBg
      have hk4 := book_Keep_int64 _ _ _ _ _ X w3 (by omega) (by have := hXl.out; omega) hK (by rw [hXl.out]; exact hO3)
      clear hO3
      go_wp2_with fail
      refine hk4.mono ?_
      clear hk4 hK
      rintro e w4 ⟨rfl, hK4, hbk4⟩
      have hz4 := hbk4.size
      have hW4 := hW.over hbk4 (by decide) (by decide) (by decide) (by omega) (by omega)
      have hB4 := hB3.trans (hbk4.below _ hzw (by omega))
      have hG4 := hG3.trans (hbk4.below _ (Nat.le_refl _) (by omega))
      clear hbk4 hB3 hG3 hW
      have hP := flex_Places room l A c 3 w4 (by omega) ir ((hR1.below hG4).more (by omega))
      rw [hYe.out] at hP
      go_wp2_with fail
      refine hP.mono ?_
      clear hP
      rintro e w5 ⟨v5, rfl, hb5, hO5⟩
      have hz5 := hb5.size
      replace hW4 := hW4.below hb5
      replace hK4 := hK4.below hb5
      have hB5 := hB4.trans (hb5.mono (by omega))
      have hG5 := hG4.trans (hb5.mono (by omega))
      clear hb5 hB4 hG4
      have hk6 := book_Keep_span _ _ _ _ v5 Y w5 (by omega) (by have := hYl.out; omega) hYo.out hW4 (by rw [hYl.out]; exact own_base hO5 (by omega))
      clear hO5
      go_wp2_with fail
      refine hk6.mono ?_
      clear hk6
      rintro e w6 ⟨rfl, hW6, hbk6⟩
      have hz6 := hbk6.size
      have hK6 := hK4.over hbk6 (by decide) (by decide) (by decide) (by omega) (by omega)
      have hB6 := hB5.trans (hbk6.below _ (by omega) (by omega))
      have hG6 := hG5.trans (hbk6.below _ (by omega) (by omega))
      clear hbk6 hB5 hG5 hW4 hK4
      go_wp2_with fail
      go_roundw
      case rel => exact ⟨k + 1, by omega, by go_num, hB6, hG6, by omega, ⟨_, by omega, hK6⟩, ⟨_, by omega, hW6⟩⟩
      case measure => simp [intOf]; omega
    · obtain rfl : k = 2 := by omega
      have hap := book_Apart_int64 _ _ _ _ 44 (fun i _ => -1000 - (i : Int)) wr (by omega) (fun _ _ => by kernel_rfl) (fun i j w hi hj => mark_size i j w hi hj) hK
      go_wp2_with fail
      refine hap.mono ?_
      clear hap hK
      rintro e w3 ⟨rfl, hbk3⟩
      have hz3 := hbk3.size
      have hW3 := hW.over hbk3 (by decide) (by decide) (by decide) (by omega) (by omega)
      have hB3 := hB.trans (hbk3.below _ (by omega) (by omega))
      clear hbk3 hB hW
      have hap := book_Apart_span _ _ _ _ 46 (fun i j => ⟨-100 - (i : Int), -(j : Int)⟩) (fun i j hi hj => by unfold maxLen at hj; exact ⟨⟨by dsimp only; omega, by dsimp only; omega⟩, ⟨by dsimp only; omega, by dsimp only; omega⟩⟩) w3 (by omega) (fun _ _ => by kernel_rfl) (fun i j w hi hj => mark_span i j w hi hj) hW3
      go_wp2_with fail
      refine hap.mono ?_
      clear hap hW3
      rintro e w4 ⟨rfl, hbk4⟩
      have hB4 := hB3.trans (hbk4.below _ (by omega) (by omega))
      clear hbk4 hB3
      go_wp2_with fail
      refine (known18 _).mono ?_
      rintro e w10 ⟨rfl, hb10⟩
      go_wp2_with fail
      go_ret
      exact ⟨rfl, hB4.trans (hb10.mono hB4.size)⟩
end Go.Proofs.Yteghacdpfhohoaa
