/-
  The walk of TableKept.
-/
import Derived.Test.YtkoanijiihnioaaWTableWider
import Derived.Test.YtkoanijiihnioaaBookEN
import Derived.Test.YtkoanijiihnioaaBookG
import Derived.Test.YtkoanijiihnioaaTabE
namespace Go.Proofs.Ytkoanijiihnioaa
open Go.RowKit Num Mem Opn
set_option linter.unusedVariables false
theorem own_ints {w : World} {B g n : Nat} {ty : TypeId} {l : List Int} (h : Blk w g ty (ints l)) (hB : B ≤ g) (hn : l.length = n) (hm : n ≤ maxLen) : w.ownsRow B ty 1 (.slice (some ⟨g, 0, none⟩) n n) n (l.map (Value.int .i64)) := by
  refine ⟨by simp [hn], .inr ⟨g, n, ints l, rfl, hB, h, Nat.le_refl _, hm, by simp [ints, hn], ?_⟩⟩
  have : (ints l).toList = l.map (Value.int .i64) := by simp [ints]
  rw [this, List.take_of_length_le (by simp [hn])]
theorem mark_need (i j : Nat) (w : World) (hi : i ≤ 3001) (hj : j ≤ maxLen) : Calls Try.prog 45 #[.int .i64 i, .int .i64 j] w fun e w' => e = .returned (.agg #[.int .i64 (-100 - (i : Int)), .int .i64 (-(j : Int))]) ∧ Below w.heap.size w w' := by
  unfold maxLen at hj
  have h : IntKind.i64.wrap (-100 - (i : Int)) = -100 - (i : Int) := IntWalk.i64_in _ (by omega)
  have h2 : IntKind.i64.wrap (-(j : Int)) = -(j : Int) := IntWalk.i64_in _ (by omega)
  go_enter Try.func45, Try.ntmps45
  go_wp2_with fail
  go_returns
  exact ⟨rfl, (Below.refl w.heap.size w).alloc (Nat.le_refl _) _⟩
theorem mark_width (i j : Nat) (w : World) (hi : i ≤ 3001) (hj : j ≤ maxLen) : Calls Try.prog 47 #[.int .i64 i, .int .i64 j] w fun e w' => e = .returned (.int .i64 (-1000 - (i : Int))) ∧ w = w' := by
  have h : IntKind.i64.wrap (-1000 - (i : Int)) = -1000 - (i : Int) := IntWalk.i64_in _ (by omega)
  go_enter Try.func47, Try.ntmps47
  go_wp2_with fail
  go_ret
  exact ⟨rfl, rfl⟩
theorem bet_ok {m : Int} {l : List Nd} (h : Bet m l) (hm : m ≤ 1000000000) : ∀ x ∈ l, okN x := by
  intro x hx
  obtain ⟨i, hi, rfl⟩ := List.getElem_of_mem hx
  have := h i
  rw [List.getD_eq_getElem?_getD, List.getElem?_eq_getElem hi, Option.getD_some] at this
  exact ⟨⟨by omega, by omega⟩, ⟨by omega, by omega⟩⟩
theorem Mem.BookAt.Sw {α : Type} {bt lt ty : TypeId} {sz : Nat} {fl : α → List Value} {ok : α → Prop} {w : World} {g B S n : Nat} (h : BookAt bt lt ty sz fl ok w g B S n) : S ≤ w.heap.size := by
  obtain ⟨Ls, v1, v2, held, hn, hb⟩ := h.ex
  exact hb.Sw
theorem trk5 : rowsM [[1], [2, 3]] = [1, 3] := by decide
set_option maxRecDepth 100000 in
set_option maxHeartbeats 16000000 in
theorem walk_TableKept (A0 : Option Addr) (ls : List (List Nd)) (c0 : Nat) (room : Int) (w : World) (hr : RowsN w A0 ls c0) (ir : I64 room) :
    Calls Try.prog 13 #[.slice A0 ls.length c0, .int .i64 room] w fun e w' => e = .returned (.bool true) ∧ Below w.heap.size w w' := by
  obtain ⟨⟨vs, hA0⟩, hcap, hfew, hok⟩ := hr
  have hr1 := fw_lo room
  have hr2 := fw_hi room
  have hnl := needs_len ls
  have hnm := needs_most ls
  go_enter Try.func13, Try.ntmps13
  go_wp2_with fail
  refine (some19 ls vs A0 c0 _ (by omega) hA0 hok).mono ?_
  rintro e w1 ⟨A1, c1, A2, c2, vs1, vs2, rfl, hc1, hnone, hb1, hR1, hR2⟩
  have hNL : (needs ls).length ≤ 12 := by simp [needs]; omega
  generalize needs ls = N at *
  clear hA0 hok hcap hfew hR2
  have hbet := cols_bet (by decide) hnm
  have hle := cols_le N
  have hcl := cols_length (m := 12) hnl
  have hXo := bet_ok hbet (by decide)
  obtain ⟨X, hXe⟩ : ∃ X, cols N = X := ⟨_, rfl⟩
  rw [hXe] at hbet hle hcl hXo
  replace hbet := hid hbet
  replace hle := hid hle
  replace hXo := hid hXo
  replace hnl := hid hnl
  clear hnm
  have hn1 : Blk ((w1.alloc (.cells #[.slice none 0 0, .slice none 0 0, .int .i64 0, .bool false] 77)).alloc (.cells #[.slice none 0 0, .slice none 0 0, .int .i64 0, .bool false] 79)) w1.heap.size 77 #[.slice none 0 0, .slice none 0 0, .int .i64 0, .bool false] := (Blk.new _ _ _).alloc _
  have hn2 : Blk ((w1.alloc (.cells #[.slice none 0 0, .slice none 0 0, .int .i64 0, .bool false] 77)).alloc (.cells #[.slice none 0 0, .slice none 0 0, .int .i64 0, .bool false] 79)) (w1.heap.size + 1) 79 #[.slice none 0 0, .slice none 0 0, .int .i64 0, .bool false] := by
    have := Blk.new (w1.alloc (.cells #[.slice none 0 0, .slice none 0 0, .int .i64 0, .bool false] 77)) 79 #[.slice none 0 0, .slice none 0 0, .int .i64 0, .bool false]
    simpa using this
  have hn3 : Below w1.heap.size w1 ((w1.alloc (.cells #[.slice none 0 0, .slice none 0 0, .int .i64 0, .bool false] 77)).alloc (.cells #[.slice none 0 0, .slice none 0 0, .int .i64 0, .bool false] 79)) := ((Below.refl _ _).alloc (Nat.le_refl _) _).alloc (by simp) _
  have hn4 := hid (show ((w1.alloc (.cells #[.slice none 0 0, .slice none 0 0, .int .i64 0, .bool false] 77)).alloc (.cells #[.slice none 0 0, .slice none 0 0, .int .i64 0, .bool false] 79)).heap.size = w1.heap.size + 2 by simp)
  go_wp2_with fail
  generalize (w1.alloc (.cells #[.slice none 0 0, .slice none 0 0, .int .i64 0, .bool false] 77)).alloc (.cells #[.slice none 0 0, .slice none 0 0, .int .i64 0, .bool false] 79) = w2 at *
  obtain ⟨g, hg⟩ : ∃ g, w1.heap.size = g := ⟨_, rfl⟩
  have hz2 : g + 2 ≤ w2.heap.size := by have := hn4.out; omega
  have hzw : w.heap.size ≤ g := by have := hb1.size; omega
  rw [hg] at hn1 hn2 hn3 hR1 ⊢
  replace hR1 : Rows2 w2 g A1 2 Nd.cells vs1 N := hR1.below hn3
  have hB2 : Below w.heap.size w w2 := hb1.trans (hn3.mono hzw)
  have hK0 : BookAt 77 53 58 2 Nd.cells okN w2 g (g + 2) (g + 2) 0 := BookAt.new hn1 (by omega) hz2
  have hW0 : BookAt 79 55 2 1 flI (fun _ => True) w2 (g + 1) (g + 2) (g + 2) 0 := BookAt.new hn2 (by omega) hz2
  clear hn1 hn2 hn3 hn4 hb1 hg hc1 hnone
  obtain ⟨R, hRe⟩ : ∃ R, fw room = R := ⟨_, rfl⟩
  rw [hRe] at hr1 hr2
  replace hRe := hid hRe
  replace hXe := hid hXe
  go_loopw [9, 10] (fun s9 _ wr => ∃ k : Nat, k ≤ 2 ∧ s9 = .int .i64 k ∧ Below w.heap.size w wr ∧ Below g w2 wr ∧ g + 2 ≤ wr.heap.size ∧ (∃ S, S ≤ wr.heap.size ∧ BookAt 77 53 58 2 Nd.cells okN wr g (g + 2) S k) ∧ (∃ S, S ≤ wr.heap.size ∧ BookAt 79 55 2 1 flI (fun _ => True) wr (g + 1) (g + 2) S (k + k))) (fun i _ _ => 2 - (intOf i).toNat)
  case atStart => exact ⟨0, by omega, rfl, hB2, Below.refl _ _, hz2, ⟨_, hz2, hK0⟩, ⟨_, hz2, hW0⟩⟩
  case round =>
    clear hK0 hW0 hB2
    obtain ⟨k, hk, rfl, hB, hBg, hz, ⟨S1, hs1, hK⟩, ⟨S2, hs2, hW⟩⟩ := hrel
    by_cases hlt : k < 2
    · have dk : decide ((k : Int) < 2) = true := decide_eq_true (by omega)
      have hRr := (hR1.below hBg).more (B' := wr.heap.size) (by omega)
      have hC := table_Columns N vs1 A1 c1 wr (by omega) hRr (fun r h => by have := hnl.out r h; omega)
      rw [hXe.out] at hC
      go_wp2_with fail
      refine hC.mono ?_
      clear hC hRr
      rintro e w3 ⟨v3, rfl, hb3, ho3⟩
      have hz3 := hb3.size
      have hB3 := hB.trans (hb3.mono hB.size)
      have hG3 := hBg.trans (hb3.mono (by omega : g ≤ wr.heap.size))
      replace hK := hK.below hb3
      replace hW := hW.below hb3
      have hS1 := hK.Sw
      have hS2 := hW.Sw
      have hS1r : S1 ≤ wr.heap.size := hs1
      have hS2r : S2 ≤ wr.heap.size := hs2
      obtain ⟨A, c, rfl, hc⟩ := own_some ho3
      have hk4 := book_Keep_need _ _ _ _ _ X w3 (by omega) (by omega) hXo.out hK (own_base ho3 hS1r)
      go_wp2_with fail
      refine hk4.mono ?_
      clear hk4
      rintro e w4 ⟨rfl, hK4, hbk4⟩
      have hz4 := hbk4.size
      have hX4 : Recs w4 w4.heap.size A 2 Nd.cells X := Recs.of_own nd_length (by decide) (own_over ho3 hbk4 (by decide) (by omega))
      have hW4 := hW.over hbk4 (by decide) (by decide) (by decide) (by omega) (by omega)
      have hB4 := hB3.trans (hbk4.below _ hzw (by omega))
      have hG4 := hG3.trans (hbk4.below _ (Nat.le_refl _) (by omega))
      clear hbk4 hB3 hG3 hW hK ho3
      go_wp2_with fail
      refine (small19 _ _ ir).mono ?_
      rintro e w' ⟨rfl, rfl⟩
      rw [hRe.out]
      go_wp2_with fail
      refine (table_Widths R X _ c true _ (by omega) (bet_more hbet.out (by decide)) hle.out ⟨by omega, by omega⟩ hX4).mono ?_
      rintro e w5 ⟨g5, hg5, rfl, hb5, hV⟩
      have HF := hid (widths_filled (sure := true) hbet.out hle.out (by omega) (by omega : -16777216 ≤ R) (by omega))
      have hVL := hid HF.out.len
      have hz5 := hb5.size
      have hO5 := own_ints (B := S2) hV (by omega) hVL.out (by unfold maxLen; omega)
      replace hW4 := hW4.below hb5
      replace hK4 := hK4.below hb5
      have hB5 := hB4.trans (hb5.mono (by omega))
      have hG5 := hG4.trans (hb5.mono (by omega))
      clear hX4 hb5 hV HF hB4 hG4
      obtain ⟨V, hVe⟩ : ∃ V, widths R X true = V := ⟨_, rfl⟩
      rw [hVe] at hVL hO5
      clear hVe
      have hk6 := book_Keep_int64 _ _ _ _ _ V w5 (by omega) (by have := hVL.out; omega) hW4 (by rw [hVL.out]; exact hO5)
      clear hO5 hg5
      go_wp2_with fail
      refine hk6.mono ?_
      clear hk6
      rintro e w6 ⟨rfl, hW6, hbk6⟩
      have hz6 := hbk6.size
      have hK6 := hK4.over hbk6 (by decide) (by decide) (by decide) (by omega) (by omega)
      have hB6 := hB5.trans (hbk6.below _ (by omega) (by omega))
      have hG6 := hG5.trans (hbk6.below _ (by omega) (by omega))
      clear hbk6 hB5 hG5 hW4 hK4 hVL
      have hE1 := ((Blk.new w6 2 #[.int .i64 1]).alloc (.cells #[.int .i64 2, .int .i64 3] 2)).alloc (.cells #[.slice (some ⟨w6.heap.size, 0, none⟩) 1 1, .slice (some ⟨w6.heap.size + 1, 0, none⟩) 2 2] 55)
      have hE2 := (Blk.new (w6.alloc (.cells #[.int .i64 1] 2)) 2 #[.int .i64 2, .int .i64 3]).alloc (.cells #[.slice (some ⟨w6.heap.size, 0, none⟩) 1 1, .slice (some ⟨w6.heap.size + 1, 0, none⟩) 2 2] 55)
      have hE3 := Blk.new ((w6.alloc (.cells #[.int .i64 1] 2)).alloc (.cells #[.int .i64 2, .int .i64 3] 2)) 55 #[.slice (some ⟨w6.heap.size, 0, none⟩) 1 1, .slice (some ⟨w6.heap.size + 1, 0, none⟩) 2 2]
      have hb7 : Below w6.heap.size w6 (((w6.alloc (.cells #[.int .i64 1] 2)).alloc (.cells #[.int .i64 2, .int .i64 3] 2)).alloc (.cells #[.slice (some ⟨w6.heap.size, 0, none⟩) 1 1, .slice (some ⟨w6.heap.size + 1, 0, none⟩) 2 2] 55)) := (((Below.refl w6.heap.size w6).alloc (Nat.le_refl _) _).alloc (by simp) _).alloc (by simp; omega) _
      simp only [World.size_alloc] at hE1 hE2 hE3
      go_wp2_with fail
      generalize hwe : ((w6.alloc (.cells #[.int .i64 1] 2)).alloc (.cells #[.int .i64 2, .int .i64 3] 2)).alloc (.cells #[.slice (some ⟨w6.heap.size, 0, none⟩) 1 1, .slice (some ⟨w6.heap.size + 1, 0, none⟩) 2 2] 55) = w7 at *
      clear hwe
      have hR : Rows2 w7 w7.heap.size (some ⟨w6.heap.size + 1 + 1, 0, none⟩) 1 fl1 [.slice (some ⟨w6.heap.size, 0, none⟩) 1 1, .slice (some ⟨w6.heap.size + 1, 0, none⟩) 2 2] [[1], [2, 3]] := Rows2.of (Seg.ofBlk hE3 hE3.lt) ⟨⟨_, _, rfl, by decide, Recs.blk fl1_length hE1 rfl hE1.lt⟩, ⟨_, _, rfl, by decide, Recs.blk fl1_length hE2 rfl hE2.lt⟩, trivial⟩
      have hS := table_Rows [[1], [2, 3]] _ _ 2 w7 (by decide) hR (by simp [I64])
      rw [trk5] at hS
      simp only [List.length_cons, List.length_nil, Nat.zero_add, Nat.reduceAdd] at hS
      clear hR hE1 hE2 hE3
      refine hS.mono ?_
      clear hS
      rintro e w8 ⟨v8, rfl, hb8, hO8⟩
      have hz7 := hb7.size
      have hz8 := hb8.size
      have hb9 := hb7.trans (hb8.mono hz7)
      replace hK6 := hK6.below hb9
      replace hW6 := hW6.below hb9
      have hB8 := hB6.trans (hb9.mono (by omega))
      have hG8 := hG6.trans (hb9.mono (by omega))
      clear hb7 hb8 hb9 hB6 hG6
      have hk9 := book_Keep_int64 _ _ _ _ v8 [1, 3] w8 (by omega) (by decide) hW6 (own_base hO8 (by omega))
      clear hO8
      go_wp2_with fail
      refine hk9.mono ?_
      clear hk9
      rintro e w9 ⟨rfl, hW9, hbk9⟩
      have hz9 := hbk9.size
      have hK9 := hK6.over hbk9 (by decide) (by decide) (by decide) (by omega) (by omega)
      have hB9 := hB8.trans (hbk9.below _ (by omega) (by omega))
      have hG9 := hG8.trans (hbk9.below _ (by omega) (by omega))
      clear hbk9 hB8 hG8 hW6 hK6
      have ek : k + 1 + (k + 1) = k + k + 1 + 1 := by omega
      replace ek := hid ek
      go_wp2_with fail
      go_roundw
      case rel => exact ⟨k + 1, by omega, by go_num, hB9, hG9, by omega, ⟨_, by omega, hK9⟩, ⟨_, by omega, by rw [ek.out]; exact hW9⟩⟩
      case measure => simp [intOf]; omega
    · obtain rfl : k = 2 := by omega
      have hap := book_Apart_need _ _ _ _ 45 (fun i j => ⟨-100 - (i : Int), -(j : Int)⟩) (fun i j hi hj => by unfold maxLen at hj; exact ⟨⟨by dsimp only; omega, by dsimp only; omega⟩, ⟨by dsimp only; omega, by dsimp only; omega⟩⟩) wr (by omega) (fun _ _ => by kernel_rfl) (fun i j w hi hj => mark_need i j w hi hj) hK
      go_wp2_with fail
      refine hap.mono ?_
      clear hap hK
      rintro e w3 ⟨rfl, hbk3⟩
      have hz3 := hbk3.size
      have hW3 := hW.over hbk3 (by decide) (by decide) (by decide) (by omega) (by omega)
      have hB3 := hB.trans (hbk3.below _ (by omega) (by omega))
      clear hbk3 hB hW
      have hap := book_Apart_int64 _ _ _ _ 47 (fun i _ => -1000 - (i : Int)) w3 (by omega) (fun _ _ => by kernel_rfl) (fun i j w hi hj => mark_width i j w hi hj) hW3
      go_wp2_with fail
      refine hap.mono ?_
      clear hap hW3
      rintro e w4 ⟨rfl, hbk4⟩
      have hB4 := hB3.trans (hbk4.below _ (by omega) (by omega))
      clear hbk4 hB3
      go_wp2_with fail
      refine (known19 _).mono ?_
      rintro e w10 ⟨rfl, hb10⟩
      go_wp2_with fail
      go_ret
      exact ⟨rfl, hB4.trans (hb10.mono hB4.size)⟩
end Go.Proofs.Ytkoanijiihnioaa
