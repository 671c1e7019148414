/-
  The walk of LinesKept.
-/
import Derived.Test.YtebolanengnpfaaWLinesNumbers
import Derived.Test.YtebolanengnpfaaLinesE
import Derived.Test.YtebolanengnpfaaBookEL
import Derived.Test.YtebolanengnpfaaBookER
namespace Go.Proofs.Ytebolanengnpfaa
open Go.RowKit Num Mem Opn
set_option linter.unusedVariables false
set_option linter.unusedSimpArgs false
theorem mark_line (i j : Nat) (w : World) (hi : i ≤ 3001) (hj : j ≤ maxLen) : Calls Try.prog 26 #[.int .i64 i, .int .i64 j] w fun e w' => e = .returned (.agg #[.int .i64 (-100 - (i : Int)), .int .i64 (-(j : Int)), .int .i64 0, .int .i64 0]) ∧ Below w.heap.size w w' := by
  unfold maxLen at hj
  have h : IntKind.i64.wrap (-100 - (i : Int)) = -100 - (i : Int) := IntWalk.i64_in _ (by omega)
  have h2 : IntKind.i64.wrap (-(j : Int)) = -(j : Int) := IntWalk.i64_in _ (by omega)
  go_enter Try.func26, Try.ntmps26
  go_wp2_with fail
  go_returns
  exact ⟨rfl, (Below.refl w.heap.size w).alloc (Nat.le_refl _) _⟩
theorem mark_run (i j : Nat) (w : World) (hi : i ≤ 3001) (hj : j ≤ maxLen) : Calls Try.prog 28 #[.int .i64 i, .int .i64 j] w fun e w' => e = .returned (.agg #[.int .i64 (-100 - (i : Int)), .int .i64 (j : Int), .int .i64 0, .int .i64 0, .int .i64 0]) ∧ Below w.heap.size w w' := by
  have h : IntKind.i64.wrap (-100 - (i : Int)) = -100 - (i : Int) := IntWalk.i64_in _ (by omega)
  go_enter Try.func28, Try.ntmps28
  go_wp2_with fail
  go_returns
  exact ⟨rfl, (Below.refl w.heap.size w).alloc (Nat.le_refl _) _⟩
theorem Mem.BookAt.Sw {α : Type} {bt lt ty : TypeId} {sz : Nat} {fl : α → List Value} {ok : α → Prop} {w : World} {g B S n : Nat} (h : BookAt bt lt ty sz fl ok w g B S n) : S ≤ w.heap.size := by
  obtain ⟨Ls, v1, v2, held, hn, hb⟩ := h.ex
  exact hb.Sw
theorem pcs_high (l : List Bt) (i : Nat) : High24 (pcs i l) := by
  intro p hp
  obtain ⟨k, b, rfl⟩ := pcs_mem l hp
  exact ⟨lit24_lo b.height, lit24_hi b.height⟩
theorem wides_bd (s : List Pc) : ∀ n, -70368744177664 ≤ n → n ≤ 70368744177664 → -70368744177664 ≤ wides n s ∧ wides n s ≤ 70368744177664 := by
  induction s with
  | nil => intro n h1 h2; exact ⟨h1, h2⟩
  | cons p t ih => intro n h1 h2; exact ih _ (add_lo _ _) (add_hi _ _)
theorem first_ok {room : Int} {l : List Pc} (hl : l.length ≤ 1000) (hh : High24 l) {i : Nat} (hi : i ≤ l.length) : okL (first room 0 l i) := by
  have h1 := stop_le room l hi
  have h2 := wides_bd (cut l (wideA l i (stop room l i)) (wideB l i (stop room l i))) 0 (by decide) (by decide)
  have h3 := high_bd (l := cut l i (stop room l i)) (fun p hp => hh p (cut_mem hp)) (n := 0) (by decide) (by decide)
  unfold first
  exact ⟨⟨by dsimp only; omega, by dsimp only; omega⟩, ⟨by dsimp only; omega, by dsimp only; omega⟩, ⟨by dsimp only; omega, by dsimp only; omega⟩, ⟨by dsimp only; omega, by dsimp only; omega⟩⟩
theorem brk_ok {room : Int} {l : List Pc} (hl : l.length ≤ 1000) (hh : High24 l) : ∀ f i, ∀ x ∈ brk room 0 l f i, okL x := by
  intro f
  induction f with
  | zero => intro i x hx; simp [brk] at hx
  | succ f ih =>
    intro i x hx
    rw [brk] at hx
    split at hx
    · rename_i hi
      rcases List.mem_cons.1 hx with rfl | hx
      · exact first_ok hl hh (by omega)
      · exact ih _ x hx
    · simp at hx
theorem runs_ok {bottom : Int} (s : List Pc) : ∀ i n, i + s.length ≤ 2000 → -70368744177664 ≤ n → n ≤ 70368744177664 → High24 s → Wide24 s → ∀ x ∈ runs bottom s i n, okR x := by
  induction s with
  | nil => intro i n _ _ _ _ _ x hx; simp [runs] at hx
  | cons p t ih =>
    intro i n hi h1 h2 hh hw x hx
    have hp := hh p (by simp)
    have hq := hw p (by simp)
    have hht : High24 t := fun q hq => hh q (by simp [hq])
    have hwt : Wide24 t := fun q hq => hw q (by simp [hq])
    simp only [List.length_cons] at hi
    simp only [runs] at hx
    split at hx
    · exact ih (i + 1) n (by omega) h1 h2 hht hwt x hx
    · rcases List.mem_cons.1 hx with rfl | hx
      · have h3 := sub_lo bottom p.height
        have h4 := sub_hi bottom p.height
        exact ⟨⟨by dsimp only; omega, by dsimp only; omega⟩, ⟨by dsimp only; omega, by dsimp only; omega⟩, ⟨by dsimp only; omega, by dsimp only; omega⟩, ⟨by dsimp only; omega, by dsimp only; omega⟩, ⟨by dsimp only; omega, by dsimp only; omega⟩⟩
      · exact ih (i + 1) _ (by omega) (add_lo _ _) (add_hi _ _) hht hwt x hx
theorem begin_bd (x w width align : Int) : -70368744177664 ≤ begin_ x w width align ∧ begin_ x w width align ≤ 70368744177664 := by
  unfold begin_
  split
  · exact ⟨add_lo _ _, add_hi _ _⟩
  · split
    · exact ⟨add_lo _ _, add_hi _ _⟩
    · exact ⟨sat_lo _, sat_hi _⟩
theorem runsOf_ok {l : List Pc} {i j : Nat} {wd ht X Y W align : Int} (hl : l.length ≤ 100) (hh : High24 l) (hw : Wide24 l) (hj : j ≤ l.length) (ha : wideA l i j ≤ 1000) : ∀ x ∈ runsOf l i j wd ht X Y W align, okR x := by
  intro x hx
  unfold runsOf at hx
  have hb := begin_bd X W wd align
  refine runs_ok _ _ _ ?_ hb.1 hb.2 (fun p hp => hh p (cut_mem hp)) (hw.cut _ _) x hx
  have : (cut l (wideA l i j) (wideB l i j)).length ≤ l.length := by unfold cut; simp; omega
  omega
theorem wideA_few (l : List Pc) (i j : Nat) : wideA l i j ≤ i + l.length := by
  unfold wideA
  have h1 := lead_le (cut l i j)
  have h2 : (cut l i j).length ≤ l.length := by unfold cut; simp; omega
  omega
theorem runsOf_len (l : List Pc) (i j : Nat) (wd ht X Y W align : Int) : (runsOf l i j wd ht X Y W align).length ≤ l.length := by
  unfold runsOf
  have h1 := runs_length (add Y ht) (cut l (wideA l i j) (wideB l i j)) (wideA l i j) (begin_ X W wd align)
  have h2 : (cut l (wideA l i j) (wideB l i j)).length ≤ l.length := by unfold cut; simp; omega
  omega
theorem lns_zero {room : Int} {l : List Pc} (h : 0 < l.length) : (lns room 0 l)[0]? = some (first room 0 l 0) := by
  unfold lns
  obtain ⟨f, hf⟩ : ∃ f, l.length = f + 1 := ⟨l.length - 1, by omega⟩
  rw [hf, brk, if_pos h]
  rfl
theorem lns_none {room : Int} {l : List Pc} (h : l.length = 0) : (lns room 0 l).length = 0 := by
  have := lns_length room 0 l
  omega
set_option maxRecDepth 100000 in
set_option maxHeartbeats 16000000 in
theorem walk_LinesKept (A : Option Addr) (l : List Bt) (c : Nat) (room : Int) (w : World) (hr : RowB w A l c) (ir : I64 room) :
    Calls Try.prog 10 #[.slice A l.length c, .int .i64 room] w fun e w' => e = .returned (.bool true) ∧ Below w.heap.size w w' := by
  obtain ⟨hA, hlc, hcp, hx⟩ := hr
  have HW := pcs_wide (l.take 80) 0
  have HH := pcs_high (l.take 80) 0
  have h80 : (pcs 0 (l.take 80)).length ≤ 80 := by rw [pcs_length]; simp; omega
  go_enter Try.func10, Try.ntmps10
  go_wp2_with fail
  refine (some_n l _ A c _ rfl hA (by omega) hx).mono ?_
  rintro e w1 ⟨v, v', rfl, hb1, ho, ho'⟩
  generalize pcs 0 (l.take 80) = P at *
  obtain ⟨A1, c1, rfl, hc1, hP⟩ := own_pcs ho
  clear ho ho' hA hx hlc hcp
  obtain ⟨X, hXe⟩ : ∃ X, lns room 0 P = X := ⟨_, rfl⟩
  have hXl : X.length ≤ 80 := by rw [← hXe]; have := lns_length room 0 P; omega
  have hXo : ∀ x ∈ X, okL x := by rw [← hXe]; exact brk_ok (by omega) HH _ _
  have hX0 : X.length = 0 ∨ 0 < X.length ∧ X[0]? = some (first room 0 P 0) := by
    rcases Nat.eq_zero_or_pos P.length with h | h
    · left; rw [← hXe]; exact lns_none h
    · right
      have h2 := lns_zero (room := room) h
      rw [hXe] at h2
      exact ⟨(List.getElem?_eq_some_iff.1 h2).1, h2⟩
  have hst := stop_le room P (i := 0) (Nat.zero_le _)
  obtain ⟨Y, hYe⟩ : ∃ Y, runsOf P 0 (stop room P 0) (first room 0 P 0).width (first room 0 P 0).height 0 0 100 1 = Y := ⟨_, rfl⟩
  have hYl : Y.length ≤ 80 := by rw [← hYe]; have := runsOf_len P 0 (stop room P 0) (first room 0 P 0).width (first room 0 P 0).height 0 0 100 1; omega
  have hYo : ∀ x ∈ Y, okR x := by rw [← hYe]; exact runsOf_ok (by omega) HH HW hst (by have := wideA_few P 0 (stop room P 0); omega)
  replace hXo := hid hXo
  replace hYo := hid hYo
  replace hXe := hid hXe
  replace hYe := hid hYe
  replace hX0 := hid hX0
  clear HW HH
  have hn1 : Blk ((w1.alloc (.cells #[.slice none 0 0, .slice none 0 0, .int .i64 0, .bool false] 69)).alloc (.cells #[.slice none 0 0, .slice none 0 0, .int .i64 0, .bool false] 72)) w1.heap.size 69 #[.slice none 0 0, .slice none 0 0, .int .i64 0, .bool false] := (Blk.new _ _ _).alloc _
  have hn2 : Blk ((w1.alloc (.cells #[.slice none 0 0, .slice none 0 0, .int .i64 0, .bool false] 69)).alloc (.cells #[.slice none 0 0, .slice none 0 0, .int .i64 0, .bool false] 72)) (w1.heap.size + 1) 72 #[.slice none 0 0, .slice none 0 0, .int .i64 0, .bool false] := by
    have := Blk.new (w1.alloc (.cells #[.slice none 0 0, .slice none 0 0, .int .i64 0, .bool false] 69)) 72 #[.slice none 0 0, .slice none 0 0, .int .i64 0, .bool false]
    simpa using this
  have hn3 : Below w1.heap.size w1 ((w1.alloc (.cells #[.slice none 0 0, .slice none 0 0, .int .i64 0, .bool false] 69)).alloc (.cells #[.slice none 0 0, .slice none 0 0, .int .i64 0, .bool false] 72)) := ((Below.refl _ _).alloc (Nat.le_refl _) _).alloc (by simp) _
  have hn4 := hid (show ((w1.alloc (.cells #[.slice none 0 0, .slice none 0 0, .int .i64 0, .bool false] 69)).alloc (.cells #[.slice none 0 0, .slice none 0 0, .int .i64 0, .bool false] 72)).heap.size = w1.heap.size + 2 by simp)
  go_wp2_with fail
  generalize (w1.alloc (.cells #[.slice none 0 0, .slice none 0 0, .int .i64 0, .bool false] 69)).alloc (.cells #[.slice none 0 0, .slice none 0 0, .int .i64 0, .bool false] 72) = w2 at *
  obtain ⟨g, hg⟩ : ∃ g, w1.heap.size = g := ⟨_, rfl⟩
  have hz2 : g + 2 ≤ w2.heap.size := by have := hn4.out; omega
  have hzw : w.heap.size ≤ g := by have := hb1.size; omega
  rw [hg] at hn1 hn2 hn3 hP ⊢
  replace hP : Pcs w2 g A1 P := hP.below hn3
  have hB2 : Below w.heap.size w w2 := hb1.trans (hn3.mono hzw)
  have hK0 : BookAt 69 37 43 4 Ln.cells okL w2 g (g + 2) (g + 2) 0 := BookAt.new hn1 (by omega) hz2
  have hW0 : BookAt 72 56 61 5 Rn.cells okR w2 (g + 1) (g + 2) (g + 2) 0 := BookAt.new hn2 (by omega) hz2
  clear hn1 hn2 hn3 hn4 hb1 hg
  go_loopw [9] (fun s9 wr => ∃ k : Nat, k ≤ 2 ∧ s9 = .int .i64 k ∧ Below w.heap.size w wr ∧ Below g w2 wr ∧ g + 2 ≤ wr.heap.size ∧ (∃ S, S ≤ wr.heap.size ∧ BookAt 69 37 43 4 Ln.cells okL wr g (g + 2) S k) ∧ (∃ S n, n ≤ k ∧ S ≤ wr.heap.size ∧ BookAt 72 56 61 5 Rn.cells okR wr (g + 1) (g + 2) S n)) (fun i _ => 2 - (intOf i).toNat)
  case atStart => exact ⟨0, by omega, rfl, hB2, Below.refl _ _, hz2, ⟨_, hz2, hK0⟩, ⟨_, 0, Nat.le_refl _, hz2, hW0⟩⟩
  case round =>
    clear hK0 hW0 hB2
    obtain ⟨k, hk, rfl, hB, hBg, hz, ⟨S1, hs1, hK⟩, ⟨S2, n2, hn2, hs2, hW⟩⟩ := hrel
    by_cases hlt : k < 2
    · have dk : decide ((k : Int) < 2) = true := decide_eq_true (by omega)
      have hC := lines_Break P A1 c1 room 0 wr (by omega) hc1 ((hP.below hBg).more (by omega))
      rw [hXe.out] at hC
      go_wp2_with fail
      refine hC.mono ?_
      clear hC
      rintro e w3 ⟨v3, rfl, hO3, hb3⟩
      have hz3 := hb3.size
      have hB3 := hB.trans (hb3.mono hB.size)
      have hG3 := hBg.trans (hb3.mono (by omega : g ≤ wr.heap.size))
      replace hK := hK.below hb3
      replace hW := hW.below hb3
      clear hb3 hB hBg
      have hk4 := book_Keep_line _ _ _ _ v3 X w3 (by omega) (by omega) hXo.out hK (own_base hO3 hs1)
      have hsh : ∃ A3 c3, v3 = .slice A3 X.length c3 ∧ X.length ≤ c3 ∧ (0 < X.length → ∃ b, A3 = some ⟨b, 0, none⟩) := by
        rcases hO3.2 with ⟨rfl, h0⟩ | ⟨b, cap, cur, rfl, hb, _, hnc, _⟩
        · have : X.length = 0 := by
            have h1 := hO3.1
            omega
          exact ⟨none, 0, by rw [this], by omega, fun h => by omega⟩
        · exact ⟨_, _, rfl, hnc, fun _ => ⟨b, rfl⟩⟩
      obtain ⟨A3, c3, rfl, hc3, hA3⟩ := hsh
      go_wp2_with fail
      refine hk4.mono ?_
      clear hk4 hK
      rintro e w4 ⟨rfl, hK4, hbk4⟩
      have hz4 := hbk4.size
      have hW4 := hW.over hbk4 (by decide) (by decide) (by decide) (by omega) (by omega)
      have hX4 : Recs w4 w4.heap.size A3 4 Ln.cells X := Recs.of_own line_length (by decide) (own_over hO3 hbk4 (by decide) (by omega))
      have hB4 := hB3.trans (hbk4.below _ hzw (by omega))
      have hG4 := hG3.trans (hbk4.below _ (Nat.le_refl _) (by omega))
      clear hbk4 hB3 hG3 hW hO3
      rcases hX0.out with h0 | ⟨h0, hf0⟩
      · have d0 : decide ((0 : Int) < (X.length : Int)) = false := decide_eq_false (by omega)
        have d1 : decide (0 < X.length) = false := decide_eq_false (by omega)
        have hx0 := hid h0
        clear h0 hX4
        go_wp2_with fail
        go_roundw
        case rel => exact ⟨k + 1, by omega, by go_num, hB4, hG4, by omega, ⟨_, by omega, hK4⟩, ⟨_, n2, by omega, by omega, hW4⟩⟩
        case measure => simp [intOf]; omega
      · have d0 : decide ((0 : Int) < (X.length : Int)) = true := decide_eq_true (by omega)
        have d1 : decide (0 < X.length) = true := decide_eq_true h0
        obtain ⟨b, rfl⟩ := hA3 h0
        have hrg : w4.rangeAt b 0 (first room 0 P 0).arr.toList := by
          obtain ⟨b', o', e, _, hc⟩ := hX4 (by intro h; rw [h] at h0; simp at h0)
          injection e with e
          injection e with e1 e2 e3
          subst e1 e2
          intro j v hv
          have := hc 0 _ hf0 j v hv
          simpa using this
        have hS := lines_Set P A1 c1 0 (stop room P 0) (first room 0 P 0).width (first room 0 P 0).height 0 0 100 0 1 w4 (Nat.zero_le _) hst (by omega) ((hP.below hG4).more (by omega))
        rw [hYe.out] at hS
        clear hX4 hf0
        go_wp2_with (first | refine stop_load 43 _ rfl rfl ?_ | refine stop_store 43 _ _ rfl rfl ?_)
        refine ⟨?_⟩
        refine wl_load_at rfl 43 _ rfl b 0 rfl (first room 0 P 0).arr _ hrg Try.underlying43 rfl (info_line_arr _) ?_
        (try simp only [Act.put, List.setIfInBounds_toArray, List.set_cons_zero, List.set_cons_succ])
        clear hrg
        go_wp2_with fail
        refine hS.mono ?_
        clear hS
        rintro e w5 ⟨v5, rfl, hO5, hb5⟩
        have hz5 := hb5.size
        replace hW4 := hW4.below hb5
        replace hK4 := hK4.below hb5
        have hB5 := hB4.trans (hb5.mono (by omega))
        have hG5 := hG4.trans (hb5.mono (by omega))
        clear hb5 hB4 hG4
        have hk6 := book_Keep_run _ _ _ _ v5 Y w5 (by omega) (by omega) hYo.out hW4 (own_base hO5 (by omega))
        clear hO5
        go_wp2_with fail
        refine hk6.mono ?_
        clear hk6
        rintro e w6 ⟨rfl, hW6, hbk6⟩
        have hz6 := hbk6.size
        have hK6 := hK4.over hbk6 (by decide) (by decide) (by decide) (by omega) (by omega)
        have hB6 := hB5.trans (hbk6.below _ (by omega) (by omega))
        have hG6 := hG5.trans (hbk6.below _ (by omega) (by omega))
        clear hbk6 hB5 hG5 hW4 hK4
        go_wp2_with fail
        go_roundw
        case rel => exact ⟨k + 1, by omega, by go_num, hB6, hG6, by omega, ⟨_, by omega, hK6⟩, ⟨_, n2 + 1, by omega, by omega, hW6⟩⟩
        case measure => simp [intOf]; omega
    · obtain rfl : k = 2 := by omega
      have hap := book_Apart_line _ _ _ _ 26 (fun i j => ⟨-100 - (i : Int), -(j : Int), 0, 0⟩) (fun i j hi hj => by unfold maxLen at hj; exact ⟨⟨by dsimp only; omega, by dsimp only; omega⟩, ⟨by dsimp only; omega, by dsimp only; omega⟩, ⟨by dsimp only; omega, by dsimp only; omega⟩, ⟨by dsimp only; omega, by dsimp only; omega⟩⟩) wr (by omega) (fun _ _ => by kernel_rfl) (fun i j w hi hj => mark_line i j w hi hj) hK
      go_wp2_with fail
      refine hap.mono ?_
      clear hap hK
      rintro e w3 ⟨rfl, hbk3⟩
      have hz3 := hbk3.size
      have hW3 := hW.over hbk3 (by decide) (by decide) (by decide) (by omega) (by omega)
      have hB3 := hB.trans (hbk3.below _ (by omega) (by omega))
      clear hbk3 hB hW
      have hap := book_Apart_run _ _ _ _ 28 (fun i j => ⟨-100 - (i : Int), (j : Int), 0, 0, 0⟩) (fun i j hi hj => by unfold maxLen at hj; exact ⟨⟨by dsimp only; omega, by dsimp only; omega⟩, ⟨by dsimp only; omega, by dsimp only; omega⟩, ⟨by dsimp only; omega, by dsimp only; omega⟩, ⟨by dsimp only; omega, by dsimp only; omega⟩, ⟨by dsimp only; omega, by dsimp only; omega⟩⟩) w3 (by omega) (fun _ _ => by kernel_rfl) (fun i j w hi hj => mark_run i j w hi hj) hW3
      go_wp2_with fail
      refine hap.mono ?_
      clear hap hW3
      rintro e w4 ⟨rfl, hbk4⟩
      have hB4 := hB3.trans (hbk4.below _ (by omega) (by omega))
      clear hbk4 hB3
      go_wp2_with fail
      refine (known15 _).mono ?_
      rintro e w10 ⟨rfl, hb10⟩
      go_wp2_with fail
      go_ret
      exact ⟨rfl, hB4.trans (hb10.mono hB4.size)⟩
end Go.Proofs.Ytebolanengnpfaa
