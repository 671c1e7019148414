/-
  The walk of TextSums.
-/
import Derived.Test.YteghacdpfhohoaaTextO
namespace Go.Proofs.Yteghacdpfhohoaa
open Go.RowKit Num Mem Opn Go.Deep
set_option linter.unusedVariables false
set_option linter.unusedSimpArgs false
theorem within0 (n : Int) (w : World) (h1 : -9223372036854775808 ≤ n) (h2 : n ≤ 9223372036854775807) : Calls Try.prog 18 #[.int .i64 n, .int .i64 0, .int .i64 30000] w fun e w' => e = .returned (.int .i64 (n % 30001)) ∧ w = w' := by
  have ht : n.tmod 30001 = if 0 ≤ n ∨ n % 30001 = 0 then n % 30001 else n % 30001 - 30001 := by
    rw [Int.tmod_eq_emod]
    have : ((30001 : Int) ∣ n) ↔ n % 30001 = 0 := by omega
    simp only [this]
    split <;> simp_all <;> omega
  by_cases hc : 0 ≤ n ∨ n % 30001 = 0
  · rw [if_pos hc] at ht
    have HT := hid ht
    have g1 : 0 ≤ n.tmod 30001 := by omega
    have g2 : n.tmod 30001 ≤ 30000 := by omega
    clear ht
    go_enter Try.func18, Try.ntmps18
    go_wp2_with fail
    go_ret
    exact ⟨ret_int (by have := HT.out; omega), rfl⟩
  · rw [if_neg hc] at ht
    have HT := hid ht
    have g1 : n.tmod 30001 < 0 := by omega
    have g2 : -30000 ≤ n.tmod 30001 := by omega
    clear ht
    go_enter Try.func18, Try.ntmps18
    go_wp2_with fail
    go_ret
    exact ⟨ret_int (by have := HT.out; omega), rfl⟩

theorem textWidth_m (ew eh : Int) (l : List Int) (n : Nat) (A : Option Addr) (c : Nat) (s : ByteArray) (size : Int) (w : World) (hn : l.length = n) (hl : n ≤ 1000000) (hA : Ints w w.heap.size A l) :
    Calls Try.prog 23 #[.agg #[.int .i64 ew, .int .i64 eh, .slice A n c], .string s, .int .i64 size] w fun e w' => e = .returned (.int .i64 (width l s size)) ∧ Below w.heap.size w w' := by
  subst hn; exact text_Width ew eh l A c s size w hl hA
set_option maxRecDepth 100000 in
set_option maxHeartbeats 4000000 in
theorem walk_TextSums (s t : ByteArray) (size : Int) (ew eh : Int) (A : Option Addr) (l : List Int) (c : Nat) (w : World) (hs : s.size ≤ maxLen) (ht : t.size ≤ maxLen) (hz : I64 size) (hew : I64 ew) (heh : I64 eh) (hr : Row64 w A l c) :
    Calls Try.prog 6 #[.string s, .string t, .int .i64 size, .agg #[.int .i64 ew, .int .i64 eh, .slice A l.length c]] w fun e w' => e = .returned (.bool true) ∧ Below w.heap.size w w' := by
  obtain ⟨hA, hlc, hcp, hi⟩ := hr
  have hX : Blk (w.alloc (.cells #[.int .i64 ew, .int .i64 eh, .slice A l.length c] 36)) w.heap.size 36 #[.int .i64 ew, .int .i64 eh, .slice A l.length c] := Blk.new _ _ _
  have hB : Below w.heap.size w (w.alloc (.cells #[.int .i64 ew, .int .i64 eh, .slice A l.length c] 36)) := (Below.refl _ _).alloc (Nat.le_refl _) _
  go_enter Try.func6, Try.ntmps6
  go_upto_region 1 with fail
  refine wp_forget (fun Z => Blk Z w.heap.size 36 #[.int .i64 ew, .int .i64 eh, .slice A l.length c] ∧ Below w.heap.size w Z) ⟨hX, hB⟩ ?_
  clear hX hB
  rintro w1 ⟨hX, hB⟩
  go_wp2_with fail
  refine (keep_Few s 200 w1 hs).mono ?_
  rintro e w2 ⟨rfl, rfl⟩
  have hs2 := fewS_size s 200
  generalize fewS s 200 = S at *
  go_wp2_with fail
  refine (keep_Few t 200 w1 ht).mono ?_
  rintro e w2 ⟨rfl, rfl⟩
  have ht2 := fewS_size t 200
  generalize fewS t 200 = T at *
  have k1 := conv_runes S (by omega)
  have k2 : ∀ cc, (convert 51 9 (.slice (some ⟨w1.heap.size, 0, none⟩) (runesOf S).length cc)).run Try.prog (w1.alloc (.cells (rcells w1 S) 21)).drew = .ok (.string (runesBytes (runesOf S))) (w1.alloc (.cells (rcells w1 S) 21)).drew := fun cc => conv_back S w1 cc
  have hX2 := (hX.alloc (.cells (rcells w1 S) 21)).drew
  have hB2 := (hB.alloc hB.size (.cells (rcells w1 S) 21)).drew
  by_cases hq : runesBytes (runesOf S) = S
  · have k3 : ((runesBytes (runesOf S)).toList == S.toList) = true := by rw [hq]; simp
    have k4 : ∀ wx, (convert 9 51 (.string S)).run Try.prog wx = .ok (.slice (some ⟨wx.heap.size, 0, none⟩) (runesOf S).length (grownCap wx (runesOf S).length 0 21)) (wx.drew.alloc (.cells (rcells wx S) 21)) := conv_runes S (by omega)
    go_upto_region 5 with fail
    clear k1 k2 k3 hX hB
    generalize (w1.alloc (.cells (rcells w1 S) 21)).drew = w2 at *
    have c0 : w2.cell? ⟨w.heap.size, 0, none⟩ = some (.int .i64 ew) := hX2.cell 0
    have c1 : w2.cell? ⟨w.heap.size, 1, none⟩ = some (.int .i64 eh) := hX2.cell 1
    have c2 : w2.cell? ⟨w.heap.size, 2, none⟩ = some (.slice A l.length c) := hX2.cell 2
    go_wp2_with fail
    refine (keep_Env ew eh l A c w2 (by have := hew.2; omega) (by have := heh.2; omega) (by omega) (fun x hx => by have := (hi x hx).2; omega) ((hA.below hB2).more hB2.size)).mono ?_
    rintro e w3 ⟨v, rfl, hb, ho⟩
    have hlt := hX2.lt
    obtain ⟨A2, c3, rfl, -⟩ := own_some ho
    replace ho := ownsRow_setCell_below (ownsRow_setCell_below (ownsRow_setCell_below ho (a := ⟨w.heap.size, 0, none⟩) hlt (.int .i64 (inn ew 16777216))) (a := ⟨w.heap.size, 1, none⟩) hlt (.int .i64 (inn eh 16777216))) (a := ⟨w.heap.size, 2, none⟩) hlt (.slice A2 (envl l).length c3)
    obtain ⟨A3, c4, he, hseg⟩ := own_seg ho
    injection he with e1 e2 e3
    subst e1
    clear e2 e3 c4 hlt
    have hL : Ints (((w3.setCell ⟨w.heap.size, 0, none⟩ (.int .i64 (inn ew 16777216))).setCell ⟨w.heap.size, 1, none⟩ (.int .i64 (inn eh 16777216))).setCell ⟨w.heap.size, 2, none⟩ (.slice A2 (envl l).length c3)) (((w3.setCell ⟨w.heap.size, 0, none⟩ (.int .i64 (inn ew 16777216))).setCell ⟨w.heap.size, 1, none⟩ (.int .i64 (inn eh 16777216))).setCell ⟨w.heap.size, 2, none⟩ (.slice A2 (envl l).length c3)).heap.size A2 (envl l) := by
      have h1 : ∀ u : List Int, (ints u).toList = u.map (Value.int .i64) := fun u => by simp [ints]
      rw [h1] at hseg
      exact hseg
    have hL1 := envl_len l
    obtain ⟨n, hn⟩ : ∃ n, (envl l).length = n := ⟨_, rfl⟩
    rw [hn] at hL1 hL ⊢
    replace hn := hid hn
    clear hseg ho
    generalize envl l = L at *
    generalize inn ew 16777216 = nw at *
    generalize inn eh 16777216 = nh at *
    have hX3 := hX2.below hb hX2.lt
    have hB3 := hB2.trans (hb.mono hB2.size)
    clear c0 c1 c2
    have c0 : w3.cell? ⟨w.heap.size, 0, none⟩ = some (.int .i64 ew) := hX3.cell 0
    have c1 : w3.cell? ⟨w.heap.size, 1, none⟩ = some (.int .i64 eh) := hX3.cell 1
    have c2 : w3.cell? ⟨w.heap.size, 2, none⟩ = some (.slice A l.length c) := hX3.cell 2
    have f0 : w3.frozen? ⟨w.heap.size, 0, none⟩ = false := hX3.free 0
    have f1 : w3.frozen? ⟨w.heap.size, 1, none⟩ = false := hX3.free 1
    have f2 : w3.frozen? ⟨w.heap.size, 2, none⟩ = false := hX3.free 2
    have hX4 := ((hX3.put 0 (.int .i64 nw)).put 1 (.int .i64 nh)).put 2 (.slice A2 n c3)
    have hB4 := ((hB3.setCell (p := ⟨w.heap.size, 0, none⟩) (by simp) (.int .i64 nw)).setCell (p := ⟨w.heap.size, 1, none⟩) (by simp) (.int .i64 nh)).setCell (p := ⟨w.heap.size, 2, none⟩) (by simp) (.slice A2 n c3)
    go_upto_region 6 with fail
    generalize ((w3.setCell ⟨w.heap.size, 0, none⟩ (.int .i64 nw)).setCell ⟨w.heap.size, 1, none⟩ (.int .i64 nh)).setCell ⟨w.heap.size, 2, none⟩ (.slice A2 n c3) = w4 at *
    clear hX3 hB3 hX2 hB2 hb f0 f1 f2 c0 c1 c2
    have t1 : -100000 < size.tmod 100000 := Int.lt_tmod_of_pos _ (by omega)
    have t2 : size.tmod 100000 < 100000 := Int.tmod_lt_of_pos _ (by omega)
    obtain ⟨m, hm⟩ : ∃ m, size.tmod 100000 = m := ⟨_, rfl⟩
    have hm3 : IntKind.i64.wrap (size.tmod 100000) = m := by rw [hm]; exact IntWalk.i64_in _ (by omega)
    have hm1 : -9223372036854775808 ≤ m := by omega
    have hm2 : m ≤ 9223372036854775807 := by omega
    clear t1 t2
    go_wp2_with fail
    refine (within0 m w4 hm1 hm2).mono ?_
    rintro e w5 ⟨rfl, rfl⟩
    obtain ⟨z, hz'⟩ : ∃ z, m % 30001 = z := ⟨_, rfl⟩
    rw [hz']
    have hz0 : 0 ≤ z := by omega
    have hz1 : z ≤ 30000 := by omega
    clear hz' hm hm1 hm2 hm3
    obtain ⟨q1, q2, q3, q4, q5, q6, q7, q8⟩ := width_law L S T z hz0 hz1 hs2 ht2 hq
    obtain ⟨a, ha⟩ : ∃ a, width L S z = a := ⟨_, rfl⟩
    obtain ⟨b, hb⟩ : ∃ b, width L T z = b := ⟨_, rfl⟩
    obtain ⟨d, hd⟩ : ∃ d, width L S (2 * z) = d := ⟨_, rfl⟩
    obtain ⟨N, hN⟩ : ∃ N, (runesOf S).length = N := ⟨_, rfl⟩
    rw [ha, hb] at q1
    rw [ha, hd] at q2
    rw [ha, hd, hN] at q3
    rw [ha] at q4 q5
    rw [hb] at q6 q7
    rw [hN] at q8 k4
    replace q1 := hid q1
    replace hd := hid hd
    replace hb := hid hb
    have c0 : w4.cell? ⟨w.heap.size, 0, none⟩ = some (.int .i64 nw) := hX4.cell 0
    have c1 : w4.cell? ⟨w.heap.size, 1, none⟩ = some (.int .i64 nh) := hX4.cell 1
    have c2 : w4.cell? ⟨w.heap.size, 2, none⟩ = some (.slice A2 n c3) := hX4.cell 2
    go_wp2_with fail
    refine (textWidth_m nw nh L n A2 c3 S z w4 hn.out (by omega) hL).mono ?_
    rw [ha]
    rintro e w5 ⟨rfl, hbw⟩
    replace hX4 := hX4.below hbw hX4.lt
    replace hB4 := hB4.trans (hbw.mono hB4.size)
    replace hL := (hL.below hbw).more hbw.size
    clear c0 c1 c2 hbw
    have c0 : w5.cell? ⟨w.heap.size, 0, none⟩ = some (.int .i64 nw) := hX4.cell 0
    have c1 : w5.cell? ⟨w.heap.size, 1, none⟩ = some (.int .i64 nh) := hX4.cell 1
    have c2 : w5.cell? ⟨w.heap.size, 2, none⟩ = some (.slice A2 n c3) := hX4.cell 2
    go_wp2_with fail
    refine (textWidth_m nw nh L n A2 c3 T z w5 hn.out (by omega) hL).mono ?_
    rw [hb.out]
    rintro e w6 ⟨rfl, hbw⟩
    replace hX4 := hX4.below hbw hX4.lt
    replace hB4 := hB4.trans (hbw.mono hB4.size)
    replace hL := (hL.below hbw).more hbw.size
    clear c0 c1 c2 hbw
    have c0 : w6.cell? ⟨w.heap.size, 0, none⟩ = some (.int .i64 nw) := hX4.cell 0
    have c1 : w6.cell? ⟨w.heap.size, 1, none⟩ = some (.int .i64 nh) := hX4.cell 1
    have c2 : w6.cell? ⟨w.heap.size, 2, none⟩ = some (.slice A2 n c3) := hX4.cell 2
    have k5 := k4 w6
    have e2 : IntKind.i64.wrap (2 * z) = 2 * z := IntWalk.i64_in _ (by omega)
    go_upto_region 10 with fail
    replace hL := (hL.alloc (Nat.le_refl _) (.cells (rcells w6 S) 21)).drew.more (B' := (w6.alloc (.cells (rcells w6 S) 21)).drew.heap.size) (by simp)
    replace hX4 := (hX4.alloc (.cells (rcells w6 S) 21)).drew
    replace hB4 := (hB4.alloc hB4.size (.cells (rcells w6 S) 21)).drew
    clear c0 c1 c2
    generalize (w6.alloc (.cells (rcells w6 S) 21)).drew = w7 at *
    have c0 : w7.cell? ⟨w.heap.size, 0, none⟩ = some (.int .i64 nw) := hX4.cell 0
    have c1 : w7.cell? ⟨w.heap.size, 1, none⟩ = some (.int .i64 nh) := hX4.cell 1
    have c2 : w7.cell? ⟨w.heap.size, 2, none⟩ = some (.slice A2 n c3) := hX4.cell 2
    go_wp2_with fail
    refine (textWidth_m nw nh L n A2 c3 S (2 * z) w7 hn.out (by omega) hL).mono ?_
    rw [hd.out]
    rintro e w8 ⟨rfl, hbw⟩
    replace hX4 := hX4.below hbw hX4.lt
    replace hB4 := hB4.trans (hbw.mono hB4.size)
    replace hL := (hL.below hbw).more hbw.size
    clear c0 c1 c2 hbw
    have c0 : w8.cell? ⟨w.heap.size, 0, none⟩ = some (.int .i64 nw) := hX4.cell 0
    have c1 : w8.cell? ⟨w.heap.size, 1, none⟩ = some (.int .i64 nh) := hX4.cell 1
    have c2 : w8.cell? ⟨w.heap.size, 2, none⟩ = some (.slice A2 n c3) := hX4.cell 2
    have hS1 : ¬ (S.size + T.size > 9223372036854775807) := by omega
    go_wp2_with fail
    refine (textWidth_m nw nh L n A2 c3 (S ++ T) z w8 hn.out (by omega) hL).mono ?_
    rw [q1.out]
    rintro e w9 ⟨rfl, hbw⟩
    replace hX4 := hX4.below hbw hX4.lt
    replace hB4 := hB4.trans (hbw.mono hB4.size)
    replace hL := (hL.below hbw).more hbw.size
    clear c0 c1 c2 hbw
    have c0 : w9.cell? ⟨w.heap.size, 0, none⟩ = some (.int .i64 nw) := hX4.cell 0
    have c1 : w9.cell? ⟨w.heap.size, 1, none⟩ = some (.int .i64 nh) := hX4.cell 1
    have c2 : w9.cell? ⟨w.heap.size, 2, none⟩ = some (.slice A2 n c3) := hX4.cell 2
    clear c0 c1 c2 q1 hd hb k4 k5
    have e3 : IntKind.i64.wrap (a + b) = a + b := IntWalk.i64_in _ (by omega)
    have e4 : IntKind.i64.wrap (2 * a) = 2 * a := IntWalk.i64_in _ (by omega)
    have e5 : IntKind.i64.wrap (2 * a + (N : Int)) = 2 * a + (N : Int) := IntWalk.i64_in _ (by omega)
    have g1 : decide (d ≥ 2 * a) = true := decide_eq_true (by omega)
    have g2 : decide (2 * a ≤ d) = true := decide_eq_true (by omega)
    have g3 : decide (d ≤ 2 * a + (N : Int)) = true := decide_eq_true (by omega)
    go_wp2_with fail
    refine (known14 _).mono ?_
    rintro e w10 ⟨rfl, hbw⟩
    go_wp2_with fail
    go_ret
    exact ⟨rfl, hB4.trans (hbw.mono hB4.size)⟩
  · have k3 : ((runesBytes (runesOf S)).toList == S.toList) = false := by
      have : ¬ (runesBytes (runesOf S)).toList = S.toList := fun h => hq (toList_inj h)
      simpa using this
    clear hq
    go_wp2_with fail
    refine (known14 _).mono ?_
    rintro e w3 ⟨rfl, hb⟩
    go_wp2_with fail
    go_ret
    exact ⟨rfl, hB2.trans (hb.mono hB2.size)⟩
end Go.Proofs.Yteghacdpfhohoaa
