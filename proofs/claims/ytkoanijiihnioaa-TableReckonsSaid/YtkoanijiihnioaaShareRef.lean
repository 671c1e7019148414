/-
  The walk of the reference's Share: it makes a new row, which holds the same shares.
-/
import Derived.Test.YtkoanijiihnioaaShare
namespace Go.Proofs.Ytkoanijiihnioaa
open Go.RowKit Num Mem
namespace Num
/-- the reference's search: the first of the greatest among the first k. -/
def bsr (r : List Int) : Nat → Nat
  | 0 => 0
  | k + 1 => if r.getD (bsr r k) 0 < r.getD k 0 then k else bsr r k
theorem bsr_hi (r : List Int) (k : Nat) : bsr r (k + 1) ≤ k := by
  induction k with
  | zero => simp [bsr]
  | succ k ih => rw [bsr]; split <;> omega
theorem bsr_bst (r : List Int) (k : Nat) : (0 ≤ bst r k → bst r k = bsr r k) ∧ (bst r k < 0 → ∀ i, i < k → r.getD i 0 < 0) := by
  induction k with
  | zero => exact ⟨fun h => by simp [bst] at h, fun _ i hi => by omega⟩
  | succ k ih =>
    obtain ⟨ih1, ih2⟩ := ih
    rcases Int.lt_or_le (bst r k) 0 with h | h
    · have h2 := ih2 h
      by_cases hy : 0 ≤ r.getD k 0
      · have e1 : bst r (k + 1) = k := by rw [bst, if_pos ⟨hy, .inl h⟩]
        have e2 : bsr r (k + 1) = k := by
          rw [bsr]
          cases k with
          | zero => simp [bsr]
          | succ k =>
            have := h2 (bsr r (k + 1)) (by have := bsr_hi r k; omega)
            rw [if_pos (by omega)]
        rw [e1, e2]
        exact ⟨fun _ => rfl, fun h => by omega⟩
      · have e1 : bst r (k + 1) = bst r k := by rw [bst, if_neg (fun hc => hy hc.1)]
        rw [e1]
        refine ⟨fun h' => by omega, fun _ i hi => ?_⟩
        rcases Nat.lt_or_ge i k with h3 | h3
        · exact h2 i h3
        · obtain rfl : i = k := by omega
          omega
    · have h1 := ih1 h
      have h2 := bst_get h
      have e3 : (bst r k).toNat = bsr r k := by omega
      rw [e3] at h2
      by_cases hlt : r.getD (bsr r k) 0 < r.getD k 0
      · have e1 : bst r (k + 1) = k := by rw [bst, if_pos ⟨by omega, .inr (by rw [e3]; exact hlt)⟩]
        have e2 : bsr r (k + 1) = k := by rw [bsr, if_pos hlt]
        rw [e1, e2]
        exact ⟨fun _ => rfl, fun h => by omega⟩
      · have e1 : bst r (k + 1) = bst r k := by rw [bst, if_neg (by rw [e3]; omega)]
        have e2 : bsr r (k + 1) = bsr r k := by rw [bsr, if_neg hlt]
        rw [e1, e2]
        exact ⟨fun _ => h1, fun h' => by omega⟩
end Num

set_option maxHeartbeats 1000000 in
theorem ref_Share (t : Int) (l : List Int) (A : Option Addr) (c : Nat) (w : World) (hl : l.length ≤ 1048576) (hA : Ints w w.heap.size A l) :
    Calls Try.prog 64 #[.int .i64 t, .slice A l.length c] w fun e w' =>
      e = .returned (.slice (some ⟨w.heap.size, 0, none⟩) l.length l.length) ∧ Below w.heap.size w w' ∧ Blk w' w.heap.size 2 (ints (share t l)) := by
  have hmk := make_ints l.length (by omega)
  by_cases hs : wsum l l.length = 0
  · have hs' : (wsum l l.length == 0) = true := by simp [hs]
    have HS := hid hs
    clear hs
    go_enter Try.func64, Try.ntmps64
    go_wp2_with (go_at_call 69; refine (ref_in _ _ _ _ (by omega)).mono ?_; rintro e w' ⟨rfl, rfl⟩)
    go_loop [7, 8] (fun s i => ∃ k : Nat, k ≤ l.length ∧ i = .int .i64 k ∧ s = .int .i64 (wsum l k)) (fun _ i => l.length - (intOf i).toNat)
    case atStart => exact ⟨0, Nat.zero_le _, rfl, rfl⟩
    case round =>
      obtain ⟨k, hk, rfl, rfl⟩ := hrel
      have h1 := wsum_lo l k
      have h2 := wsum_hi l k
      by_cases hlt : k < l.length
      · obtain ⟨b, off, x, rfl, hb, hc, HX⟩ := hA.at_ hlt
        have h3 := clip_lo x 0 65536 (by omega)
        have h4 := clip_hi x 0 65536
        go_wp2_with (go_at_call 69; refine (ref_in _ _ _ _ (by omega)).mono ?_; rintro e w' ⟨rfl, rfl⟩)
        go_round
        case rel => exact ⟨k + 1, by omega, by go_num, by simp only [wsum, HX.out]; rfl⟩
        case measure => simp [intOf]; omega
      · obtain rfl : k = l.length := by omega
        go_wp2
        go_ret
        refine ⟨rfl, ?_, ?_⟩
        · exact ((Below.refl _ _).alloc (Nat.le_refl _) _).alloc (by simp) _
        · unfold share
          rw [if_pos HS.out]
          exact (Blk.new w _ _).alloc _
  · have hs' : (wsum l l.length == 0) = false := by simp [hs]
    have HS := hid hs
    have hs1 := wsum_lo l l.length
    have hs2 : 1 ≤ wsum l l.length := by omega
    have hs3 := wsum_hi l l.length
    clear hs
    go_enter Try.func64, Try.ntmps64
    go_wp2_with (go_at_call 69; refine (ref_in _ _ _ _ (by omega)).mono ?_; rintro e w' ⟨rfl, rfl⟩)
    go_loop [7, 8] (fun s i => ∃ k : Nat, k ≤ l.length ∧ i = .int .i64 k ∧ s = .int .i64 (wsum l k)) (fun _ i => l.length - (intOf i).toNat)
    case atStart => exact ⟨0, Nat.zero_le _, rfl, rfl⟩
    case round =>
      obtain ⟨k, hk, rfl, rfl⟩ := hrel
      have h1 := wsum_lo l k
      have h2 := wsum_hi l k
      by_cases hlt : k < l.length
      · obtain ⟨b, off, x, rfl, hb, hc, HX⟩ := hA.at_ hlt
        have h3 := clip_lo x 0 65536 (by omega)
        have h4 := clip_hi x 0 65536
        go_wp2_with (go_at_call 69; refine (ref_in _ _ _ _ (by omega)).mono ?_; rintro e w' ⟨rfl, rfl⟩)
        go_round
        case rel => exact ⟨k + 1, by omega, by go_num, by simp only [wsum, HX.out]; rfl⟩
        case measure => simp [intOf]; omega
      · obtain rfl : k = l.length := by omega
        go_wp2
        go_loopw [9, 10] (fun lf i wr => ∃ k : Nat, k ≤ l.length ∧ i = .int .i64 k ∧ lf = .int .i64 (left t l k) ∧ Blk wr w.heap.size 2 (ints (upto (quo t l) l.length k)) ∧ Blk wr (w.heap.size + 1) 2 (ints (upto (rem t l) l.length k)) ∧ Below w.heap.size w wr) (fun _ i _ => l.length - (intOf i).toNat)
        case atStart =>
          refine ⟨0, Nat.zero_le _, rfl, rfl, ?_, ?_, ?_⟩
          · rw [upto_zero]; exact (Blk.new w _ _).alloc _
          · rw [upto_zero]; have := Blk.new (w.alloc (.cells (ints (List.replicate l.length 0)) 2)) 2 (ints (List.replicate l.length 0)); simpa using this
          · exact ((Below.refl _ _).alloc (Nat.le_refl _) _).alloc (by simp) _
        case round =>
          obtain ⟨k, hk, rfl, rfl, hO, hR, hB⟩ := hrel
          by_cases hlt : k < l.length
          · obtain ⟨b, off, x, rfl, hb, hc, HX⟩ := (hA.below hB).at_ hlt
            have hcO := hO.int (i := k) (by rw [upto_length]; exact hlt)
            have hfO := hO.free k
            have hcR := hR.int (i := k) (by rw [upto_length]; exact hlt)
            have hfR := hR.free k
            obtain ⟨hm1, hm2⟩ := mul_fits (Int.le_trans (by decide) (tot_lo t)) (tot_hi t) (Int.le_trans (by decide) (wt_lo x)) (wt_hi x) rfl
            have hm3 := Int.mul_nonneg (tot_lo t) (wt_lo x)
            have hq1 := left_lo t l HS.out (k := k + 1) (by omega)
            have hq2 := left_hi t l (k + 1)
            have hq3 := tot_hi t
            simp only [left, quo, HX.out] at hq1 hq2
            have EQ : Hid (quo t l k = tot t * wt x / wsum l l.length) := by unfold quo; rw [HX.out]; rfl
            have ER : Hid (rem t l k = tot t * wt x % wsum l l.length) := by unfold rem; rw [HX.out]; rfl
            unfold tot wt at hm1 hm2 hm3 hq1 hq2 EQ ER
            unfold tot at hq3
            go_wp2_with (go_at_call 69; refine (ref_in _ _ _ _ (by omega)).mono ?_; rintro e w' ⟨rfl, rfl⟩)
            go_roundw
            case rel =>
              refine ⟨k + 1, by omega, by go_num, ?_, ?_, ?_, ?_⟩
              · simp only [left]; rw [EQ.out]
              · have h := (hO.putInt k (quo t l k)).far (p := ⟨w.heap.size + 1, k, none⟩) (by simp) (.int .i64 (rem t l k))
                rw [upto_set, EQ.out, ER.out] at h
                exact h
              · have h := (hR.far (p := ⟨w.heap.size, k, none⟩) (by simp) (.int .i64 (quo t l k))).putInt k (rem t l k)
                rw [upto_set, EQ.out, ER.out] at h
                exact h
              · exact ((hB.setCell (by simp) _).setCell (by simp) _)
            case measure => simp [intOf]; omega
          · obtain rfl : k = l.length := by omega
            have HL := left_lo t l HS.out (k := l.length) (by omega)
            have HM := left_lt t l HS.out
            have HG : Hid (give (left t l l.length).toNat (upto (quo t l) l.length l.length) (upto (rem t l) l.length l.length) = share t l) := by unfold share; rw [if_neg HS.out]; rfl
            have HC := bnd_start t l HS.out hl (j := (left t l l.length).toNat) (by omega)
            have HD := cnt_start t l HS.out
            go_wp2
            go_loopw [9] (fun lf wr => ∃ (j : Nat) (x r : List Int), lf = .int .i64 j ∧ x.length = l.length ∧ r.length = l.length ∧ j < cnt r ∧ Hid (bnd x j) ∧ Hid (give j x r = share t l) ∧ Blk wr w.heap.size 2 (ints x) ∧ Blk wr (w.heap.size + 1) 2 (ints r) ∧ Below w.heap.size w wr) (fun lf _ => (intOf lf).toNat)
            case atStart =>
              exact ⟨(left t l l.length).toNat, _, _, by rw [Int.toNat_of_nonneg HL], upto_length _ _ _, upto_length _ _ _, by omega, HC, HG, hO, hR, hB⟩
            case round =>
              clear HC HG HD HL HM hO hR hB
              obtain ⟨j, x, r, rfl, hx, hr, hj, HN, HV, hO, hR, hB⟩ := hrel
              have HX := hid hx
              have HR := hid hr
              clear hx hr
              by_cases hlt : 0 < j
              · obtain ⟨q, hq, hql, hqr⟩ := bst_found hj
                have hqb := (bsr_bst r r.length).1 (by omega)
                have HQ := hid hq
                have HQB : Hid (bsr r l.length = q) := by
                  have := HR.out
                  rw [this] at hqb hq
                  show bsr r l.length = q
                  omega
                rw [HR.out] at hql
                clear hq hqb
                obtain ⟨wo, rfl⟩ : ∃ wo : World, wo = wr := ⟨_, rfl⟩
                go_wp2
                go_loopw [12, 13] (fun s i wr => ∃ (k m : Nat), 1 ≤ k ∧ k ≤ l.length ∧ i = .int .i64 k ∧ s = .int .i64 m ∧ m < k ∧ Hid (bsr r k = m) ∧ Blk wr w.heap.size 2 (ints x) ∧ Blk wr (w.heap.size + 1) 2 (ints r) ∧ Below w.heap.size w wr) (fun _ i _ => l.length - (intOf i).toNat)
                case atStart => exact ⟨1, 0, by omega, by omega, rfl, rfl, by omega, by simp [Hid, bsr], hO, hR, hB⟩
                case round =>
                  clear hO hR hB
                  obtain ⟨k, m, hk1, hk, rfl, rfl, hm2, HM, hO, hR, hB⟩ := hrel
                  by_cases hkl : k < l.length
                  · obtain ⟨y, hy, HY⟩ := hR.intAt (i := k) (by rw [HR.out]; exact hkl)
                    obtain ⟨z, hz, HZ⟩ := hR.intAt (i := m) (by rw [HR.out]; omega)
                    have HS : Hid (bsr r (k + 1) = if z < y then k else m) := by
                      show bsr r (k + 1) = _
                      simp only [bsr, HY.out, HM.out, HZ.out]
                    by_cases h3 : z < y
                    · have HM' : Hid (bsr r (k + 1) = k) := by rw [HS.out, if_pos (by omega)]; rfl
                      clear HS
                      go_wp2
                      go_quiet (fail)
                      go_wp2
                      go_roundw
                      case rel => exact ⟨k + 1, k, by omega, by omega, by go_num, rfl, by omega, HM', hO, hR, belowN hB _⟩
                      case measure => simp [intOf]; omega
                    · have HM' : Hid (bsr r (k + 1) = m) := by rw [HS.out, if_neg (by omega)]; rfl
                      have hd' : decide (z < y) = false := by simp; omega
                      clear HS
                      go_wp2
                      go_quiet (fail)
                      go_wp2
                      go_roundw
                      case rel => exact ⟨k + 1, m, by omega, by omega, by go_num, rfl, by omega, HM', hO, hR, belowN hB _⟩
                      case measure => simp [intOf]; omega
                  · obtain rfl : k = l.length := by omega
                    obtain rfl : m = q := by rw [← HM.out, HQB.out]
                    obtain ⟨i, rfl⟩ : ∃ i, j = i + 1 := ⟨j - 1, by omega⟩
                    obtain ⟨y, hy, HY⟩ := hO.intAt (i := m) (by rw [HX.out]; exact hql)
                    obtain ⟨z, hz, HZ⟩ := hR.intAt (i := m) (by rw [HR.out]; exact hql)
                    have hfO := hO.free m
                    have hfR := hR.free m
                    have hb2 := HN.out m (by rw [HX.out]; exact hql)
                    rw [HY.out] at hb2
                    obtain ⟨hb3, hb4⟩ := hb2
                    have HN' : Hid (bnd (x.set m (y + 1)) i) := by
                      have := bnd_set HN.out (q := m) (by rw [HX.out]; exact hql)
                      rwa [HY.out] at this
                    have HV' : Hid (give i (x.set m (y + 1)) (r.set m (-1)) = share t l) := by
                      have := HV.out
                      rwa [give_succ (HQ.out), HY.out] at this
                    have HC' := cnt_set (i := m) (r := r) (by rw [HR.out]; exact hql) hqr
                    go_wp2
                    go_roundw
                    case rel =>
                      refine ⟨i, x.set m (y + 1), r.set m (-1), by go_num, by rw [List.length_set, HX.out], by rw [List.length_set, HR.out], by omega, HN', HV', ?_, ?_, ?_⟩
                      · exact (hO.putInt m (y + 1)).far (p := ⟨w.heap.size + 1, m, none⟩) (by simp) _
                      · exact (hR.far (p := ⟨w.heap.size, m, none⟩) (by simp) _).putInt m (-1)
                      · exact (hB.setCell (by simp) _).setCell (by simp) _
                    case measure => simp [intOf]
              · obtain rfl : j = 0 := by omega
                go_wp2
                go_ret
                exact ⟨rfl, hB, by rw [← HV.out]; exact hO⟩
end Go.Proofs.Ytkoanijiihnioaa
