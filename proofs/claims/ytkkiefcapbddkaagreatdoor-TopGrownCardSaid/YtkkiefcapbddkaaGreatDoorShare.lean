/-
  The walk of fixed.Share: it makes a new row, which holds the shares.
-/
import Derived.Test.YtkkiefcapbddkaaGreatDoorFix
import Derived.Test.YtkkiefcapbddkaaGreatDoorPlainB
import Derived.Test.YtkkiefcapbddkaaGreatDoorMem
import Derived.Deep.QuietTactic
import Derived.BigQuiet
import Derived.RegionTactic
import Derived.ChangeAlike
namespace Go.Proofs.YtkkiefcapbddkaaGreatDoor
open Go.RowKit Num Mem

theorem info_i64 : (Tryz.prog.info? 2).map (fun i => (i.zero, i.size, i.bytes)) = some (some (.int .i64 0), 1, 8) := by kernel_rfl
/-- make([]int64, n). -/
theorem make_ints (n : Nat) (h : n ≤ 35184372088832) (w : World) :
    (Instr.makeSlice 23 (.int .i64 (n : Int)) (.int .i64 (n : Int))).run Tryz.prog w = .ok (.slice (some ⟨w.heap.size, 0, none⟩) n n) (w.alloc (.cells (ints (List.replicate n 0)) 2)) := by
  obtain ⟨i, hi, hz, hs, hb⟩ := info_parts info_i64
  have hr := run_make (P := Tryz.prog) w 23 2 i (.int .i64 0) Tryz.underlying23 hi hz .i64 .i64 (n : Int) (n : Int) (by omega) (by omega) (by rw [hb]; omega) (by omega)
  rw [hs] at hr
  simp only [Int.toNat_natCast] at hr
  rw [hr, ints_zeros]

set_option maxHeartbeats 400000 in
theorem fixed_Share (t : Int) (l : List Int) (A : Option Addr) (c : Nat) (w : World) (hl : l.length ≤ 1048576) (hA : Ints w w.heap.size A l) :
    Calls Tryz.prog 271 #[.int .i64 t, .slice A l.length c] w fun e w' =>
      e = .returned (.slice (some ⟨w.heap.size, 0, none⟩) l.length l.length) ∧ Below w.heap.size w w' ∧ Blk w' w.heap.size 2 (ints (share t l)) := by
  have hmk := make_ints l.length (by omega)
  by_cases hs : wsum l l.length = 0
  · have hs' : (wsum l l.length == 0) = true := by simp [hs]
    have HS := hid hs
    clear hs
    go_enter Tryz.func271, Tryz.ntmps271
    go_wp2
    go_loop [7, 27] (fun s i => ∃ k : Nat, k ≤ l.length ∧ i = .int .i64 k ∧ s = .int .i64 (wsum l k)) (fun _ i => l.length - (intOf i).toNat)
    case atStart => exact ⟨0, Nat.zero_le _, rfl, rfl⟩
    case round =>
      obtain ⟨k, hk, rfl, rfl⟩ := hrel
      have h1 := wsum_lo l k
      have h2 := wsum_hi l k
      by_cases hlt : k < l.length
      · obtain ⟨b, off, x, rfl, hb, hc, HX⟩ := hA.at_ hlt
        go_wp2
        go_round
        case rel => exact ⟨k + 1, by omega, by go_num, by simp only [wsum, HX.out]; rfl⟩
        case measure => simp [intOf]; omega
      · obtain rfl : k = l.length := by omega
        go_wp2
        go_ret
        refine ⟨rfl, ?_, ?_⟩
        · exact ((Below.refl _ _).alloc (Nat.le_refl _) _).alloc (by simp) _
        · unfold share
          rw [if_pos HS.out]
          exact (Blk.new w _ _).alloc _
  · have hs' : (wsum l l.length == 0) = false := by simp [hs]
    have HS := hid hs
    have hs1 := wsum_lo l l.length
    have hs2 : 1 ≤ wsum l l.length := by omega
    have hs3 := wsum_hi l l.length
    clear hs
    go_enter Tryz.func271, Tryz.ntmps271
    go_wp2
    go_loop [7, 27] (fun s i => ∃ k : Nat, k ≤ l.length ∧ i = .int .i64 k ∧ s = .int .i64 (wsum l k)) (fun _ i => l.length - (intOf i).toNat)
    case atStart => exact ⟨0, Nat.zero_le _, rfl, rfl⟩
    case round =>
      obtain ⟨k, hk, rfl, rfl⟩ := hrel
      have h1 := wsum_lo l k
      have h2 := wsum_hi l k
      by_cases hlt : k < l.length
      · obtain ⟨b, off, x, rfl, hb, hc, HX⟩ := hA.at_ hlt
        go_wp2
        go_round
        case rel => exact ⟨k + 1, by omega, by go_num, by simp only [wsum, HX.out]; rfl⟩
        case measure => simp [intOf]; omega
      · obtain rfl : k = l.length := by omega
        go_wp2
        go_loopw [10, 43] (fun lf i wr => ∃ k : Nat, k ≤ l.length ∧ i = .int .i64 k ∧ lf = .int .i64 (left t l k) ∧ Blk wr w.heap.size 2 (ints (upto (quo t l) l.length k)) ∧ Blk wr (w.heap.size + 1) 2 (ints (upto (rem t l) l.length k)) ∧ Below w.heap.size w wr) (fun _ i _ => l.length - (intOf i).toNat)
        case atStart =>
          refine ⟨0, Nat.zero_le _, rfl, rfl, ?_, ?_, ?_⟩
          · rw [upto_zero]; exact (Blk.new w _ _).alloc _
          · rw [upto_zero]; have := Blk.new (w.alloc (.cells (ints (List.replicate l.length 0)) 2)) 2 (ints (List.replicate l.length 0)); simpa using this
          · exact ((Below.refl _ _).alloc (Nat.le_refl _) _).alloc (by simp) _
        case round =>
          obtain ⟨k, hk, rfl, rfl, hO, hR, hB⟩ := hrel
          by_cases hlt : k < l.length
          · obtain ⟨b, off, x, rfl, hb, hc, HX⟩ := (hA.below hB).at_ hlt
            have hcO := hO.int (i := k) (by rw [upto_length]; exact hlt)
            have hfO := hO.free k
            have hcR := hR.int (i := k) (by rw [upto_length]; exact hlt)
            have hfR := hR.free k
            obtain ⟨hm1, hm2⟩ := mul_fits (Int.le_trans (by decide) (tot_lo t)) (tot_hi t) (Int.le_trans (by decide) (wt_lo x)) (wt_hi x) rfl
            have hm3 := Int.mul_nonneg (tot_lo t) (wt_lo x)
            have hq1 := left_lo t l HS.out (k := k + 1) (by omega)
            have hq2 := left_hi t l (k + 1)
            have hq3 := tot_hi t
            simp only [left, quo, HX.out] at hq1 hq2
            have EQ : Hid (quo t l k = tot t * wt x / wsum l l.length) := by unfold quo; rw [HX.out]; rfl
            have ER : Hid (rem t l k = tot t * wt x % wsum l l.length) := by unfold rem; rw [HX.out]; rfl
            unfold tot wt clip at hm1 hm2 hm3 hq1 hq2 EQ ER
            unfold tot clip at hq3
            go_wp2
            go_region
            go_wp2
            go_roundw
            case rel =>
              refine ⟨k + 1, by omega, by go_num, ?_, ?_, ?_, ?_⟩
              · simp only [left]; rw [EQ.out]
              · have h := (hO.putInt k (quo t l k)).far (p := ⟨w.heap.size + 1, k, none⟩) (by simp) (.int .i64 (rem t l k))
                rw [upto_set, EQ.out, ER.out] at h
                exact h.drewN _
              · have h := (hR.far (p := ⟨w.heap.size, k, none⟩) (by simp) (.int .i64 (quo t l k))).putInt k (rem t l k)
                rw [upto_set, EQ.out, ER.out] at h
                exact h.drewN _
              · exact (((hB.setCell (by simp) _).setCell (by simp) _).drew)
            case measure => simp [intOf]; omega
          · obtain rfl : k = l.length := by omega
            have HL := left_lo t l HS.out (k := l.length) (by omega)
            have HM := left_lt t l HS.out
            have HG : Hid (give (left t l l.length).toNat (upto (quo t l) l.length l.length) (upto (rem t l) l.length l.length) = share t l) := by unfold share; rw [if_neg HS.out]; rfl
            have HC := bnd_start t l HS.out hl (j := (left t l l.length).toNat) (by omega)
            have HD := cnt_start t l HS.out
            go_wp2
            go_loopw [10] (fun lf wr => ∃ (j : Nat) (x r : List Int), lf = .int .i64 j ∧ x.length = l.length ∧ r.length = l.length ∧ j < cnt r ∧ Hid (bnd x j) ∧ Hid (give j x r = share t l) ∧ Blk wr w.heap.size 2 (ints x) ∧ Blk wr (w.heap.size + 1) 2 (ints r) ∧ Below w.heap.size w wr) (fun lf _ => (intOf lf).toNat)
            case atStart =>
              exact ⟨(left t l l.length).toNat, _, _, by rw [Int.toNat_of_nonneg HL], upto_length _ _ _, upto_length _ _ _, by omega, HC, HG, hO, hR, hB⟩
            case round =>
              clear HC HG HD HL HM hO hR hB
              obtain ⟨j, x, r, rfl, hx, hr, hj, HN, HV, hO, hR, hB⟩ := hrel
              have HX := hid hx
              have HR := hid hr
              clear hx hr
              by_cases hlt : 0 < j
              · obtain ⟨q, hq, hql, hqr⟩ := bst_found hj
                have HQ := hid hq
                rw [HR.out] at hql
                clear hq
                obtain ⟨wo, rfl⟩ : ∃ wo : World, wo = wr := ⟨_, rfl⟩
                go_wp2
                go_loopw [14, 78] (fun s i wr => ∃ (k : Nat) (m : Int), k ≤ l.length ∧ i = .int .i64 k ∧ s = .int .i64 m ∧ -1 ≤ m ∧ m < k ∧ Hid (bst r k = m) ∧ Blk wr w.heap.size 2 (ints x) ∧ Blk wr (w.heap.size + 1) 2 (ints r) ∧ Below w.heap.size w wr) (fun _ i _ => l.length - (intOf i).toNat)
                case atStart => exact ⟨0, -1, Nat.zero_le _, rfl, rfl, by omega, by omega, rfl, hO, hR, hB⟩
                case round =>
                  clear hO hR hB
                  obtain ⟨k, m, hk, rfl, rfl, hm1, hm2, HM, hO, hR, hB⟩ := hrel
                  by_cases hkl : k < l.length
                  · obtain ⟨y, hy, HY⟩ := hR.intAt (i := k) (by rw [HR.out]; exact hkl)
                    have HS : Hid (bst r (k + 1) = if 0 ≤ y ∧ (m < 0 ∨ r.getD m.toNat 0 < y) then (k : Int) else m) := by
                      show bst r (k + 1) = _
                      simp only [bst, HY.out, HM.out]
                    rcases Int.lt_or_le y 0 with h1 | h1
                    · have hd : decide (0 ≤ y) = false := by simp; omega
                      have HM' : Hid (bst r (k + 1) = m) := by rw [HS.out, if_neg (by omega)]; rfl
                      clear HS
                      go_wp2
                      go_quiet (fail)
                      go_wp2
                      go_roundw
                      case rel => exact ⟨k + 1, m, by omega, by go_num, rfl, by omega, by omega, HM', hO, hR, belowN hB _⟩
                      case measure => simp [intOf]; omega
                    · rcases Int.lt_or_le m 0 with h2 | h2
                      · have hd : decide (m < 0) = true := by simp; omega
                        have HM' : Hid (bst r (k + 1) = (k : Int)) := by rw [HS.out, if_pos (by omega)]; rfl
                        clear HS
                        go_wp2
                        go_quiet (fail)
                        go_wp2
                        go_roundw
                        case rel => exact ⟨k + 1, (k : Int), by omega, by go_num, rfl, by omega, by omega, HM', hO, hR, belowN hB _⟩
                        case measure => simp [intOf]; omega
                      · obtain ⟨p, rfl⟩ := Int.eq_ofNat_of_zero_le h2
                        obtain ⟨z, hz, HZ⟩ := hR.intAt (i := p) (by rw [HR.out]; omega)
                        rw [Int.toNat_natCast, HZ.out] at HS
                        have hd : decide ((p : Int) < 0) = false := by simp
                        by_cases h3 : z < y
                        · have HM' : Hid (bst r (k + 1) = (k : Int)) := by rw [HS.out, if_pos (by omega)]; rfl
                          clear HS
                          go_wp2
                          go_quiet (fail)
                          go_wp2
                          go_roundw
                          case rel => exact ⟨k + 1, (k : Int), by omega, by go_num, rfl, by omega, by omega, HM', hO, hR, belowN hB _⟩
                          case measure => simp [intOf]; omega
                        · have HM' : Hid (bst r (k + 1) = (p : Int)) := by rw [HS.out, if_neg (by omega)]; rfl
                          have hd' : decide (z < y) = false := by simp; omega
                          clear HS
                          go_wp2
                          go_quiet (fail)
                          go_wp2
                          go_roundw
                          case rel => exact ⟨k + 1, (p : Int), by omega, by go_num, rfl, by omega, by omega, HM', hO, hR, belowN hB _⟩
                          case measure => simp [intOf]; omega
                  · obtain rfl : k = l.length := by omega
                    obtain rfl : m = (q : Int) := by rw [← HM.out, ← HQ.out, HR.out]
                    obtain ⟨i, rfl⟩ : ∃ i, j = i + 1 := ⟨j - 1, by omega⟩
                    obtain ⟨y, hy, HY⟩ := hO.intAt (i := q) (by rw [HX.out]; exact hql)
                    obtain ⟨z, hz, HZ⟩ := hR.intAt (i := q) (by rw [HR.out]; exact hql)
                    have hfO := hO.free q
                    have hfR := hR.free q
                    have hb2 := HN.out q (by rw [HX.out]; exact hql)
                    rw [HY.out] at hb2
                    obtain ⟨hb3, hb4⟩ := hb2
                    have HN' : Hid (bnd (x.set q (y + 1)) i) := by
                      have := bnd_set HN.out (q := q) (by rw [HX.out]; exact hql)
                      rwa [HY.out] at this
                    have HV' : Hid (give i (x.set q (y + 1)) (r.set q (-1)) = share t l) := by
                      have := HV.out
                      rwa [give_succ (HQ.out), HY.out] at this
                    have HC' := cnt_set (i := q) (r := r) (by rw [HR.out]; exact hql) hqr
                    go_wp2
                    go_roundw
                    case rel =>
                      refine ⟨i, x.set q (y + 1), r.set q (-1), by go_num, by rw [List.length_set, HX.out], by rw [List.length_set, HR.out], by omega, HN', HV', ?_, ?_, ?_⟩
                      · exact (hO.putInt q (y + 1)).far (p := ⟨w.heap.size + 1, q, none⟩) (by simp) _
                      · exact (hR.far (p := ⟨w.heap.size, q, none⟩) (by simp) _).putInt q (-1)
                      · exact (hB.setCell (by simp) _).setCell (by simp) _
                    case measure => simp [intOf]
              · obtain rfl : j = 0 := by omega
                go_wp2
                go_ret
                exact ⟨rfl, hB, by rw [← HV.out]; exact hO⟩
end Go.Proofs.YtkkiefcapbddkaaGreatDoor
