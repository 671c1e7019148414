/-
  The walk of FixedWhole.
-/
import Derived.Test.YtldpmhahndpfnaaKnown1
import Derived.Test.YtldpmhahndpfnaaPlainW
import Derived.Test.YtldpmhahndpfnaaOpen
import Derived.Deep.DeepCutAuto
namespace Go.Proofs.Ytldpmhahndpfnaa
open Go.RowKit Num Mem Opn

theorem ret_val {k : IntKind} {a b : Int} (h : a = b) : Value.int k a = .int k b := by rw [h]
theorem share_len (t : Int) (l : List Int) : (share t l).length = l.length := by
  have hg : ∀ j x r, (give j x r).length = x.length := by
    intro j
    induction j with
    | zero => intro x r; rfl
    | succ j ih => intro x r; rw [give, ih, List.length_set]
  unfold share
  split
  · simp
  · rw [hg, upto_length]

set_option maxRecDepth 100000 in
set_option maxHeartbeats 8000000 in
theorem walk_FixedWhole (t : Int) (A : Option Addr) (l : List Int) (cp : Nat) (w : World) (_ : I64 t) (hr : Row64 w A l cp) :
    Calls Try.prog 6 #[.int .i64 t, .slice A l.length cp] w fun e w' => e = .returned (.bool true) ∧ Below w.heap.size w w' := by
  obtain ⟨hA, hlc, hcp, hwf⟩ := hr
  obtain ⟨k, hk, hk1, hk2⟩ : ∃ k, (l.take k).length = k ∧ k ≤ 300 ∧ (300 < l.length ∧ k = 300 ∨ l.length ≤ 300 ∧ k = l.length) := by
    rcases Nat.lt_or_ge 300 l.length with h | h
    · exact ⟨300, by simp; omega, by omega, .inl ⟨h, rfl⟩⟩
    · exact ⟨l.length, by simp, h, .inr ⟨h, rfl⟩⟩
  have hT := hA.take k
  generalize l.take k = l' at hT hk
  have HK := hid hk
  have hl9 : l'.length ≤ 300 := by omega
  clear hk
  go_enter Try.func6, Try.ntmps6
  go_upto_if 11 with fail
  go_cut [1] (fun s1 wx => s1 = .slice A l'.length cp ∧ w = wx)
  case first =>
    rcases hk2 with ⟨hgt, rfl⟩ | ⟨hle, rfl⟩
    all_goals
      go_wp2_with fail
      go_meet
      exact ⟨by rw [HK.out], rfl⟩
  case rest =>
    obtain ⟨rfl, rfl⟩ := hcut
    clear hk2 HK hA hlc hwf hk1
    go_wp2_with fail
    refine (share_n t l' _ _ _ w rfl (by omega) hT).mono ?_
    rintro e w1 ⟨rfl, hb, hB⟩
    have hz := hb.size
    have hz2 := hB.lt
    have hS := hT.below hb
    go_upto_if 23 with fail
    go_cut [0] (fun s0 wx => s0 = .int .i64 (max t 0) ∧ w1 = wx)
    case first =>
      rcases Int.lt_or_le t 0 with h | h
      all_goals
        go_wp2_with fail
        go_meet
        exact ⟨ret_val (by omega), rfl⟩
    case rest =>
      obtain ⟨rfl, rfl⟩ := hcut
      go_upto_if 25 with fail
      go_cut [0] (fun s0 wx => s0 = .int .i64 (tot t) ∧ w1 = wx)
      case first =>
        rcases Int.lt_or_le 70368744177664 (max t 0) with h | h
        all_goals
          go_wp2_with fail
          go_meet
          exact ⟨ret_val (by unfold tot clip; omega), rfl⟩
      case rest =>
        obtain ⟨rfl, rfl⟩ := hcut
        go_wp2
        go_loopw [6, 7, 8] (fun s a i wr => ∃ k : Nat, k ≤ l'.length ∧ i = .int .i64 k ∧ s = .int .i64 (psum (share t l') k) ∧ a = .bool (anyp l' k) ∧ Drawn w1 wr) (fun _ _ i _ => l'.length - (intOf i).toNat)
        case atStart => exact ⟨0, by omega, rfl, rfl, rfl, .refl _⟩
        case round =>
          obtain ⟨k, hk, rfl, rfl, rfl, hd⟩ := hrel
          by_cases hlt : k < l'.length
          · obtain ⟨b, off, v, hA1, hb1, hc1, HV⟩ := (hS.drawn hd).at_ hlt
            obtain ⟨y, hy, HY⟩ := (hB.drawn hd).intAt (i := k) (by rw [share_len]; exact hlt)
            have hy0 := (share_bnd t l' (by omega) hlt).1
            have hy1 := (share_bnd t l' (by omega) hlt).2
            rw [HY.out] at hy0 hy1
            obtain ⟨hp1, hp2⟩ := psum_bnd t l' (by omega) k hk
            have HP : Hid (psum (share t l') (k + 1) = psum (share t l') k + y) := by show psum _ (k + 1) = _; simp only [psum, HY.out]
            have HA : Hid (anyp l' (k + 1) = (anyp l' k || decide (0 < v))) := by show anyp _ (k + 1) = _; simp only [anyp, HV.out]
            have e1 : decide (y < 0) = false := by simp; omega
            have HZ : Hid (v ≤ 0 → y = 0) := fun h => by rw [← HY.out]; exact share_none t l' hlt (by rw [HV.out]; exact h)
            have hcase : (v ≤ 0 ∧ Hid (y = 0)) ∨ 0 < v := by
              rcases Int.lt_or_le 0 v with h | h
              · exact .inr h
              · exact .inl ⟨h, HZ.out h⟩
            subst hA1
            obtain ⟨a, ha⟩ : ∃ a, anyp l' k = a := ⟨_, rfl⟩
            rw [ha] at HA ⊢
            clear ha HZ
            rcases Nat.eq_zero_or_pos k with hk0 | hk0
            · have e3 : decide (0 < k) = false := by simp; omega
              have HK0 := hid hk0
              clear hk0
              rcases hcase with ⟨hv, Hy⟩ | hv
              · have HA' : Hid (anyp l' (k + 1) = a) := by rw [HA.out]; show _ = _; simp; omega
                have e2 : decide (v ≤ 0) = true := by simp; omega
                have e4 : decide (0 < v) = false := by simp; omega
                have e5 : (y != 0) = false := by rw [Hy.out]; rfl
                cases a
                all_goals
                  go_wp2
                  go_quiet (fail)
                  go_wp2
                  go_roundw
                  case rel => exact ⟨k + 1, by omega, by go_num, by rw [HP.out], by rw [HA'.out], hd.more _⟩
                  case measure => simp [intOf]; omega
              · have HA' : Hid (anyp l' (k + 1) = true) := by rw [HA.out]; show _ = _; simp; omega
                have e2 : decide (v ≤ 0) = false := by simp; omega
                have e4 : decide (0 < v) = true := by simp; omega
                cases a
                all_goals
                  go_wp2
                  go_quiet (fail)
                  go_wp2
                  go_roundw
                  case rel => exact ⟨k + 1, by omega, by go_num, by rw [HP.out], by rw [HA'.out], hd.more _⟩
                  case measure => simp [intOf]; omega
            · obtain ⟨p, rfl⟩ : ∃ p, k = p + 1 := ⟨k - 1, by omega⟩
              obtain ⟨b', off', u, hA1', hb1', hu, HU⟩ := (hS.drawn hd).at_ (k := p) (by omega)
              obtain ⟨rfl, rfl⟩ : b' = b ∧ off' = off := by
                injection hA1' with h
                injection h with h1 h2
                exact ⟨h1.symm, h2.symm⟩
              obtain ⟨z, hz, HZ2⟩ := (hB.drawn hd).intAt (i := p) (by rw [share_len]; omega)
              have e3 : decide (0 < p + 1) = true := by simp
              have HM : Hid (u < v → v ≤ 65536 → z ≤ y) := by
                show _ → _
                rw [← HV.out, ← HU.out, ← HZ2.out, ← HY.out]
                exact fun g1 g2 => share_mono t l' (by omega) hlt g1 g2
              clear hA1'
              rcases hcase with ⟨hv, Hy⟩ | hv
              · have e6 : decide (v ≤ 65536) = true := by simp; omega
                rcases Int.lt_or_le u v with huv | huv
                · have HA' : Hid (anyp l' (p + 1 + 1) = a) := by rw [HA.out]; show _ = _; simp; omega
                  have e2 : decide (v ≤ 0) = true := by simp; omega
                  have e4 : decide (0 < v) = false := by simp; omega
                  have e5 : (y != 0) = false := by rw [Hy.out]; rfl
                  have e7 : decide (u < v) = true := by simp; omega
                  have e8 : decide (y < z) = false := by have := HM.out huv (by omega); simp; omega
                  cases a
                  all_goals
                    go_wp2
                    go_quiet (fail)
                    go_wp2
                    go_roundw
                    case rel => exact ⟨p + 1 + 1, by omega, by go_num, by rw [HP.out], by rw [HA'.out], hd.more _⟩
                    case measure => simp [intOf]; omega
                · have HA' : Hid (anyp l' (p + 1 + 1) = a) := by rw [HA.out]; show _ = _; simp; omega
                  have e2 : decide (v ≤ 0) = true := by simp; omega
                  have e4 : decide (0 < v) = false := by simp; omega
                  have e5 : (y != 0) = false := by rw [Hy.out]; rfl
                  have e7 : decide (u < v) = false := by simp; omega
                  cases a
                  all_goals
                    go_wp2
                    go_quiet (fail)
                    go_wp2
                    go_roundw
                    case rel => exact ⟨p + 1 + 1, by omega, by go_num, by rw [HP.out], by rw [HA'.out], hd.more _⟩
                    case measure => simp [intOf]; omega
              · rcases Int.lt_or_le 65536 v with hvv | hvv
                · have HA' : Hid (anyp l' (p + 1 + 1) = true) := by rw [HA.out]; show _ = _; simp; omega
                  have e2 : decide (v ≤ 0) = false := by simp; omega
                  have e4 : decide (0 < v) = true := by simp; omega
                  have e6 : decide (v ≤ 65536) = false := by simp; omega
                  cases a
                  all_goals
                    go_wp2
                    go_quiet (fail)
                    go_wp2
                    go_roundw
                    case rel => exact ⟨p + 1 + 1, by omega, by go_num, by rw [HP.out], by rw [HA'.out], hd.more _⟩
                    case measure => simp [intOf]; omega
                · have e6 : decide (v ≤ 65536) = true := by simp; omega
                  rcases Int.lt_or_le u v with huv | huv
                  · have HA' : Hid (anyp l' (p + 1 + 1) = true) := by rw [HA.out]; show _ = _; simp; omega
                    have e2 : decide (v ≤ 0) = false := by simp; omega
                    have e4 : decide (0 < v) = true := by simp; omega
                    have e7 : decide (u < v) = true := by simp; omega
                    have e8 : decide (y < z) = false := by have := HM.out huv (by omega); simp; omega
                    cases a
                    all_goals
                      go_wp2
                      go_quiet (fail)
                      go_wp2
                      go_roundw
                      case rel => exact ⟨p + 1 + 1, by omega, by go_num, by rw [HP.out], by rw [HA'.out], hd.more _⟩
                      case measure => simp [intOf]; omega
                  · have HA' : Hid (anyp l' (p + 1 + 1) = true) := by rw [HA.out]; show _ = _; simp; omega
                    have e2 : decide (v ≤ 0) = false := by simp; omega
                    have e4 : decide (0 < v) = true := by simp; omega
                    have e7 : decide (u < v) = false := by simp; omega
                    cases a
                    all_goals
                      go_wp2
                      go_quiet (fail)
                      go_wp2
                      go_roundw
                      case rel => exact ⟨p + 1 + 1, by omega, by go_num, by rw [HP.out], by rw [HA'.out], hd.more _⟩
                      case measure => simp [intOf]; omega
          · obtain rfl : k = l'.length := by omega
            have hd2 := hd.below w.heap.size
            have hd3 := hd2.size
            rcases share_total t l' with ⟨g1, g2⟩ | ⟨g1, g2⟩
            · rw [g1, g2]
              clear g1 g2
              go_wp2_with (go_at_call 23; refine (known1 _).mono ?_; rintro e w' ⟨rfl, hb9⟩)
              all_goals
                go_ret
                exact ⟨rfl, hb.trans (hd2.trans (hb9.mono (by omega)))⟩
            · rw [g1, g2]
              clear g1 g2
              go_wp2_with (go_at_call 23; refine (known1 _).mono ?_; rintro e w' ⟨rfl, hb9⟩)
              all_goals
                go_ret
                exact ⟨rfl, hb.trans (hd2.trans (hb9.mono (by omega)))⟩
end Go.Proofs.Ytldpmhahndpfnaa
