/-
  The walk of LinesWhole.
-/
import Derived.Test.YtebolanengnpfaaWLinesRoom
namespace Go.Proofs.Ytebolanengnpfaa
open Go.RowKit Num Mem Opn
set_option linter.unusedVariables false
namespace Num
theorem all_step {P : List Pc} {k : Nat} {p : Pc} (hp : P[k]? = some p) (f : Pc → Bool) : (P.drop k).all f = (f p && (P.drop (k + 1)).all f) := by
  have hlt := (List.getElem?_eq_some_iff.1 hp).1
  have h2 : P[k] = p := (List.getElem?_eq_some_iff.1 hp).2
  rw [List.drop_eq_getElem_cons hlt, h2, List.all_cons]
theorem pcs_kind (l : List Bt) (i : Nat) : ∀ p ∈ pcs i l, p.kind = 1 ∨ p.kind = 2 ∨ p.kind = 3 := by
  intro p hp
  obtain ⟨k, b, rfl⟩ := pcs_mem l hp
  exact kindOf_mem b.kind
theorem cut_step {l : List Pc} {i j : Nat} {p : Pc} (h : i < j) (hj : j ≤ l.length) (hp : l[i]? = some p) : cut l i j = p :: cut l (i + 1) j := by
  obtain ⟨q, hq, hc⟩ := cut_cons l h hj
  rw [hp] at hq
  obtain rfl := Option.some.inj hq
  exact hc
theorem lastK_of {l : List Pc} {j : Nat} {p : Pc} (h : l[j - 1]? = some p) : lastK l j = p.kind := by
  unfold lastK
  rw [List.getD_eq_getElem?_getD, h]
  rfl
end Num
set_option maxRecDepth 100000 in
set_option maxHeartbeats 8000000 in
theorem walk_LinesWhole (A : Option Addr) (l : List Bt) (c : Nat) (room : Int) (w : World) (hr : RowB w A l c) (ir : I64 room) :
    Calls Try.prog 4 #[.slice A l.length c, .int .i64 room] w fun e w' => e = .returned (.bool true) ∧ Below w.heap.size w w' := by
  obtain ⟨hA, hlc, hcp, hx⟩ := hr
  have hr1 := lit24_lo room
  have hr2 := lit24_hi room
  have HW := pcs_wide (l.take 80) 0
  have HK := pcs_kind (l.take 80) 0
  have h80 : (pcs 0 (l.take 80)).length ≤ 80 := by rw [pcs_length]; simp; omega
  go_enter Try.func4, Try.ntmps4
  go_wp2_with fail
  refine (some_n l _ A c _ rfl hA (by omega) hx).mono ?_
  rintro e w1 ⟨v, v', rfl, hB, ho, ho'⟩
  generalize pcs 0 (l.take 80) = P at *
  obtain ⟨A1, c1, rfl, hc1, hP⟩ := own_pcs ho
  clear ho ho' hA hx
  go_wp2_with fail
  refine (law_small _ _ ir).mono ?_
  rintro e w2 ⟨rfl, rfl⟩
  generalize lit24 room = r at *
  go_wp2_with fail
  refine (break_n P _ A1 c1 r 0 _ rfl (by omega) hc1 hP).mono ?_
  rintro e w2 ⟨v, rfl, hoa, hb⟩
  replace hP := (hP.below hb).more hb.size
  replace hB := hB.trans (hb.mono hB.size)
  clear hb
  obtain ⟨A2, c2, rfl, hc2, hL⟩ := own_lns hoa
  clear hoa
  have HE := hid (lns_end r 0 P)
  have HG : Hid (∀ k, k < (lns r 0 P).length → (lns r 0 P)[k]? = some (first r 0 P (pos r P k)) ∧ pos r P k < P.length) := hid (fun k h => lns_get r 0 P h)
  have hn80 := lns_length r 0 P
  generalize lns r 0 P = La at *
  obtain ⟨Q, hQ⟩ : ∃ Q, P.all (fun p => !p.pre) = Q := ⟨_, rfl⟩
  have HQ := hid hQ
  have HF : Hid (Q = true → Fine P) := hid (fun h => ⟨HK, by
    intro p hp
    rw [← hQ, List.all_eq_true] at h
    simpa using h p hp, HW, h80⟩)
  have HWW := hid HW
  have HKK := hid HK
  clear hQ HW HK
  go_upto_block 0 with fail
  go_cut [9] (fun s9 wx => s9 = .bool Q ∧ w2 = wx)
  case first =>
    go_wp2_with fail
    go_loopg [9, 10] P.length (fun g s9 s10 wr => ∃ (k : Nat) (b : Bool), g = P.length - k ∧ k ≤ P.length ∧ s10 = .int .i64 k ∧ s9 = .bool b ∧ Hid ((b && (P.drop k).all (fun p => !p.pre)) = Q) ∧ w2 = wr)
    case atStart => exact ⟨0, true, rfl, Nat.zero_le _, rfl, rfl, hid (by simpa using HQ.out), rfl⟩
    case round =>
      obtain ⟨k, b, rfl, hk, rfl, rfl, HV, rfl⟩ := hrel
      by_cases hlt : k < P.length
      · obtain ⟨b1, off, p, rfl, hb, hp, -⟩ := Pcs.get hP hlt
        obtain ⟨-, -, -, q46⟩ := pcs_here hP hp.out
        have HV2 : Hid ((b && (!p.pre && (P.drop (k + 1)).all (fun p => !p.pre))) = Q) := hid (by have := HV.out; rw [all_step hp.out] at this; exact this)
        obtain ⟨pr, hpr⟩ : ∃ pr, p.pre = pr := ⟨_, rfl⟩
        rw [hpr] at q46 HV2
        clear hpr HV
        cases b
        · go_wp2_with fail
          go_roundg (P.length - (k + 1))
          case rel => exact ⟨k + 1, false, rfl, by omega, by go_num, rfl, hid (by have := HV2.out; simpa using this), rfl⟩
          case measure => omega
        · go_wp2_with fail
          go_roundg (P.length - (k + 1))
          case rel => exact ⟨k + 1, !pr, rfl, by omega, by go_num, rfl, hid (by have := HV2.out; simpa using this), rfl⟩
          case measure => omega
      · obtain rfl : k = P.length := by omega
        have HZ : Hid (b = Q) := hid (by have := HV.out; rw [List.drop_of_length_le (Nat.le_refl _)] at this; simpa using this)
        go_wp2_with fail
        go_meet
        exact ⟨by rw [HZ.out], rfl⟩
  case rest =>
  obtain ⟨rfl, rfl⟩ := hcut
  go_wp2_with fail
  go_loopg [8, 11] La.length (fun g s8 s11 wr => ∃ (k : Nat), g = La.length - k ∧ k ≤ La.length ∧ s11 = .int .i64 k ∧ s8 = .int .i64 (pos r P k) ∧ w2 = wr)
  case atStart => exact ⟨0, rfl, Nat.zero_le _, rfl, rfl, rfl⟩
  case round =>
    obtain ⟨k, rfl, hk, rfl, rfl, rfl⟩ := hrel
    by_cases hlt : k < La.length
    · obtain ⟨hk1, hk2⟩ := HG.out k hlt
      obtain ⟨b2, o2, x', rfl, -, -, -⟩ := hL.at_ hlt
      obtain ⟨q0, q1, q2, -⟩ := lines_at hL hk1
      have hT1 := stop_gt r P hk2
      have hT2 := stop_le r P (Nat.le_of_lt hk2)
      have HB : Hid (∀ j p, pos r P k ≤ j → j < stop r P (pos r P k) → P[j]? = some p → p.kind = 3 → j + 1 = stop r P (pos r P k)) := hid (fun j p h1 h2 h3 h4 => stop_break h1 h2 h3 h4)
      have HX : Hid (Q = true → lastK P (stop r P (pos r P k)) ≠ 3 → (2 ≤ wc (cut P (pos r P k) (stop r P (pos r P k))) → (first r 0 P (pos r P k)).width ≤ r) ∧ (∀ q, P[stop r P (pos r P k)]? = some q → q.kind = 1 ∧ r < sumw (cut P (pos r P k) (stop r P (pos r P k))) false 0 + q.width)) :=
        hid (fun hq hl => ⟨fun h2 => whole_fits (HF.out hq) hk2 hl h2, fun q h => whole_next (HF.out hq) hk2 h hl⟩)
      have HN : Hid (pos r P (k + 1) = stop r P (pos r P k)) := rfl
      obtain ⟨x, hxx⟩ : ∃ x, first r 0 P (pos r P k) = x := ⟨_, rfl⟩
      have hx0 : x.from_ = (pos r P k : Nat) := by rw [← hxx]; rfl
      have hx1 : x.to = (stop r P (pos r P k) : Nat) := by rw [← hxx]; rfl
      rw [hxx] at q0 q1 q2 HX
      rw [hx0] at q0
      rw [hx1] at q1
      obtain ⟨wd, hwd⟩ : ∃ wd, x.width = wd := ⟨_, rfl⟩
      rw [hwd] at q2 HX
      clear hxx hx0 hx1 hwd hk1
      obtain ⟨T, hT⟩ : ∃ T, stop r P (pos r P k) = T := ⟨_, rfl⟩
      rw [hT] at hT1 hT2 HB HX HN q1
      clear hT
      obtain ⟨i, hi⟩ : ∃ i, pos r P k = i := ⟨_, rfl⟩
      rw [hi] at hk2 hT1 HB HX q0 ⊢
      clear hi
      obtain ⟨WC, hWC⟩ : ∃ WC, wc (cut P i T) = WC := ⟨_, rfl⟩
      obtain ⟨SU, hSU⟩ : ∃ SU, sumw (cut P i T) false 0 = SU := ⟨_, rfl⟩
      have hWC1 : WC ≤ 80 := by rw [← hWC]; have := wc_le (cut P i T); rw [cut_length P hT2] at this; omega
      have hSU1 : 0 ≤ SU ∧ SU ≤ 16777216 * 80 := by
        rw [← hSU]
        have := sumw_bd (cut P i T) (m := false) (n := 0) (HWW.out.cut i T)
        rw [cut_length P hT2] at this
        omega
      obtain ⟨hSU1, hSU2⟩ := hSU1
      rw [hWC, hSU] at HX
      have HWC := hid hWC
      have HSU := hid hSU
      clear hWC hSU
      have gd1 : decide (T ≤ i) = false := by simp; omega
      have gd2 : decide (P.length < T) = false := by simp; omega
      go_upto_block 4 with fail
      go_cut [12, 13] (fun s12 s13 wx => s12 = .int .i64 WC ∧ s13 = .int .i64 SU ∧ w2 = wx)
      case first =>
        go_wp2_with fail
        go_loopg [12, 13, 14] (T - i) (fun g s12 s13 s14 wr => ∃ (j v : Nat) (s : Int), g = T - j ∧ i ≤ j ∧ j ≤ T ∧ v ≤ j ∧ 0 ≤ s ∧ s ≤ 16777216 * j ∧ s14 = .int .i64 j ∧ s12 = .int .i64 v ∧ s13 = .int .i64 s ∧ Hid (v + wc (cut P j T) = WC) ∧ Hid (sumw (cut P j T) (decide (0 < v)) s = SU) ∧ w2 = wr)
        case atStart => exact ⟨i, 0, 0, rfl, Nat.le_refl _, Nat.le_of_lt hT1, Nat.zero_le _, Int.le_refl _, by omega, rfl, rfl, rfl, hid (by rw [Nat.zero_add]; exact HWC.out), HSU, rfl⟩
        case round =>
          obtain ⟨j, v, s, rfl, hij, hjT, hv, hs1, hs2, rfl, rfl, rfl, HV, HS, rfl⟩ := hrel
          by_cases hlt2 : j < T
          · obtain ⟨b1, off, p, rfl, hb, hp, -⟩ := Pcs.get hP (k := j) (by omega)
            obtain ⟨p0, p3, -, -⟩ := pcs_here hP hp.out
            have hjP : j < P.length := by omega
            obtain ⟨hw1, hw2⟩ := HWW.out p (List.mem_of_getElem? hp.out)
            have hkk := HKK.out p (List.mem_of_getElem? hp.out)
            have HV2 : Hid (v + ((if p.kind = 1 then 1 else 0) + wc (cut P (j + 1) T)) = WC) := hid (by have := HV.out; rw [cut_step hlt2 hT2 hp.out, wc] at this; exact this)
            have HS2 : Hid (sumw (cut P (j + 1) T) (decide (0 < v) || p.kind == 1) (if (decide (0 < v) || p.kind == 1) = true ∨ p.kind ≠ 2 then s + p.width else s) = SU) := hid (by have := HS.out; rw [cut_step hlt2 hT2 hp.out, sumw] at this; exact this)
            have HB2 : Hid (p.kind = 3 → j + 1 = T) := hid (fun h => HB.out j p hij hlt2 hp.out h)
            obtain ⟨kd, hkd⟩ : ∃ kd, p.kind = kd := ⟨_, rfl⟩
            obtain ⟨pw, hpw⟩ : ∃ pw, p.width = pw := ⟨_, rfl⟩
            rw [hkd] at p0 HV2 HS2 hkk HB2
            rw [hpw] at p3 HS2 hw1 hw2
            clear hkd hpw HV HS
            rcases hkk with rfl | rfl | rfl
            · have HV3 : Hid ((v + 1) + wc (cut P (j + 1) T) = WC) := hid (by have := HV2.out; simp at this; omega)
              have HS3 : Hid (sumw (cut P (j + 1) T) (decide (0 < v + 1)) (s + pw) = SU) := hid (by have := HS2.out; simp at this ⊢; exact this)
              go_wp2_with fail
              go_roundg (T - (j + 1))
              case rel => exact ⟨j + 1, v + 1, s + pw, rfl, by omega, by omega, by omega, by omega, by omega, by go_num, by go_num, rfl, HV3, HS3, rfl⟩
              case measure => omega
            · have HV3 : Hid (v + wc (cut P (j + 1) T) = WC) := hid (by have := HV2.out; simp at this; omega)
              by_cases h0 : 0 < v
              · have g0 : decide (0 < (v : Int)) = true := by simp; omega
                have HS3 : Hid (sumw (cut P (j + 1) T) (decide (0 < v)) (s + pw) = SU) := hid (by have := HS2.out; simp [h0] at this ⊢; exact this)
                go_wp2_with fail
                go_roundg (T - (j + 1))
                case rel => exact ⟨j + 1, v, s + pw, rfl, by omega, by omega, by omega, by omega, by omega, by go_num, rfl, rfl, HV3, HS3, rfl⟩
                case measure => omega
              · obtain rfl : v = 0 := by omega
                have HS3 : Hid (sumw (cut P (j + 1) T) (decide (0 < 0)) s = SU) := hid (by have := HS2.out; simp at this ⊢; exact this)
                go_wp2_with fail
                go_roundg (T - (j + 1))
                case rel => exact ⟨j + 1, 0, s, rfl, by omega, by omega, by omega, by omega, by omega, by go_num, rfl, rfl, HV3, HS3, rfl⟩
                case measure => omega
            · have hjT2 := HB2.out rfl
              have HV3 : Hid (v + wc (cut P (j + 1) T) = WC) := hid (by have := HV2.out; simp at this; omega)
              have HS3 : Hid (sumw (cut P (j + 1) T) (decide (0 < v)) (s + pw) = SU) := hid (by have := HS2.out; simp at this ⊢; exact this)
              have gj : ((j : Int) != (T : Int) - 1) = false := by rw [bne_eq_false_iff_eq]; omega
              by_cases h0 : 0 < v
              · have g0 : decide (0 < (v : Int)) = true := by simp; omega
                go_wp2_with fail
                go_roundg (T - (j + 1))
                case rel => exact ⟨j + 1, v, s + pw, rfl, by omega, by omega, by omega, by omega, by omega, by go_num, rfl, rfl, HV3, HS3, rfl⟩
                case measure => omega
              · obtain rfl : v = 0 := by omega
                go_wp2_with fail
                go_roundg (T - (j + 1))
                case rel => exact ⟨j + 1, 0, s + pw, rfl, by omega, by omega, by omega, by omega, by omega, by go_num, rfl, rfl, HV3, HS3, rfl⟩
                case measure => omega
          · obtain rfl : j = T := by omega
            have HZ1 : Hid (v = WC) := hid (by have := HV.out; rw [cut_nil P (Nat.le_refl _)] at this; simpa [wc] using this)
            have HZ2 : Hid (s = SU) := hid (by have := HS.out; rw [cut_nil P (Nat.le_refl _)] at this; simpa [sumw] using this)
            go_wp2_with fail
            go_meet
            exact ⟨by rw [HZ1.out], by rw [HZ2.out], rfl⟩
      case rest =>
      obtain ⟨rfl, rfl, rfl⟩ := hcut
      obtain ⟨m, rfl⟩ : ∃ m, T = m + 1 := ⟨T - 1, by omega⟩
      obtain ⟨b1, off, p, rfl, hb, hp, -⟩ := Pcs.get hP (k := m) (by omega)
      have hmP : m < P.length := by omega
      obtain ⟨p0, -, -, -⟩ := pcs_here hP hp.out
      have HX2 : Hid (Q = true → p.kind ≠ 3 → (2 ≤ WC → wd ≤ r) ∧ (∀ q, P[m + 1]? = some q → q.kind = 1 ∧ r < SU + q.width)) := hid (by
        have := HX.out
        rw [lastK_of (j := m + 1) hp.out] at this
        exact this)
      obtain ⟨kd, hkd⟩ : ∃ kd, p.kind = kd := ⟨_, rfl⟩
      rw [hkd] at p0 HX2
      clear hkd HX
      go_upto_region 26 with fail
      go_cut [154] (fun s wx => s = .bool false ∧ w2 = wx)
      case first =>
        cases Q
        · go_wp2_with fail
          go_meet
          exact ⟨rfl, rfl⟩
        · by_cases h1 : WC = 1
          · have g1 : ((WC : Int) != 1) = false := by rw [bne_eq_false_iff_eq]; omega
            clear h1
            go_wp2_with fail
            go_meet
            exact ⟨rfl, rfl⟩
          · have g1 : ((WC : Int) != 1) = true := by rw [bne_iff_ne]; omega
            by_cases h2 : r < wd
            · have g2 : decide (r < wd) = true := by simpa using h2
              by_cases h3 : kd = 3
              · have g3 : (kd != 3) = false := by rw [bne_eq_false_iff_eq]; exact h3
                clear h3 h1
                go_wp2_with fail
                go_meet
                exact ⟨rfl, rfl⟩
              · have g3 : (kd != 3) = true := by rw [bne_iff_ne]; exact h3
                obtain rfl : WC = 0 := by
                  have := (HX2.out rfl h3).1
                  omega
                clear h3 h1
                go_wp2_with fail
                go_meet
                exact ⟨rfl, rfl⟩
            · have g2 : decide (r < wd) = false := by simpa using h2
              clear h1
              go_wp2_with fail
              go_meet
              exact ⟨rfl, rfl⟩
      case rest =>
      obtain ⟨rfl, rfl⟩ := hcut
      go_upto_region 29 with fail
      go_cut [194] (fun s wx => s = .bool false ∧ w2 = wx)
      case first =>
        cases Q
        · go_wp2_with fail
          go_meet
          exact ⟨rfl, rfl⟩
        · by_cases h1 : m + 1 < P.length
          · obtain ⟨q, hb3, hq, -⟩ := Pcs.here hP h1
            obtain ⟨z0, z3, -, -⟩ := pcs_here hP hq.out
            obtain ⟨hw1, hw2⟩ := HWW.out q (List.mem_of_getElem? hq.out)
            by_cases h3 : kd = 3
            · have g3 : (kd != 3) = false := by rw [bne_eq_false_iff_eq]; exact h3
              clear h3
              go_wp2_with fail
              go_meet
              exact ⟨rfl, rfl⟩
            · have g3 : (kd != 3) = true := by rw [bne_iff_ne]; exact h3
              obtain ⟨e1, e2⟩ := (HX2.out rfl h3).2 q hq.out
              rw [e1] at z0
              obtain ⟨pw, hpw⟩ : ∃ pw, q.width = pw := ⟨_, rfl⟩
              rw [hpw] at z3 hw1 hw2 e2
              clear hpw h3 e1
              have g4 : decide (SU + pw ≤ r) = false := by simp; omega
              go_wp2_with fail
              go_meet
              exact ⟨rfl, rfl⟩
          · have g1 : decide (m + 1 < P.length) = false := by simpa using h1
            have g1' : decide ((m : Int) + 1 < P.length) = false := by simp; omega
            go_wp2_with fail
            go_meet
            exact ⟨rfl, rfl⟩
      case rest =>
      obtain ⟨rfl, rfl⟩ := hcut
      go_wp2_with fail
      go_roundg (La.length - (k + 1))
      case rel => exact ⟨k + 1, rfl, by omega, by go_num, by rw [HN.out]; go_num, rfl⟩
      case measure => omega
    · obtain rfl : k = La.length := by omega
      rw [HE.out]
      go_wp2_with fail
      refine (known15 _).mono ?_
      rintro e w9 ⟨rfl, hb9⟩
      go_wp2_with fail
      go_ret
      exact ⟨rfl, hB.trans (hb9.mono hB.size)⟩
end Go.Proofs.Ytebolanengnpfaa
