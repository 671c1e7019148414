/-
  The walk of the reference's edges.
-/
import Derived.Test.YtebolanengnpfaaWide
namespace Go.Proofs.Ytebolanengnpfaa
open Go.RowKit Num Mem
set_option linter.unusedVariables false
set_option linter.unusedSimpArgs false
set_option maxRecDepth 100000 in
set_option maxHeartbeats 2000000 in
theorem ref_edges (l : List Pc) (A : Option Addr) (c : Nat) (i j : Nat) (w : World) (hij : i ≤ j) (hj : j ≤ l.length) (hl : l.length ≤ 1000) (hA : Pcs w w.heap.size A l) :
    Calls Try.prog 35 #[.slice A l.length c, .int .i64 i, .int .i64 j] w fun e w' =>
      e = .returned (.tuple #[.int .i64 (wideA l i j), .int .i64 (wideB l i j)]) ∧ Below w.heap.size w w' := by
  go_enter Try.func35, Try.ntmps35
  go_upto_block 0 with fail
  go_cut [8] (fun s1 wx => s1 = .int .i64 (wideA l i j : Nat) ∧ Below w.heap.size w wx)
  case first =>
    go_wp2_with fail
    go_loopg [8] (j - i) (fun g s wr => ∃ k : Nat, g = j - k ∧ i ≤ k ∧ k ≤ j ∧ s = .int .i64 k ∧ Hid (k + lead (cut l k j) = wideA l i j) ∧ Below w.heap.size w wr)
    case atStart => exact ⟨i, rfl, Nat.le_refl _, hij, rfl, rfl, Below.refl _ _⟩
    case round =>
      obtain ⟨k, rfl, hik, hkj, rfl, HW, hB⟩ := hrel
      by_cases hlt : k < j
      · obtain ⟨b, off, p, rfl, hb, hp, hr⟩ := Pcs.get (hA.below hB) (k := k) (by omega)
        have hkl : k < l.length := by omega
        have HL := hid (lead_cut hlt hj hp.out)
        obtain ⟨t, ht⟩ : ∃ t, p.thin = t := ⟨_, rfl⟩
        have HT := hid ht
        go_wp2_with (first | refine stop_load 80 _ rfl rfl ?_ | refine stop_store 80 _ _ rfl rfl ?_)
        refine ⟨?_⟩
        refine wl_load_at rfl 80 _ rfl b _ rfl p.arr _ hr rfl rfl info_rpiece ?_
        (try simp only [Act.put, List.setIfInBounds_toArray, List.set_cons_zero, List.set_cons_succ])
        go_wp2_with fail
        refine (ref_loose p _).mono ?_
        rintro e w1 ⟨rfl, hb1⟩
        rw [ht]
        clear ht
        cases t
        · go_wp2_with fail
          go_meet
          refine ⟨int_nat ?_, hB.trans (hb1.mono hB.size)⟩
          have := HW.out
          rw [HL.out, HT.out] at this
          simpa using this
        · go_wp2_with fail
          go_roundg (j - (k + 1))
          case rel => exact ⟨k + 1, rfl, by omega, by omega, by go_num, by have := HW.out; rw [HL.out, HT.out] at this; simp at this; show _ = _; omega, hB.trans (hb1.mono hB.size)⟩
          case measure => omega
      · obtain rfl : k = j := by omega
        go_wp2_with fail
        go_meet
        refine ⟨int_nat ?_, hB⟩
        have := HW.out
        rw [cut_nil l (Nat.le_refl _)] at this
        simpa [lead] using this
  case rest =>
    obtain ⟨rfl, hB0⟩ := hcut
    have ha1 := wideA_ge l i j
    have ha2 := wideA_le l hij hj
    have HB : Hid (wideB l i j = if wideA l i j < j ∧ (l.getD (j - 1) ⟨0, 0, 0, 0, false⟩).kind = 3 then j else back l (wideA l i j) j) := rfl
    obtain ⟨a, ha⟩ : ∃ a, wideA l i j = a := ⟨_, rfl⟩
    obtain ⟨z, hz⟩ : ∃ z, wideB l i j = z := ⟨_, rfl⟩
    rw [ha] at ha1 ha2 HB ⊢
    rw [hz] at HB
    have HA := hid ha
    have HZ0 := hid hz
    clear ha hz
    obtain ⟨q, hq⟩ : ∃ q : Bool, q = decide (a < j ∧ (l.getD (j - 1) ⟨0, 0, 0, 0, false⟩).kind = 3) := ⟨_, rfl⟩
    have HQ := hid hq
    clear hq
    go_upto_region 5 with fail
    go_cut [35] (fun s35 wx => s35 = .bool q ∧ wc = wx)
    case first =>
      by_cases hlt : a < j
      · obtain ⟨m, rfl⟩ : ∃ m, j = m + 1 := ⟨j - 1, by omega⟩
        obtain ⟨b, off, p, rfl, hb, hp, hr⟩ := Pcs.get (hA.below hB0) (k := m) (by omega)
        have c0 := piece_kind hr
        have hml : m < l.length := by omega
        have HP : Hid (q = decide (p.kind = 3)) := hid (by rw [HQ.out, Nat.add_sub_cancel, getD_of hp.out]; simp [hlt])
        clear hr
        by_cases h3 : p.kind = 3
        · have h3' : (p.kind == 3) = true := by simp [h3]
          have HP' : Hid (q = true) := hid (by rw [HP.out]; simp [h3])
          clear h3
          go_wp2_with fail
          go_meet
          exact ⟨by rw [HP'.out], rfl⟩
        · have h3' : (p.kind == 3) = false := by simp [h3]
          have HP' : Hid (q = false) := hid (by rw [HP.out]; simp [h3])
          clear h3
          go_wp2_with fail
          go_meet
          exact ⟨by rw [HP'.out], rfl⟩
      · have HP' : Hid (q = false) := hid (by rw [HQ.out]; simp [hlt])
        go_wp2_with fail
        go_meet
        exact ⟨by rw [HP'.out], rfl⟩
    case rest =>
      obtain ⟨rfl, rfl⟩ := hcut
      cases q
      · have HB' : Hid (z = back l a j) := hid (by rw [HB.out]; have := HQ.out; rw [eq_comm, decide_eq_false_iff_not] at this; rw [if_neg this])
        clear HB HQ
        go_wp2_with fail
        go_loopg [9] j (fun g s wr => ∃ k : Nat, g = k ∧ a ≤ k ∧ k ≤ j ∧ s = .int .i64 k ∧ Hid (back l a k = z) ∧ Below w.heap.size w wr)
        case atStart => exact ⟨j, rfl, ha2, Nat.le_refl _, rfl, HB'.out.symm, hB0⟩
        case round =>
          clear HB' hB0
          obtain ⟨k, hgk, hak, hkj, rfl, HW, hB⟩ := hrel
          obtain rfl : k = gk := hgk.symm
          clear hgk
          by_cases hlt : a < k
          · obtain ⟨m, rfl⟩ : ∃ m, k = m + 1 := ⟨k - 1, by omega⟩
            obtain ⟨b, off, p, rfl, hb, hp, hr⟩ := Pcs.get (hA.below hB) (k := m) (by omega)
            have hml : m < l.length := by omega
            obtain ⟨t, ht⟩ : ∃ t, p.thin = t := ⟨_, rfl⟩
            have HT := hid ht
            go_wp2_with (first | refine stop_load 80 _ rfl rfl ?_ | refine stop_store 80 _ _ rfl rfl ?_)
            refine ⟨?_⟩
            refine wl_load_at rfl 80 _ rfl b _ rfl p.arr _ hr rfl rfl info_rpiece ?_
            (try simp only [Act.put, List.setIfInBounds_toArray, List.set_cons_zero, List.set_cons_succ])
            go_wp2_with fail
            refine (ref_loose p _).mono ?_
            rintro e w1 ⟨rfl, hb1⟩
            rw [ht]
            clear ht
            cases t
            · have HZ : Hid (m + 1 = z) := hid (by rw [← HW.out, back_stop (by omega) hp.out HT.out])
              go_wp2_with fail
              go_ret2
              exact ⟨ret_int2 (by rw [HA.out]) (by rw [HZ0.out, ← HZ.out]; rfl), hB.trans (hb1.mono hB.size)⟩
            · go_wp2_with fail
              go_roundg m
              case rel => exact ⟨m, rfl, by omega, by omega, by go_num, by have := HW.out; rw [back_go (by omega) hp.out HT.out] at this; exact this, hB.trans (hb1.mono hB.size)⟩
              case measure => omega
          · obtain rfl : k = a := by omega
            have HZ : Hid (k = z) := hid (by rw [← HW.out, back_end])
            go_wp2_with fail
            go_ret2
            exact ⟨ret_int2 (by rw [HA.out]) (by rw [HZ0.out, ← HZ.out]), hB⟩
      · have HB' : Hid (z = j) := hid (by rw [HB.out]; have := HQ.out; rw [eq_comm, decide_eq_true_iff] at this; rw [if_pos this])
        go_wp2_with fail
        go_ret2
        exact ⟨ret_int2 (by rw [HA.out]) (by rw [HZ0.out, HB'.out]), hB0⟩
end Go.Proofs.Ytebolanengnpfaa
