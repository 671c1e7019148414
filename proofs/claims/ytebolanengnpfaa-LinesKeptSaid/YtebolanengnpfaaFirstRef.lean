/-
  The walk of the reference's First.
-/
import Derived.Test.YtebolanengnpfaaFirst
namespace Go.Proofs.Ytebolanengnpfaa
open Go.RowKit Num Mem
set_option linter.unusedVariables false
set_option linter.unusedSimpArgs false
theorem info_rline : (Try.prog.info? 45).map (·.size) = some 4 := by kernel_rfl
theorem ref_add_still (a b : Int) (w : World) : Calls Try.prog 34 #[.int .i64 a, .int .i64 b] w fun e w' => e = .returned (.int .i64 (add a b)) ∧ w' = w := (ref_Add a b w).mono fun _ _ ⟨h, h'⟩ => ⟨h, h'.symm⟩
set_option maxRecDepth 100000 in
set_option maxHeartbeats 4000000 in
theorem ref_First (l : List Pc) (A : Option Addr) (c i : Nat) (room strut : Int) (w : World) (hi : i < l.length) (hl : l.length ≤ 1000) (hc : l.length ≤ c) (hA : Pcs w w.heap.size A l) :
    Calls Try.prog 17 #[.slice A l.length c, .int .i64 i, .int .i64 room, .int .i64 strut] w fun e w' =>
      e = .returned (.agg (first room strut l i).arr) ∧ Below w.heap.size w w' := by
  have h0 : Fi 45 w (w.alloc (.cells #[.int .i64 0, .int .i64 0, .int .i64 0, .int .i64 0] 45)) := ⟨by go_grown, Blk.new _ _ _⟩
  obtain ⟨b0, off0, p0, rfl, -, -, -⟩ := Pcs.get hA hi
  have hn : decide ((i : Int) < 0) = false := by simp
  have hn2 : decide (l.length ≤ i) = false := by simp; omega
  obtain ⟨i0, hi0⟩ : ∃ i0, i + lead (l.drop i) = i0 := ⟨_, rfl⟩
  have HI0 := hid hi0
  have hi0l : i0 ≤ l.length := by have := lead_le (l.drop i); simp at this; omega
  obtain ⟨T, hT⟩ : ∃ T, stop room l i = T := ⟨_, rfl⟩
  have HT := hid hT
  have HT1 : Hid (T = i0 + scan room (l.drop i0) 0 false) := hid (by rw [← hT, ← hi0]; rfl)
  have hTl : T ≤ l.length := by rw [← hT]; exact stop_le room l (Nat.le_of_lt hi)
  have hTi : i < T := by rw [← hT]; exact stop_gt room l hi
  have hi0i : i ≤ i0 := by omega
  clear hi0 hT
  go_enter Try.func17, Try.ntmps17
  go_upto_block 0 with fail
  go_cut [9] (fun s9 wx => s9 = .int .i64 i0 ∧ Fi 45 w wx)
  case first =>
    go_wp2_with fail
    go_loopg [9] (l.length - i) (fun g s wr => ∃ k : Nat, g = l.length - k ∧ i ≤ k ∧ k ≤ l.length ∧ s = .int .i64 k ∧ Hid (k + lead (l.drop k) = i0) ∧ Fi 45 w wr)
    case atStart => exact ⟨i, rfl, Nat.le_refl _, Nat.le_of_lt hi, rfl, HI0, h0⟩
    case round =>
      clear h0
      obtain ⟨k, rfl, hik, hkj, rfl, HW, h⟩ := hrel
      by_cases hlt : k < l.length
      · obtain ⟨p, hb, hp, hr⟩ := Pcs.here (hA.below h.below) (k := k) (by omega)
        have HL : Hid (lead (l.drop k) = if p.thin = true then lead (l.drop (k + 1)) + 1 else 0) := hid (by
          rw [List.drop_eq_getElem_cons hlt]
          have := hp.out
          rw [List.getElem?_eq_getElem hlt] at this
          rw [Option.some.inj this, lead])
        obtain ⟨t, ht⟩ : ∃ t, p.thin = t := ⟨_, rfl⟩
        have HT := hid ht
        go_wp2_with (first | refine stop_load 80 _ rfl rfl ?_ | refine stop_store 80 _ _ rfl rfl ?_)
        refine ⟨?_⟩
        refine wl_load_at rfl 80 _ rfl _ _ rfl p.arr _ hr rfl rfl info_rpiece ?_
        (try simp only [Act.put, List.setIfInBounds_toArray, List.set_cons_zero, List.set_cons_succ])
        go_wp2_with fail
        refine (ref_loose p _).mono ?_
        rintro e w1 ⟨rfl, hb1⟩
        rw [ht]
        clear ht
        cases t
        · go_wp2_with fail
          go_meet
          refine ⟨int_nat ?_, h.on hb1⟩
          have := HW.out
          rw [HL.out, HT.out] at this
          simpa using this
        · go_wp2_with fail
          go_roundg (l.length - (k + 1))
          case rel => exact ⟨k + 1, rfl, by omega, by omega, by go_num, by have := HW.out; rw [HL.out, HT.out] at this; simp at this; show _ = _; omega, h.on hb1⟩
          case measure => omega
      · obtain rfl : k = l.length := by omega
        go_wp2_with fail
        go_meet
        refine ⟨int_nat ?_, h⟩
        have := HW.out
        rw [List.drop_of_length_le (Nat.le_refl _)] at this
        simpa [lead] using this
  case rest =>
    obtain ⟨rfl, h0⟩ := hcut
    go_upto_block 2 with fail
    go_cut [9] (fun s9 wx => s9 = .int .i64 T ∧ Fi 45 w wx)
    case first =>
      go_wp2_with fail
      go_loopg [9, 10, 11] (l.length - i0) (fun g s n' m' wr => ∃ (k : Nat) (n : Int) (v : Nat), g = l.length - k ∧ i0 ≤ k ∧ k ≤ l.length ∧ v ≤ k ∧ s = .int .i64 k ∧ n' = .int .i64 n ∧ m' = .int .i64 v ∧ Hid (k + scan room (l.drop k) n (decide (0 < v)) = T) ∧ Fi 45 w wr)
      case atStart => exact ⟨i0, 0, 0, rfl, Nat.le_refl _, hi0l, Nat.zero_le _, rfl, rfl, rfl, HT1.out.symm, h0⟩
      case round =>
        clear h0
        obtain ⟨k, n, v, rfl, hik, hkj, hv, rfl, rfl, rfl, HW, h⟩ := hrel
        by_cases hlt : k < l.length
        · obtain ⟨p, hb, hp, hr⟩ := Pcs.here (hA.below h.below) (k := k) (by omega)
          have HL : Hid (scan room (l.drop k) n (decide (0 < v)) = if p.kind = 3 then 1 else if p.kind = 1 ∧ decide (0 < v) = true ∧ room < add n p.width then 0 else scan room (l.drop (k + 1)) (add n p.width) (decide (0 < v) || p.kind == 1) + 1) := hid (by
            rw [List.drop_eq_getElem_cons hlt]
            have := hp.out
            rw [List.getElem?_eq_getElem hlt] at this
            rw [Option.some.inj this, scan])
          go_wp2_with (first | refine stop_load 80 _ rfl rfl ?_ | refine stop_store 80 _ _ rfl rfl ?_)
          refine ⟨?_⟩
          refine wl_load_at rfl 80 _ rfl _ _ rfl p.arr _ hr rfl rfl info_rpiece ?_
          (try simp only [Act.put, List.setIfInBounds_toArray, List.set_cons_zero, List.set_cons_succ])
          go_wp2_with (first | refine stop_load 80 _ rfl rfl ?_ | refine stop_store 80 _ _ rfl rfl ?_)
          refine ⟨?_⟩
          refine wl_store rfl 80 _ _ rfl wr.heap.size p.arr rfl rfl 80 _ (Blk.new _ _ _) rfl info_rpiece p.one ?_
          intro w1 hP hC
          have h1 : Fi 45 w w1 := h.on (((Below.refl _ _).alloc (Nat.le_refl _) _).trans (hC.below (Nat.le_refl _)))
          have c0 : w1.cell? ⟨wr.heap.size, 0, none⟩ = some (.int .i64 p.kind) := hP.cell 0
          have c3 : w1.cell? ⟨wr.heap.size, 3, none⟩ = some (.int .i64 p.width) := hP.cell 3
          clear hr hP hC h
          (try simp only [Act.put, List.setIfInBounds_toArray, List.set_cons_zero, List.set_cons_succ])
          obtain ⟨wd, hwd⟩ : ∃ wd, p.width = wd := ⟨_, rfl⟩
          rw [hwd] at c3 HL
          clear hwd
          obtain ⟨kd, hkd⟩ : ∃ kd, p.kind = kd := ⟨_, rfl⟩
          rw [hkd] at c0 HL
          clear hkd
          by_cases h3 : kd = 3
          · have h3' : (kd == 3) = true := by simp [h3]
            have HZ : Hid (k + 1 = T) := hid (by have := HW.out; rw [HL.out, if_pos h3] at this; exact this)
            clear h3
            go_wp2_with fail
            go_meet
            exact ⟨by rw [← HZ.out]; go_num, h1⟩
          · have h3' : (kd == 3) = false := by simp [h3]
            have HL2 : Hid (k + (if kd = 1 ∧ decide (0 < v) = true ∧ room < add n wd then 0 else scan room (l.drop (k + 1)) (add n wd) (decide (0 < v) || kd == 1) + 1) = T) := hid (by have := HW.out; rw [HL.out, if_neg h3] at this; exact this)
            clear h3 HL HW
            by_cases hk : kd = 1
            · have hk' : (kd == 1) = true := by simp [hk]
              have hv1 : decide (0 < v + 1) = true := by simp
              rcases Nat.eq_zero_or_pos v with h0 | h0
              · subst h0
                have HZ : Hid (k + 1 + scan room (l.drop (k + 1)) (add n wd) (decide (0 < 0 + 1)) = T) := hid (by have := HL2.out; rw [if_neg (by simp)] at this; simp [hk'] at this ⊢; omega)
                clear hk HL2 hv1
                go_wp2_with (go_at_call 34; refine (ref_Add _ _ _).mono ?_; rintro e w' ⟨rfl, rfl⟩)
                go_roundg (l.length - (k + 1))
                case rel => exact ⟨k + 1, _, 0 + 1, rfl, by omega, by omega, by omega, by go_num, rfl, by go_num, HZ, h1⟩
                case measure => omega
              · have hv' : decide (0 < v) = true := by simp; omega
                have hv2 : decide ((0 : Int) < v) = true := by simp; omega
                by_cases hg : room < add n wd
                · have HZ : Hid (k = T) := hid (by have := HL2.out; rw [if_pos ⟨hk, hv', hg⟩] at this; exact this)
                  clear hk HL2 hv'
                  go_wp2_with (go_at_call 34; refine (ref_Add _ _ _).mono ?_; rintro e w' ⟨rfl, rfl⟩)
                  go_meet
                  exact ⟨int_nat HZ.out, h1⟩
                · have HZ : Hid (k + 1 + scan room (l.drop (k + 1)) (add n wd) (decide (0 < v + 1)) = T) := hid (by have := HL2.out; rw [if_neg (fun hc => hg hc.2.2)] at this; simp [hv'] at this ⊢; omega)
                  have hg' : decide (room < add n wd) = false := by simp; omega
                  clear hk HL2 hv'
                  go_wp2_with (go_at_call 34; refine (ref_Add _ _ _).mono ?_; rintro e w' ⟨rfl, rfl⟩)
                  go_roundg (l.length - (k + 1))
                  case rel => exact ⟨k + 1, _, v + 1, rfl, by omega, by omega, by omega, by go_num, rfl, by go_num, HZ, h1⟩
                  case measure => omega
            · have hk' : (kd == 1) = false := by simp [hk]
              have HZ : Hid (k + 1 + scan room (l.drop (k + 1)) (add n wd) (decide (0 < v)) = T) := hid (by have := HL2.out; rw [if_neg (fun hc => hk hc.1)] at this; simp only [hk', Bool.or_false] at this; omega)
              clear hk HL2
              go_wp2_with (go_at_call 34; refine (ref_Add _ _ _).mono ?_; rintro e w' ⟨rfl, rfl⟩)
              go_roundg (l.length - (k + 1))
              case rel => exact ⟨k + 1, _, v, rfl, by omega, by omega, by omega, by go_num, rfl, rfl, HZ, h1⟩
              case measure => omega
        · obtain rfl : k = l.length := by omega
          have HZ : Hid (l.length = T) := hid (by have := HW.out; rw [List.drop_of_length_le (Nat.le_refl _)] at this; simpa [scan] using this)
          go_wp2_with fail
          go_meet
          exact ⟨int_nat HZ.out, h⟩
    case rest =>
      obtain ⟨rfl, h0⟩ := hcut
      have ha1 := wideA_ge l i T
      have ha2 := wideA_le l (Nat.le_of_lt hTi) hTl
      have ha3 := wideB_ge l (Nat.le_of_lt hTi) hTl
      have ha4 := wideB_le l i T
      go_wp2_with fail
      refine (ref_edges l _ c i T _ (Nat.le_of_lt hTi) hTl hl ((hA.below h0.below).more h0.below.size)).mono ?_
      rintro e w3 ⟨rfl, hb3⟩
      replace h0 := h0.on hb3
      clear hb3
      obtain ⟨a, ha⟩ : ∃ a, wideA l i T = a := ⟨_, rfl⟩
      obtain ⟨z, hz⟩ : ∃ z, wideB l i T = z := ⟨_, rfl⟩
      obtain ⟨W, hW⟩ : ∃ W, wides 0 (cut l a z) = W := ⟨_, rfl⟩
      obtain ⟨H, hH⟩ : ∃ H, high strut (cut l i T) = H := ⟨_, rfl⟩
      rw [ha, hz]
      rw [ha] at ha1 ha2 ha3
      rw [hz] at ha3 ha4
      have HA := hid ha
      have HZ0 := hid hz
      have HWW := hid hW
      have HH := hid hH
      clear ha hz hW hH
      go_wp2_with (first | (first | refine stop_load 45 _ rfl rfl ?_ | refine stop_store 45 _ _ rfl rfl ?_))
      refine ⟨?_⟩
      refine wl_store rfl 45 _ _ rfl w3.heap.size (Ln.arr ⟨i, T, 0, strut⟩) rfl rfl 45 _ (Blk.new _ _ _) rfl info_rline (by simp [Ln.arr, Value.oneCell']) ?_
      intro w1 hX hC
      have h1 : Fl 45 w w1 w3.heap.size ⟨i, T, 0, strut⟩ := ⟨h0.on (((Below.refl _ _).alloc (Nat.le_refl _) _).trans (hC.below (Nat.le_refl _))), h0.res.lt, hX⟩
      clear hX hC h0
      (try simp only [Act.put, List.setIfInBounds_toArray, List.set_cons_zero, List.set_cons_succ])
      generalize w3.heap.size = gx at *
      go_upto_block 4 with fail
      go_cut [] (fun wx => Fl 45 w wx gx ⟨i, T, W, H⟩)
      case first =>
        go_wp2_with fail
        go_loopg [17] (T - i) (fun g s wr => ∃ (k : Nat) (n ht : Int), g = T - k ∧ i ≤ k ∧ k ≤ T ∧ s = .int .i64 k ∧ Hid (wides n (cut l (max a k) z) = W) ∧ Hid (high ht (cut l k T) = H) ∧ Fl 45 w wr gx ⟨i, T, n, ht⟩)
        case atStart => exact ⟨i, 0, strut, rfl, Nat.le_refl _, Nat.le_of_lt hTi, rfl, by rw [Nat.max_eq_left ha1]; exact HWW, HH, h1⟩
        case round =>
          clear h1
          obtain ⟨k, n, ht, rfl, hik, hk, rfl, HW, HG, h⟩ := hrel
          by_cases hlt : k < T
          · obtain ⟨p, hb, hp, hr⟩ := Pcs.here (hA.below h.fi.below) (k := k) (by omega)
            have hkl : k < l.length := by omega
            have q3 := piece_width hr
            clear hr
            have HG2 : Hid (high (max ht p.height) (cut l (k + 1) T) = H) := hid (by
              obtain ⟨q, hq, hc⟩ := cut_cons l (i := k) (j := T) (by omega) hTl
              rw [hp.out] at hq
              obtain rfl := Option.some.inj hq
              have := HG.out
              rw [hc, high] at this
              exact this)
            obtain ⟨n', hn'⟩ : ∃ n', (if a ≤ k ∧ k < z then add n p.width else n) = n' := ⟨_, rfl⟩
            have HN := hid hn'
            have HW2 : Hid (wides n' (cut l (max a (k + 1)) z) = W) := hid (by
              have := HW.out
              rw [← hn']
              by_cases h1 : a ≤ k
              · rw [Nat.max_eq_right h1] at this
                rw [Nat.max_eq_right (by omega)]
                by_cases h2 : k < z
                · rw [if_pos ⟨h1, h2⟩]
                  obtain ⟨q, hq, hc⟩ := cut_cons l (i := k) (j := z) h2 (by omega)
                  rw [hp.out] at hq
                  obtain rfl := Option.some.inj hq
                  rw [hc, wides] at this
                  exact this
                · rw [if_neg (fun hc => h2 hc.2), cut_nil l (by omega)]
                  rw [cut_nil l (by omega)] at this
                  exact this
              · rw [if_neg (fun hc => h1 hc.1), Nat.max_eq_left (by omega)]
                rw [Nat.max_eq_left (by omega)] at this
                exact this)
            clear hn' HG HW
            go_upto_region 23 with fail
            obtain ⟨q, hq⟩ : ∃ q, (decide (a ≤ k) && decide (k < z)) = q := ⟨_, rfl⟩
            have HQ := hid hq
            clear hq
            go_cut [97] (fun s97 wx => s97 = .bool q ∧ wr = wx)
            case first =>
              by_cases h1 : a ≤ k
              · have g1 : decide (a ≤ k) = true := by simpa using h1
                by_cases h2 : k < z
                · have g2 : decide (k < z) = true := by simpa using h2
                  have HQ2 : Hid (q = true) := hid (by rw [← HQ.out, g1, g2]; rfl)
                  go_wp2_with fail
                  go_meet
                  exact ⟨by rw [HQ2.out], rfl⟩
                · have g2 : decide (k < z) = false := by simpa using h2
                  have HQ2 : Hid (q = false) := hid (by rw [← HQ.out, g1, g2]; rfl)
                  go_wp2_with fail
                  go_meet
                  exact ⟨by rw [HQ2.out], rfl⟩
              · have g1 : decide (a ≤ k) = false := by simpa using h1
                have HQ2 : Hid (q = false) := hid (by rw [← HQ.out, g1]; rfl)
                go_wp2_with fail
                go_meet
                exact ⟨by rw [HQ2.out], rfl⟩
            case rest =>
            obtain ⟨rfl, rfl⟩ := hcut
            go_upto_if 97 with fail
            go_cut [] (fun wx => Fl 45 w wx gx ⟨i, T, n', ht⟩)
            case first =>
              have x2 : (wr.drew).cell? ⟨gx, 2, none⟩ = some (.int .i64 n) := h.line.cell 2
              have f2 : (wr.drew).frozen? ⟨gx, 2, none⟩ = false := h.line.free 2
              have q3' : (wr.drew).cell? ⟨b0, off0 + k * 57 + 3, none⟩ = some (.int .i64 p.width) := q3
              cases q
              · have HN2 : Hid (n = n') := hid (by
                  have := HQ.out
                  rw [← HN.out, if_neg]
                  rintro ⟨h1, h2⟩
                  simp [h1, h2] at this)
                go_wp2_with fail
                go_meet
                rw [← HN2.out]
                exact h
              · have HN2 : Hid (add n p.width = n') := hid (by
                  have := HQ.out
                  simp at this
                  rw [← HN.out, if_pos this])
                go_wp2_with fail
                refine region_tail 9 (by kernel_rfl) (by kernel_rfl) ?_
                simp only [List.take_succ_cons, List.take_zero, List.drop_succ_cons, List.drop_zero]
                repeat (first | still_step | still_call (ref_add_still _ _ _))
                refine wpStill_nil ?_
                go_wp2_with fail
                go_meet
                rw [← HN2.out]
                exact (h.wide _).on (by go_grown)
            case rest =>
              clear h q3
              replace h := hcut
              clear hcut
              obtain ⟨p', hb', hp', hr⟩ := Pcs.here (hA.below h.fi.below) (k := k) (by omega)
              obtain rfl : p = p' := Option.some.inj (hp.out.symm.trans hp'.out)
              have q4 := piece_height hr
              have x3 : wc.cell? ⟨gx, 3, none⟩ = some (.int .i64 ht) := h.line.cell 3
              have f3 := h.line.free 3
              clear hr hp'
              by_cases hgt : ht < p.height
              · have hg' : decide (ht < p.height) = true := by simpa using hgt
                have HM : Hid (max ht p.height = p.height) := hid (by omega)
                go_wp2_with fail
                go_quiet (fail)
                go_wp2_with fail
                go_roundg (T - (k + 1))
                case rel => exact ⟨k + 1, n', p.height, rfl, by omega, by omega, by go_num, HW2, hid (by have := HG2.out; rw [HM.out] at this; exact this), (h.on (belowN (Below.refl _ _) _)).high _⟩
                case measure => omega
              · have hg' : decide (ht < p.height) = false := by simpa using hgt
                have HM : Hid (max ht p.height = ht) := hid (by omega)
                go_wp2_with fail
                go_quiet (fail)
                go_wp2_with fail
                go_roundg (T - (k + 1))
                case rel => exact ⟨k + 1, n', ht, rfl, by omega, by omega, by go_num, HW2, hid (by have := HG2.out; rw [HM.out] at this; exact this), h.on (belowN (Below.refl _ _) _)⟩
                case measure => omega
          · obtain rfl : k = T := by omega
            have HZ : Hid (n = W) := hid (by have := HW.out; rw [cut_nil l (by omega)] at this; exact this)
            have HZ2 : Hid (ht = H) := hid (by have := HG.out; rw [cut_nil l (by omega)] at this; exact this)
            go_wp2_with fail
            go_meet
            rw [← HZ.out, ← HZ2.out]
            exact h
      case rest =>
        replace h1 := hcut
        clear hcut
        go_wp2_with (first | (first | refine stop_load 45 _ rfl rfl ?_ | refine stop_store 45 _ _ rfl rfl ?_))
        refine ⟨?_⟩
        refine wl_load rfl 45 _ rfl _ rfl _ (Ln.arr ⟨i, T, W, H⟩) _ h1.line rfl rfl info_rline ?_
        (try simp only [Act.put, List.setIfInBounds_toArray, List.set_cons_zero, List.set_cons_succ])
        go_wp2_with (first | (first | refine stop_load 45 _ rfl rfl ?_ | refine stop_store 45 _ _ rfl rfl ?_))
        refine ⟨?_⟩
        refine wl_store rfl 45 _ _ rfl w.heap.size (Ln.arr ⟨i, T, W, H⟩) rfl rfl 45 _ h1.fi.res rfl info_rline (by simp [Ln.arr, Value.oneCell']) ?_
        intro w2 hR hC
        have hB := h1.fi.below.trans (hC.below (Nat.le_refl _))
        clear h1 hC
        (try simp only [Act.put, List.setIfInBounds_toArray, List.set_cons_zero, List.set_cons_succ])
        go_wp2_with fail
        refine bodyPost_ret (results_row 8 45 w.heap.size rfl rfl hR _ rfl rfl info_rline) rfl ⟨?_, hB⟩
        unfold first
        rw [HT.out, HA.out, HZ0.out, HH.out, HWW.out]
set_option maxRecDepth 100000 in
set_option maxHeartbeats 1000000 in
theorem lines_First_none (n : Nat) (A : Option Addr) (c : Nat) (i : Int) (room strut : Int) (w : World) (hi : i < 0 ∨ (n : Int) ≤ i) :
    Calls Try.prog 16 #[.slice A n c, .int .i64 i, .int .i64 room, .int .i64 strut] w fun e w' =>
      e = .returned (.agg (Ln.arr ⟨0, 0, 0, 0⟩)) ∧ Below w.heap.size w w' := by
  have hZ : Blk (w.alloc (.cells #[.int .i64 0, .int .i64 0, .int .i64 0, .int .i64 0] 43)) w.heap.size 43 (Ln.arr ⟨0, 0, 0, 0⟩) := Blk.new _ _ _
  have hB : Below w.heap.size w (w.alloc (.cells #[.int .i64 0, .int .i64 0, .int .i64 0, .int .i64 0] 43)) := by go_grown
  by_cases h1 : i < 0
  · have g1 : decide (i < 0) = true := by simpa using h1
    go_enter Try.func16, Try.ntmps16
    go_wp2_with fail
    go_step3
    go_wp2_with fail
    rw [Exit.noGoto_ret]
    refine bodyPost_ret (results_row 8 43 w.heap.size rfl rfl hZ _ rfl rfl info_line) rfl ⟨rfl, hB⟩
  · have g1 : decide (i < 0) = false := by simpa using h1
    have h2 : (n : Int) ≤ i := by omega
    go_enter Try.func16, Try.ntmps16
    go_wp2_with fail
    go_step3
    go_wp2_with fail
    rw [Exit.noGoto_ret]
    refine bodyPost_ret (results_row 8 43 w.heap.size rfl rfl hZ _ rfl rfl info_line) rfl ⟨rfl, hB⟩
set_option maxRecDepth 100000 in
set_option maxHeartbeats 1000000 in
theorem ref_First_none (n : Nat) (A : Option Addr) (c : Nat) (i : Int) (room strut : Int) (w : World) (hi : i < 0 ∨ (n : Int) ≤ i) :
    Calls Try.prog 17 #[.slice A n c, .int .i64 i, .int .i64 room, .int .i64 strut] w fun e w' =>
      e = .returned (.agg (Ln.arr ⟨0, 0, 0, 0⟩)) ∧ Below w.heap.size w w' := by
  have hZ : Blk (w.alloc (.cells #[.int .i64 0, .int .i64 0, .int .i64 0, .int .i64 0] 45)) w.heap.size 45 (Ln.arr ⟨0, 0, 0, 0⟩) := Blk.new _ _ _
  have hB : Below w.heap.size w (w.alloc (.cells #[.int .i64 0, .int .i64 0, .int .i64 0, .int .i64 0] 45)) := by go_grown
  by_cases h1 : i < 0
  · have g1 : decide (i < 0) = true := by simpa using h1
    go_enter Try.func17, Try.ntmps17
    go_wp2_with fail
    refine bodyPost_ret (results_row 8 45 w.heap.size rfl rfl hZ _ rfl rfl info_rline) rfl ⟨rfl, hB⟩
  · have g1 : decide (i < 0) = false := by simpa using h1
    have h2 : (n : Int) ≤ i := by omega
    go_enter Try.func17, Try.ntmps17
    go_wp2_with fail
    refine bodyPost_ret (results_row 8 45 w.heap.size rfl rfl hZ _ rfl rfl info_rline) rfl ⟨rfl, hB⟩
end Go.Proofs.Ytebolanengnpfaa
