/-
  The walk of First.
-/
import Derived.Test.YtebolanengnpfaaEdges
import Derived.Deep.DeepCutAuto
namespace Go.Proofs.Ytebolanengnpfaa
open Go.RowKit Num Mem
set_option linter.unusedVariables false
set_option linter.unusedSimpArgs false
namespace Num
def Ln.arr (x : Ln) : Array Value := #[.int .i64 x.from_, .int .i64 x.to, .int .i64 x.width, .int .i64 x.height]
end Num
theorem info_line : (Try.prog.info? 43).map (·.size) = some 4 := by kernel_rfl
/-- what First holds: what was there is as it was; its result's box. -/
structure Fi (t : TypeId) (w W : World) : Prop where
  below : Below w.heap.size w W
  res : Blk W w.heap.size t #[.int .i64 0, .int .i64 0, .int .i64 0, .int .i64 0]
/-- .. and the line that it makes. -/
structure Fl (t : TypeId) (w W : World) (g : Nat) (x : Ln) : Prop where
  fi : Fi t w W
  far : w.heap.size < g
  line : Blk W g t x.arr
section
variable {t : TypeId} {w W W' : World} {g : Nat} {x : Ln}
theorem Fi.on (h : Fi t w W) (hb : Below W.heap.size W W') : Fi t w W' := ⟨h.below.trans (hb.mono h.below.size), h.res.below hb h.res.lt⟩
theorem Fl.on (h : Fl t w W g x) (hb : Below W.heap.size W W') : Fl t w W' g x := ⟨h.fi.on hb, h.far, h.line.below hb h.line.lt⟩
theorem Fi.chg (h : Fi t w W) (hc : Chg g W W') (hg : w.heap.size < g) : Fi t w W' := ⟨h.below.trans (hc.below (by omega)), h.res.chg hc (by omega)⟩
theorem Fl.high (h : Fl t w W g x) (v : Int) : Fl t w (W.setCell ⟨g, 3, none⟩ (.int .i64 v)) g { x with height := v } := ⟨h.fi.chg (Chg.setCell W ⟨g, 3, none⟩ _) h.far, h.far, h.line.put 3 _⟩
theorem Fl.wide (h : Fl t w W g x) (v : Int) : Fl t w (W.setCell ⟨g, 2, none⟩ (.int .i64 v)) g { x with width := v } := ⟨h.fi.chg (Chg.setCell W ⟨g, 2, none⟩ _) h.far, h.far, h.line.put 2 _⟩
end
set_option maxRecDepth 100000 in
set_option maxHeartbeats 4000000 in
theorem lines_First (l : List Pc) (A : Option Addr) (c i : Nat) (room strut : Int) (w : World) (hi : i < l.length) (hl : l.length ≤ 1000) (hc : l.length ≤ c) (hA : Pcs w w.heap.size A l) :
    Calls Try.prog 16 #[.slice A l.length c, .int .i64 i, .int .i64 room, .int .i64 strut] w fun e w' =>
      e = .returned (.agg (first room strut l i).arr) ∧ Below w.heap.size w w' := by
  have h0 : Fi 43 w (w.alloc (.cells #[.int .i64 0, .int .i64 0, .int .i64 0, .int .i64 0] 43)) := ⟨by go_grown, Blk.new _ _ _⟩
  obtain ⟨b0, off0, p0, rfl, -, -, -⟩ := Pcs.get hA hi
  have hn : decide ((i : Int) < 0) = false := by simp
  have hn2 : decide (l.length ≤ i) = false := by simp; omega
  obtain ⟨i0, hi0⟩ : ∃ i0, i + lead (l.drop i) = i0 := ⟨_, rfl⟩
  have HI0 := hid hi0
  have hi0l : i0 ≤ l.length := by have := lead_le (l.drop i); simp at this; omega
  obtain ⟨T, hT⟩ : ∃ T, stop room l i = T := ⟨_, rfl⟩
  have HT := hid hT
  have HT1 : Hid (T = i0 + scan room (l.drop i0) 0 false) := hid (by rw [← hT, ← hi0]; rfl)
  have hTl : T ≤ l.length := by rw [← hT]; exact stop_le room l (Nat.le_of_lt hi)
  have hTi : i < T := by rw [← hT]; exact stop_gt room l hi
  have hi0i : i ≤ i0 := by omega
  clear hi0 hT
  go_enter Try.func16, Try.ntmps16
  go_wp2_with fail
  go_step3
  go_upto_block 0 with fail
  go_cut [9] (fun s9 wx => s9 = .int .i64 i0 ∧ Fi 43 w wx)
  case first =>
    go_wp2_with fail
    go_loopg [9] (l.length - i) (fun g s wr => ∃ k : Nat, g = l.length - k ∧ i ≤ k ∧ k ≤ l.length ∧ s = .int .i64 k ∧ Hid (k + lead (l.drop k) = i0) ∧ Fi 43 w wr)
    case atStart => exact ⟨i, rfl, Nat.le_refl _, Nat.le_of_lt hi, rfl, HI0, h0⟩
    case round =>
      clear h0
      obtain ⟨k, rfl, hik, hkj, rfl, HW, h⟩ := hrel
      by_cases hlt : k < l.length
      · obtain ⟨p, hb, hp, hr⟩ := Pcs.here (hA.below h.below) (k := k) (by omega)
        have HL : Hid (lead (l.drop k) = if p.thin = true then lead (l.drop (k + 1)) + 1 else 0) := hid (by
          rw [List.drop_eq_getElem_cons hlt]
          have := hp.out
          rw [List.getElem?_eq_getElem hlt] at this
          rw [Option.some.inj this, lead])
        obtain ⟨t, ht⟩ : ∃ t, p.thin = t := ⟨_, rfl⟩
        have HT := hid ht
        go_wp2_with (first | refine stop_load 36 _ rfl rfl ?_ | refine stop_store 36 _ _ rfl rfl ?_)
        refine ⟨?_⟩
        refine wl_load_at rfl 36 _ rfl _ _ rfl p.arr _ hr rfl rfl info_piece ?_
        (try simp only [Act.put, List.setIfInBounds_toArray, List.set_cons_zero, List.set_cons_succ])
        go_wp2_with fail
        refine (lines_thin p _).mono ?_
        rintro e w1 ⟨rfl, hb1⟩
        rw [ht]
        clear ht
        cases t
        · go_wp2_with fail
          go_meet
          refine ⟨int_nat ?_, h.on hb1⟩
          have := HW.out
          rw [HL.out, HT.out] at this
          simpa using this
        · go_wp2_with fail
          go_roundg (l.length - (k + 1))
          case rel => exact ⟨k + 1, rfl, by omega, by omega, by go_num, by have := HW.out; rw [HL.out, HT.out] at this; simp at this; show _ = _; omega, h.on hb1⟩
          case measure => omega
      · obtain rfl : k = l.length := by omega
        go_wp2_with fail
        go_meet
        refine ⟨int_nat ?_, h⟩
        have := HW.out
        rw [List.drop_of_length_le (Nat.le_refl _)] at this
        simpa [lead] using this
  case rest =>
    obtain ⟨rfl, h0⟩ := hcut
    go_wp2_with fail
    go_step3
    go_upto_block 2 with fail
    go_cut [9] (fun s9 wx => s9 = .int .i64 T ∧ Fi 43 w wx)
    case first =>
      go_wp2_with fail
      go_loopg [9, 10, 11] (l.length - i0) (fun g s n' m' wr => ∃ (k : Nat) (n : Int) (m : Bool), g = l.length - k ∧ i0 ≤ k ∧ k ≤ l.length ∧ s = .int .i64 k ∧ n' = .int .i64 n ∧ m' = .bool m ∧ Hid (k + scan room (l.drop k) n m = T) ∧ Fi 43 w wr)
      case atStart => exact ⟨i0, 0, false, rfl, Nat.le_refl _, hi0l, rfl, rfl, rfl, HT1.out.symm, h0⟩
      case round =>
        clear h0
        obtain ⟨k, n, m, rfl, hik, hkj, rfl, rfl, rfl, HW, h⟩ := hrel
        by_cases hlt : k < l.length
        · obtain ⟨p, hb, hp, hr⟩ := Pcs.here (hA.below h.below) (k := k) (by omega)
          have HL : Hid (scan room (l.drop k) n m = if p.kind = 3 then 1 else if p.kind = 1 ∧ m = true ∧ room < add n p.width then 0 else scan room (l.drop (k + 1)) (add n p.width) (m || p.kind == 1) + 1) := hid (by
            rw [List.drop_eq_getElem_cons hlt]
            have := hp.out
            rw [List.getElem?_eq_getElem hlt] at this
            rw [Option.some.inj this, scan])
          go_wp2_with (first | refine stop_load 36 _ rfl rfl ?_ | refine stop_store 36 _ _ rfl rfl ?_)
          refine ⟨?_⟩
          refine wl_load_at rfl 36 _ rfl _ _ rfl p.arr _ hr rfl rfl info_piece ?_
          (try simp only [Act.put, List.setIfInBounds_toArray, List.set_cons_zero, List.set_cons_succ])
          go_wp2_with (first | refine stop_load 36 _ rfl rfl ?_ | refine stop_store 36 _ _ rfl rfl ?_)
          refine ⟨?_⟩
          refine wl_store rfl 36 _ _ rfl wr.heap.size p.arr rfl rfl 36 _ (Blk.new _ _ _) rfl info_piece p.one ?_
          intro w1 hP hC
          have h1 : Fi 43 w w1 := h.on (((Below.refl _ _).alloc (Nat.le_refl _) _).trans (hC.below (Nat.le_refl _)))
          have c0 : w1.cell? ⟨wr.heap.size, 0, none⟩ = some (.int .i64 p.kind) := hP.cell 0
          have c3 : w1.cell? ⟨wr.heap.size, 3, none⟩ = some (.int .i64 p.width) := hP.cell 3
          clear hr hP hC h
          (try simp only [Act.put, List.setIfInBounds_toArray, List.set_cons_zero, List.set_cons_succ])
          obtain ⟨wd, hwd⟩ : ∃ wd, p.width = wd := ⟨_, rfl⟩
          rw [hwd] at c3 HL
          clear hwd
          obtain ⟨kd, hkd⟩ : ∃ kd, p.kind = kd := ⟨_, rfl⟩
          rw [hkd] at c0 HL
          clear hkd
          by_cases h3 : kd = 3
          · have h3' : (kd == 3) = true := by simp [h3]
            have HZ : Hid (k + 1 = T) := hid (by have := HW.out; rw [HL.out, if_pos h3] at this; exact this)
            clear h3
            go_wp2_with fail
            go_meet
            exact ⟨by rw [← HZ.out]; go_num, h1⟩
          · have h3' : (kd == 3) = false := by simp [h3]
            have HL2 : Hid (k + (if kd = 1 ∧ m = true ∧ room < add n wd then 0 else scan room (l.drop (k + 1)) (add n wd) (m || kd == 1) + 1) = T) := hid (by have := HW.out; rw [HL.out, if_neg h3] at this; exact this)
            clear h3 HL HW
            by_cases hk : kd = 1
            · have hk' : (kd == 1) = true := by simp [hk]
              cases m
              · have HZ : Hid (k + 1 + scan room (l.drop (k + 1)) (add n wd) true = T) := hid (by have := HL2.out; rw [if_neg (by simp)] at this; simp only [hk', Bool.false_or] at this; omega)
                clear hk HL2
                go_wp2_with (go_at_call 31; refine (fixed_Add _ _ _).mono ?_; rintro e w' ⟨rfl, rfl⟩)
                go_roundg (l.length - (k + 1))
                case rel => exact ⟨k + 1, _, _, rfl, by omega, by omega, by go_num, rfl, rfl, HZ, h1⟩
                case measure => omega
              · by_cases hg : room < add n wd
                · have HZ : Hid (k = T) := hid (by have := HL2.out; rw [if_pos ⟨hk, rfl, hg⟩] at this; exact this)
                  clear hk HL2
                  go_wp2_with (go_at_call 31; refine (fixed_Add _ _ _).mono ?_; rintro e w' ⟨rfl, rfl⟩)
                  go_meet
                  exact ⟨int_nat HZ.out, h1⟩
                · have HZ : Hid (k + 1 + scan room (l.drop (k + 1)) (add n wd) true = T) := hid (by have := HL2.out; rw [if_neg (fun hc => hg hc.2.2)] at this; simp only [Bool.true_or] at this; omega)
                  have hg' : decide (room < add n wd) = false := by simp; omega
                  clear hk HL2
                  go_wp2_with (go_at_call 31; refine (fixed_Add _ _ _).mono ?_; rintro e w' ⟨rfl, rfl⟩)
                  go_roundg (l.length - (k + 1))
                  case rel => exact ⟨k + 1, _, _, rfl, by omega, by omega, by go_num, rfl, rfl, HZ, h1⟩
                  case measure => omega
            · have hk' : (kd == 1) = false := by simp [hk]
              have HZ : Hid (k + 1 + scan room (l.drop (k + 1)) (add n wd) m = T) := hid (by have := HL2.out; rw [if_neg (fun hc => hk hc.1)] at this; simp only [hk', Bool.or_false] at this; omega)
              clear hk HL2
              cases m
              · go_wp2_with (go_at_call 31; refine (fixed_Add _ _ _).mono ?_; rintro e w' ⟨rfl, rfl⟩)
                go_roundg (l.length - (k + 1))
                case rel => exact ⟨k + 1, _, _, rfl, by omega, by omega, by go_num, rfl, rfl, HZ, h1⟩
                case measure => omega
              · go_wp2_with (go_at_call 31; refine (fixed_Add _ _ _).mono ?_; rintro e w' ⟨rfl, rfl⟩)
                go_roundg (l.length - (k + 1))
                case rel => exact ⟨k + 1, _, _, rfl, by omega, by omega, by go_num, rfl, rfl, HZ, h1⟩
                case measure => omega
        · obtain rfl : k = l.length := by omega
          have HZ : Hid (l.length = T) := hid (by have := HW.out; rw [List.drop_of_length_le (Nat.le_refl _)] at this; simpa [scan] using this)
          go_wp2_with fail
          go_meet
          exact ⟨int_nat HZ.out, h⟩
    case rest =>
      obtain ⟨rfl, h0⟩ := hcut
      go_wp2_with (first | refine stop_load 43 _ rfl rfl ?_ | refine stop_store 43 _ _ rfl rfl ?_)
      refine ⟨?_⟩
      refine wl_store rfl 43 _ _ rfl wc.heap.size (Ln.arr ⟨i, T, 0, strut⟩) rfl rfl 43 _ (Blk.new _ _ _) rfl info_line (by simp [Ln.arr, Value.oneCell']) ?_
      intro w1 hX hC
      have h1 : Fl 43 w w1 wc.heap.size ⟨i, T, 0, strut⟩ := ⟨h0.on (((Below.refl _ _).alloc (Nat.le_refl _) _).trans (hC.below (Nat.le_refl _))), h0.res.lt, hX⟩
      clear hX hC h0
      (try simp only [Act.put, List.setIfInBounds_toArray, List.set_cons_zero, List.set_cons_succ])
      generalize wc.heap.size = gx at *
      obtain ⟨H, hH⟩ : ∃ H, high strut (cut l i T) = H := ⟨_, rfl⟩
      have HH := hid hH
      clear hH
      go_upto_block 5 with fail
      go_cut [] (fun wx => Fl 43 w wx gx ⟨i, T, 0, H⟩)
      case first =>
        go_wp2_with fail
        go_loopg [93] (T - i) (fun g s wr => ∃ (k : Nat) (ht : Int), g = T - i - k ∧ k ≤ T - i ∧ s = .int .i64 k ∧ Hid (high ht (cut l (i + k) T) = H) ∧ Fl 43 w wr gx ⟨i, T, 0, ht⟩)
        case atStart => exact ⟨0, strut, rfl, Nat.zero_le _, rfl, HH, h1⟩
        case round =>
          clear h1
          obtain ⟨k, ht, rfl, hk, rfl, HW, h⟩ := hrel
          by_cases hlt : k < T - i
          · obtain ⟨b, off, p, hA2, hb, hp, hr⟩ := Pcs.get (hA.below h.fi.below) (k := i + k) (by omega)
            injection hA2 with hA2
            injection hA2 with e1 e2 e3
            subst e1 e2
            clear e3
            rw [show off0 + (i + k) * 57 = off0 + i * 57 + k * 57 by omega] at hr
            have HL : Hid (high (max ht p.height) (cut l (i + (k + 1)) T) = H) := hid (by
              obtain ⟨q, hq, hc⟩ := cut_cons l (i := i + k) (j := T) (by omega) hTl
              rw [hp.out] at hq
              obtain rfl := Option.some.inj hq
              have := HW.out
              rw [hc, high] at this
              exact this)
            go_wp2_with (first | refine stop_load 36 _ rfl rfl ?_ | refine stop_store 36 _ _ rfl rfl ?_)
            refine ⟨?_⟩
            refine wl_load_at rfl 36 _ rfl _ _ rfl p.arr _ hr rfl rfl info_piece ?_
            (try simp only [Act.put, List.setIfInBounds_toArray, List.set_cons_zero, List.set_cons_succ])
            go_wp2_with (first | refine stop_load 36 _ rfl rfl ?_ | refine stop_store 36 _ _ rfl rfl ?_)
            refine ⟨?_⟩
            refine wl_store rfl 36 _ _ rfl wr.heap.size p.arr rfl rfl 36 _ (Blk.new _ _ _) rfl info_piece p.one ?_
            intro w1 hP hC
            have h1 : Fl 43 w w1 gx ⟨i, T, 0, ht⟩ := h.on (((Below.refl _ _).alloc (Nat.le_refl _) _).trans (hC.below (Nat.le_refl _)))
            have c4 : w1.cell? ⟨wr.heap.size, 4, none⟩ = some (.int .i64 p.height) := hP.cell 4
            have x3 : w1.cell? ⟨gx, 3, none⟩ = some (.int .i64 ht) := h1.line.cell 3
            have f3 := h1.line.free 3
            clear hr hP hC h HW
            (try simp only [Act.put, List.setIfInBounds_toArray, List.set_cons_zero, List.set_cons_succ])
            go_wp2_with fail
            go_roundg (T - i - (k + 1))
            case rel => exact ⟨k + 1, _, rfl, by omega, by go_num, HL, h1.high _⟩
            case measure => omega
          · obtain rfl : k = T - i := by omega
            have HZ : Hid (ht = H) := hid (by have := HW.out; rw [cut_nil l (by omega)] at this; exact this)
            go_wp2_with fail
            go_meet
            rw [← HZ.out]
            exact h
      case rest =>
        replace h1 := hcut
        clear hcut
        have ha1 := wideA_ge l i T
        have ha2 := wideA_le l (Nat.le_of_lt hTi) hTl
        have ha3 := wideB_ge l (Nat.le_of_lt hTi) hTl
        have ha4 := wideB_le l i T
        go_wp2_with fail
        refine (lines_wide l _ c i T _ (Nat.le_of_lt hTi) hTl hl ((hA.below h1.fi.below).more h1.fi.below.size)).mono ?_
        rintro e w3 ⟨rfl, hb3⟩
        replace h1 := h1.on hb3
        clear hb3
        obtain ⟨a, ha⟩ : ∃ a, wideA l i T = a := ⟨_, rfl⟩
        obtain ⟨z, hz⟩ : ∃ z, wideB l i T = z := ⟨_, rfl⟩
        obtain ⟨W, hW⟩ : ∃ W, wides 0 (cut l a z) = W := ⟨_, rfl⟩
        rw [ha, hz]
        rw [ha] at ha1 ha2 ha3
        rw [hz] at ha3 ha4
        have HA := hid ha
        have HZ0 := hid hz
        have HW0 : Hid (wides 0 (cut l (a + 0) z) = W) := hid hW
        have HWW := hid hW
        clear ha hz hW
        by_cases hac : a < c
        · skip
          go_upto_block 7 with fail
          go_cut [] (fun wx => Fl 43 w wx gx ⟨i, T, W, H⟩)
          case first =>
            go_wp2_with fail
            go_loopg [116] (z - a) (fun g s wr => ∃ (k : Nat) (n : Int), g = z - a - k ∧ k ≤ z - a ∧ s = .int .i64 k ∧ Hid (wides n (cut l (a + k) z) = W) ∧ Fl 43 w wr gx ⟨i, T, n, H⟩)
            case atStart => exact ⟨0, 0, rfl, Nat.zero_le _, rfl, HW0, h1⟩
            case round =>
              clear h1
              obtain ⟨k, n, rfl, hk, rfl, HW, h⟩ := hrel
              by_cases hlt : k < z - a
              · obtain ⟨p, hb, hp, hr⟩ := Pcs.here (hA.below h.fi.below) (k := a + k) (by omega)
                rw [show off0 + (a + k) * 57 = off0 + a * 57 + k * 57 by omega] at hr
                have HL : Hid (wides (add n p.width) (cut l (a + (k + 1)) z) = W) := hid (by
                  obtain ⟨q, hq, hc⟩ := cut_cons l (i := a + k) (j := z) (by omega) (by omega)
                  rw [hp.out] at hq
                  obtain rfl := Option.some.inj hq
                  have := HW.out
                  rw [hc, wides] at this
                  exact this)
                go_wp2_with (first | refine stop_load 36 _ rfl rfl ?_ | refine stop_store 36 _ _ rfl rfl ?_)
                refine ⟨?_⟩
                refine wl_load_at rfl 36 _ rfl _ _ rfl p.arr _ hr rfl rfl info_piece ?_
                (try simp only [Act.put, List.setIfInBounds_toArray, List.set_cons_zero, List.set_cons_succ])
                go_wp2_with (first | refine stop_load 36 _ rfl rfl ?_ | refine stop_store 36 _ _ rfl rfl ?_)
                refine ⟨?_⟩
                refine wl_store rfl 36 _ _ rfl wr.heap.size p.arr rfl rfl 36 _ (Blk.new _ _ _) rfl info_piece p.one ?_
                intro w1 hP hC
                have h1 : Fl 43 w w1 gx ⟨i, T, n, H⟩ := h.on (((Below.refl _ _).alloc (Nat.le_refl _) _).trans (hC.below (Nat.le_refl _)))
                have c3 : w1.cell? ⟨wr.heap.size, 3, none⟩ = some (.int .i64 p.width) := hP.cell 3
                have x2 : w1.cell? ⟨gx, 2, none⟩ = some (.int .i64 n) := h1.line.cell 2
                have f2 := h1.line.free 2
                clear hr hP hC h HW
                (try simp only [Act.put, List.setIfInBounds_toArray, List.set_cons_zero, List.set_cons_succ])
                go_wp2_with (go_at_call 31; refine (fixed_Add _ _ _).mono ?_; rintro e w' ⟨rfl, rfl⟩)
                go_roundg (z - a - (k + 1))
                case rel => exact ⟨k + 1, _, rfl, by omega, by go_num, HL, h1.wide _⟩
                case measure => omega
              · obtain rfl : k = z - a := by omega
                have HZ : Hid (n = W) := hid (by have := HW.out; rw [cut_nil l (by omega)] at this; exact this)
                go_wp2_with fail
                go_meet
                rw [← HZ.out]
                exact h
          case rest =>
            replace h1 := hcut
            clear hcut
            go_wp2_with (first | (first | refine stop_load 43 _ rfl rfl ?_ | refine stop_store 43 _ _ rfl rfl ?_))
            refine ⟨?_⟩
            refine wl_load rfl 43 _ rfl _ rfl _ (Ln.arr ⟨i, T, W, H⟩) _ h1.line rfl rfl info_line ?_
            (try simp only [Act.put, List.setIfInBounds_toArray, List.set_cons_zero, List.set_cons_succ])
            go_wp2_with (first | (first | refine stop_load 43 _ rfl rfl ?_ | refine stop_store 43 _ _ rfl rfl ?_))
            refine ⟨?_⟩
            refine wl_store rfl 43 _ _ rfl w.heap.size (Ln.arr ⟨i, T, W, H⟩) rfl rfl 43 _ h1.fi.res rfl info_line (by simp [Ln.arr, Value.oneCell']) ?_
            intro w2 hR hC
            have hB := h1.fi.below.trans (hC.below (Nat.le_refl _))
            clear h1 hC
            (try simp only [Act.put, List.setIfInBounds_toArray, List.set_cons_zero, List.set_cons_succ])
            go_wp2_with fail
            rw [Exit.noGoto_ret]
            refine bodyPost_ret (results_row 8 43 w.heap.size rfl rfl hR _ rfl rfl info_line) rfl ⟨?_, hB⟩
            unfold first
            rw [HT.out, HA.out, HZ0.out, HH.out, HWW.out]
        · have hca : a = c := by omega
          subst hca
          go_upto_block 7 with fail
          go_cut [] (fun wx => Fl 43 w wx gx ⟨i, T, W, H⟩)
          case first =>
            go_wp2_with fail
            go_loopg [116] (z - a) (fun g s wr => ∃ (k : Nat) (n : Int), g = z - a - k ∧ k ≤ z - a ∧ s = .int .i64 k ∧ Hid (wides n (cut l (a + k) z) = W) ∧ Fl 43 w wr gx ⟨i, T, n, H⟩)
            case atStart => exact ⟨0, 0, rfl, Nat.zero_le _, rfl, HW0, h1⟩
            case round =>
              clear h1
              obtain ⟨k, n, rfl, hk, rfl, HW, h⟩ := hrel
              have hlt : ¬ k < z - a := by omega
              obtain rfl : k = z - a := by omega
              have HZ : Hid (n = W) := hid (by have := HW.out; rw [cut_nil l (by omega)] at this; exact this)
              go_wp2_with fail
              go_meet
              rw [← HZ.out]
              exact h
          case rest =>
            replace h1 := hcut
            clear hcut
            go_wp2_with (first | (first | refine stop_load 43 _ rfl rfl ?_ | refine stop_store 43 _ _ rfl rfl ?_))
            refine ⟨?_⟩
            refine wl_load rfl 43 _ rfl _ rfl _ (Ln.arr ⟨i, T, W, H⟩) _ h1.line rfl rfl info_line ?_
            (try simp only [Act.put, List.setIfInBounds_toArray, List.set_cons_zero, List.set_cons_succ])
            go_wp2_with (first | (first | refine stop_load 43 _ rfl rfl ?_ | refine stop_store 43 _ _ rfl rfl ?_))
            refine ⟨?_⟩
            refine wl_store rfl 43 _ _ rfl w.heap.size (Ln.arr ⟨i, T, W, H⟩) rfl rfl 43 _ h1.fi.res rfl info_line (by simp [Ln.arr, Value.oneCell']) ?_
            intro w2 hR hC
            have hB := h1.fi.below.trans (hC.below (Nat.le_refl _))
            clear h1 hC
            (try simp only [Act.put, List.setIfInBounds_toArray, List.set_cons_zero, List.set_cons_succ])
            go_wp2_with fail
            rw [Exit.noGoto_ret]
            refine bodyPost_ret (results_row 8 43 w.heap.size rfl rfl hR _ rfl rfl info_line) rfl ⟨?_, hB⟩
            unfold first
            rw [HT.out, HA.out, HZ0.out, HH.out, HWW.out]
end Go.Proofs.Ytebolanengnpfaa
