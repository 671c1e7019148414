/-
  the walk of the law.
-/
import Derived.Test.YtkkiefcapbddkaaGreatDoorLayI
set_option linter.all false
namespace Go.Abs
open Go.RowKit Go.Proofs
set_option linter.unusedVariables false
set_option linter.unusedSectionVars false
set_option maxRecDepth 100000
theorem hid {p : Prop} (h : p) : Hid p := h
open YtkkiefcapbddkaaGreatDoor.Mem in
theorem grown_walk (gs : List Int) (A : Option Addr) (c : Nat) (width : Int) (w : World) (hA : Ints w w.heap.size A gs) (hs : SpAt w) :
    Calls Tryz.prog 4 #[.slice A gs.length c, .int .i64 width] w fun e w' => e = .returned (.bool true) ∧ Below w.heap.size w w' := by
  have kb := fun (w : World) (s : ByteArray) => Lib.run_convert_string_bytes (P := Tryz.prog) w 9 32 5 s Tryz.underlying9 Tryz.underlying32 Tryz.underlying5
  go_enter Tryz.func4, Tryz.ntmps4
  go_wp2_with fail
  go_loopw [5, 6, 7, 8] (fun s5 s6 s7 s8 wr => ∃ (k : Nat) (o : ByteArray) (q : Int), k ≤ gs.length ∧ k ≤ 12 ∧ s5 = .string o ∧ s6 = .int .i64 k ∧ s7 = .int .i64 q ∧ s8 = .int .i64 k ∧ wr = w ∧ Hid (htmlA gs k = o) ∧ Hid (sumG gs k = q)) (fun _ _ _ i _ => gs.length - (intOf i).toNat)
  case atStart => exact ⟨0, ⟨#[]⟩, 0, Nat.zero_le _, by omega, rfl, rfl, rfl, rfl, rfl, rfl, rfl⟩
  case round =>
    obtain ⟨k, o, q, hk, hk12, rfl, rfl, rfl, rfl, rfl, HO, HQ⟩ := hrel
    have hos := htmlA_size gs k
    have hqs := sumG_in gs k
    rw [HO.out] at hos
    rw [HQ.out] at hqs
    by_cases hlt : k < gs.length ∧ k < 12
    · have d1 : decide ((k : Int) < (gs.length : Int)) = true := decide_eq_true (by omega)
      have d2 : decide ((k : Int) < 12) = true := decide_eq_true (by omega)
      obtain ⟨b, off, x, rfl, hb, hc, HX⟩ := hA.at_ hlt.1
      have hg := gi_in gs k
      obtain ⟨g, HG⟩ : ∃ g, Hid (x % 10 = g) := ⟨_, rfl⟩
      have HGi : Hid (gi gs k = g) := by
        show gi gs k = g
        unfold gi; rw [HX.out, HG.out]
      rw [HGi.out] at hg
      have HO2 : Hid (htmlA gs (k + 1) = nxt o g) := by
        show nxt (htmlA gs k) (gi gs k) = _
        rw [HO.out, HGi.out]
      have HQ2 : Hid (sumG gs (k + 1) = q + g) := by
        show sumG gs k + gi gs k = _
        rw [HQ.out, HGi.out]
      clear HO HQ
      obtain ⟨y1, hy1⟩ : ∃ y, o ++ (⟨#[60, 112, 32, 115, 116, 121, 108, 101, 61, 34, 102, 108, 101, 120, 45, 103, 114, 111, 119, 58]⟩ : ByteArray) = y := ⟨_, rfl⟩
      obtain ⟨y2, hy2⟩ : ∃ y, y1 ++ dig g = y := ⟨_, rfl⟩
      obtain ⟨y3, hy3⟩ : ∃ y, y2 ++ (⟨#[34, 62, 60, 47, 112, 62]⟩ : ByteArray) = y := ⟨_, rfl⟩
      have hz1 : y1.size = o.size + 20 := by rw [← hy1, ByteArray.size_append]; rfl
      have hz2 : y2.size = y1.size + 1 := by rw [← hy2, ByteArray.size_append]; rfl
      have a1 := run_string_add_sum (P := Tryz.prog) (w := wr) o ⟨#[60, 112, 32, 115, 116, 121, 108, 101, 61, 34, 102, 108, 101, 120, 45, 103, 114, 111, 119, 58]⟩ (by show o.size + 20 ≤ _; omega)
      have a2 := run_string_add_sum (P := Tryz.prog) (w := wr) y1 (dig g) (by show y1.size + 1 ≤ _; omega)
      have a3 := run_string_add_sum (P := Tryz.prog) (w := wr) y2 ⟨#[34, 62, 60, 47, 112, 62]⟩ (by show y2.size + 6 ≤ _; omega)
      rw [hy1] at a1
      rw [hy2] at a2
      rw [hy3] at a3
      have HO3 : Hid (htmlA gs (k + 1) = y3) := by
        show htmlA gs (k + 1) = y3
        rw [HO2.out]; unfold nxt; rw [hy1, hy2, hy3]
      clear HO2 hy1 hy2 hy3
      have n1 : ¬ (o.size + 20 > 9223372036854775807) := by omega
      have n2 : ¬ (y1.size + (dig g).size > 9223372036854775807) := by show ¬ (y1.size + 1 > _); omega
      have n3 : ¬ (y2.size + 6 > 9223372036854775807) := by omega
      go_wp2_with (first
        | (go_at_call 8; refine (within_nine _ _).mono ?_; rintro e w' ⟨rfl, rfl⟩; rw [HG.out])
        | (go_at_call 7; refine (number_one g hg.1 hg.2 _).mono ?_; rintro e w' ⟨rfl, rfl⟩))
      go_roundw
      case rel => exact ⟨k + 1, y3, q + g, by omega, by omega, rfl, by go_num, rfl, by go_num, trivial, HO3, HQ2⟩
      case measure => simp [intOf]; omega
    · obtain ⟨W, HW⟩ : ∃ W, Hid (wd width = W) := ⟨_, rfl⟩
      have hW := wd_in width
      rw [HW.out] at hW
      obtain ⟨x1, hx1⟩ : ∃ y, (⟨#[60, 100, 105, 118, 62]⟩ : ByteArray) ++ o = y := ⟨_, rfl⟩
      obtain ⟨sH, hsH⟩ : ∃ y, x1 ++ (⟨#[60, 47, 100, 105, 118, 62]⟩ : ByteArray) = y := ⟨_, rfl⟩
      obtain ⟨x2, hx2⟩ : ∃ y, (⟨#[100, 105, 118, 32, 123, 32, 100, 105, 115, 112, 108, 97, 121, 58, 32, 102, 108, 101, 120, 59, 32, 119, 105, 100, 116, 104, 58, 32]⟩ : ByteArray) ++ digs W = y := ⟨_, rfl⟩
      obtain ⟨sC, hsC⟩ : ∃ y, x2 ++ (⟨#[112, 120, 32, 125, 32, 112, 32, 123, 32, 109, 97, 114, 103, 105, 110, 58, 32, 48, 59, 32, 119, 105, 100, 116, 104, 58, 32, 50, 112, 120, 59, 32, 104, 101, 105, 103, 104, 116, 58, 32, 51, 112, 120, 59, 32, 98, 97, 99, 107, 103, 114, 111, 117, 110, 100, 58, 32, 114, 101, 100, 32, 125]⟩ : ByteArray) = y := ⟨_, rfl⟩
      have hdz : (digs W).size = 3 := by unfold digs; rw [ByteArray.size_append, ByteArray.size_append]; rfl
      have z1 : x1.size = 5 + o.size := by rw [← hx1, ByteArray.size_append]; rfl
      have z2 : x2.size = 28 + 3 := by rw [← hx2, ByteArray.size_append, hdz]; rfl
      have kb2 : (convert 9 32 (.string sC)).run Tryz.prog (Lib.bytesWorld wr 5 sH) = .ok (.slice (some ⟨(Lib.bytesWorld wr 5 sH).heap.size, 0, none⟩) sC.size (grownCap (Lib.bytesWorld wr 5 sH) sC.size 0 5)) (Lib.bytesWorld (Lib.bytesWorld wr 5 sH) 5 sC) := kb _ sC
      have kb1 := kb wr sH
      have HR := hid (fun (w : World) (hs : SpAt w) => grown_render (gs := gs) (W := W) (k := k) hk12 hW.1 hW.2 hs (sH := sH) (sC := sC) (by unfold htmlS; rw [HO.out, hx1, hsH]) (by unfold cssS; rw [hx2, hsC]))
      have a1 := run_string_add_sum (P := Tryz.prog) (w := wr) ⟨#[60, 100, 105, 118, 62]⟩ o (by show 5 + o.size ≤ _; omega)
      have a2 := run_string_add_sum (P := Tryz.prog) (w := wr) x1 ⟨#[60, 47, 100, 105, 118, 62]⟩ (by show x1.size + 6 ≤ _; omega)
      have a3 := run_string_add_sum (P := Tryz.prog) (w := Lib.bytesWorld wr 5 sH) ⟨#[100, 105, 118, 32, 123, 32, 100, 105, 115, 112, 108, 97, 121, 58, 32, 102, 108, 101, 120, 59, 32, 119, 105, 100, 116, 104, 58, 32]⟩ (digs W) (by show 28 + (digs W).size ≤ _; omega)
      have a4 := run_string_add_sum (P := Tryz.prog) (w := Lib.bytesWorld wr 5 sH) x2 ⟨#[112, 120, 32, 125, 32, 112, 32, 123, 32, 109, 97, 114, 103, 105, 110, 58, 32, 48, 59, 32, 119, 105, 100, 116, 104, 58, 32, 50, 112, 120, 59, 32, 104, 101, 105, 103, 104, 116, 58, 32, 51, 112, 120, 59, 32, 98, 97, 99, 107, 103, 114, 111, 117, 110, 100, 58, 32, 114, 101, 100, 32, 125]⟩ (by show x2.size + 62 ≤ _; omega)
      rw [hx1] at a1
      rw [hsH] at a2
      rw [hx2] at a3
      rw [hsC] at a4
      clear hx1 hsH hx2 hsC kb
      have n1 : ¬ (5 + o.size > 9223372036854775807) := by omega
      have n2 : ¬ (x1.size + 6 > 9223372036854775807) := by omega
      have n3 : ¬ (28 + (digs W).size > 9223372036854775807) := by omega
      have n4 : ¬ (x2.size + 62 > 9223372036854775807) := by omega
      have haw := fun (w : World) (hs : SpAt w) => @awake_walk (valT [] 0 0) rfl w hs
      have HA := hid haw
      have HX := xsG_all gs hW.1 hW.2 hk12
      rw [HQ.out] at HX
      have HX := hid HX
      have HI := hid (fun i (hi : i ≤ k) => xsG_in gs hW.1 hW.2 hk12 i hi)
      have HJ := hid (fun i (hi : i < k) => wsG_in gs hW.1 hW.2 hk12 (i := i) hi)
      clear haw
      go_wp2_with (first
        | (go_at_call 8; refine (within_wide _ _).mono ?_; rintro e w' ⟨rfl, rfl⟩; rw [show 100 + width % 801 = W from HW.out])
        | (go_at_call 7; refine (number_three W hW.1 (by omega) _).mono ?_; rintro e w' ⟨rfl, rfl⟩)
        | (go_at_call 9; refine (HR.out wr hs).mono ?_))
      all_goals
        rintro e w2 ⟨a, rfl, hb2, A2, cap2, rfl, hit⟩
        have HIT := hid hit
        have hs2 := hs.below hb2 hs.lt
        have HF := hid (fun (w' : World) (h : Below w2.heap.size w2 w') => hb2.trans (h.mono hb2.size))
        clear hit kb1 kb2 a1 a2 a3 a4 HR HO
        go_wp2_with fail
        go_loopw [12, 13] (fun s12 s13 wq => ∃ (j : Nat) (x : Int), j ≤ k ∧ s12 = .int .i64 x ∧ s13 = .int .i64 j ∧ wq = w2 ∧ Hid (xsG gs W k j = x)) (fun _ i _ => k - (intOf i).toNat)
        case atStart => exact ⟨0, 0, Nat.zero_le _, rfl, rfl, rfl, rfl⟩
        case round =>
          obtain ⟨j, x, hj, rfl, rfl, rfl, HXJ⟩ := hrel
          have hx := HI.out j hj
          rw [HXJ.out] at hx
          by_cases hlt2 : j < k
          · obtain ⟨b, off, rfl, c1, c2, c4⟩ := HIT.out j hlt2
            have hw := HJ.out j hlt2
            obtain ⟨y, HY⟩ : ∃ y, Hid (wsG gs W k j = y) := ⟨_, rfl⟩
            rw [HXJ.out] at c2
            rw [HY.out] at c4 hw
            have HX2 : Hid (xsG gs W k (j + 1) = x + y) := by
              show xsG gs W k j + wsG gs W k j = _
              rw [HXJ.out, HY.out]
            clear HXJ HY
            have e1 : decide ((j : Int) < (k : Int)) = true := decide_eq_true (by omega)
            have e2 : (x != x) = false := by simp
            have e3 : decide (y < 128) = false := decide_eq_false (by omega)
            have e4 : ((j : Int) + 2 != (j : Int) + 2) = false := by simp
            go_wp2_with fail
            go_roundw
            case rel => exact ⟨j + 1, x + y, by omega, rfl, by go_num, trivial, HX2⟩
            case measure => simp [intOf]; omega
          · have hjk : j = k := by omega
            subst hjk
            have e1 : decide ((j : Int) < (j : Int)) = false := decide_eq_false (by omega)
            have HX3 := HX.out
            rw [HXJ.out] at HX3
            clear HX HXJ HI HJ HIT
            by_cases hj0 : j = 0
            · subst hj0
              have e5 : (((0 : Nat) : Int) == 0) = true := by simp
              clear HX3
              go_wp2_with (go_at_call 11; refine (HA.out wr hs2).mono ?_)
              all_goals
                rintro e w3 ⟨rfl, hb3⟩
                go_wp2
                go_ret
                exact ⟨rfl, HF.out _ hb3⟩
            · have e5 : ((j : Int) == 0) = false := by simp; omega
              rcases HX3 with ⟨h1, h2⟩ | ⟨h1, h2⟩
              · have e6 : (q == 0) = true := by simpa using h1
                have e7 : (x == 128 * (j : Int)) = true := by simpa using h2
                have e8 : decide (0 < q) = false := decide_eq_false (by omega)
                clear h1 h2
                go_wp2_with (go_at_call 11; refine (HA.out wr hs2).mono ?_)
                all_goals
                  rintro e w3 ⟨rfl, hb3⟩
                  go_wp2
                  go_ret
                  exact ⟨rfl, HF.out _ hb3⟩
              · have e6 : (q == 0) = false := by simp; omega
                have e7 : (x == 64 * W) = true := by simpa using h2
                have e8 : decide (0 < q) = true := decide_eq_true h1
                clear h1 h2
                go_wp2_with (go_at_call 11; refine (HA.out wr hs2).mono ?_)
                all_goals
                  rintro e w3 ⟨rfl, hb3⟩
                  go_wp2
                  go_ret
                  exact ⟨rfl, HF.out _ hb3⟩
end Go.Abs
