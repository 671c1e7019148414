/-
  the walk of the law.
-/
import Derived.Test.YtkkiefcapbddkaaGreatDoorLayM
set_option linter.all false
namespace Go.Abs
open Go.RowKit Go.Proofs Go.Proofs.YtkkiefcapbddkaaGreatDoor Mem Num
set_option maxRecDepth 100000
set_option maxHeartbeats 4000000 in
theorem ordered_walk (hQ : RunsO) (os : List Int) (A : Option Addr) (c : Nat) (ew eh : Int) (l : List Int) (B : Option Addr) (cB : Nat) (w : World) (hA : Ints w w.heap.size A os) (hBI : Ints w w.heap.size B l) (hew : ew ≤ 9223372036854775807) (heh : eh ≤ 9223372036854775807) (hl : l.length ≤ 9223372036854775807) (hi : ∀ x ∈ l, x ≤ 9223372036854775807) (hs : SpAt w) :
    Calls Tryz.prog 3 #[.slice A os.length c, .agg #[.int .i64 ew, .int .i64 eh, .slice B l.length cB]] w fun e w' => e = .returned (.bool true) ∧ Below w.heap.size w w' := by
  have kb := fun (w : World) (s : ByteArray) => Lib.run_convert_string_bytes (P := Tryz.prog) w 9 32 5 s Tryz.underlying9 Tryz.underlying32 Tryz.underlying5
  have kc := fun (w : World) (C : Array Value) (n c : Nat) => Lib.run_convert_bytes_const (P := Tryz.prog) w 32 5 C n c Tryz.underlying32 Tryz.underlying5
  have hX : Blk (w.alloc (.cells #[.int .i64 ew, .int .i64 eh, .slice B l.length cB] 25)) w.heap.size 25 #[.int .i64 ew, .int .i64 eh, .slice B l.length cB] := Blk.new _ _ _
  have hBw : Below w.heap.size w (w.alloc (.cells #[.int .i64 ew, .int .i64 eh, .slice B l.length cB] 25)) := (Below.refl _ _).alloc (Nat.le_refl _) _
  go_enter Tryz.func3, Tryz.ntmps3
  go_upto_region 1 with fail
  refine wp_forget (fun Z => Blk Z w.heap.size 25 #[.int .i64 ew, .int .i64 eh, .slice B l.length cB] ∧ Below w.heap.size w Z ∧ w.heap.size + 1 ≤ Z.heap.size) ⟨hX, hBw, by simp⟩ ?_
  clear hX hBw
  rintro w1 ⟨hX, hBw, hzw⟩
  have hs1 := hs.below hBw hs.lt
  go_wp2_with fail
  go_loopw [5, 6, 7] (fun s5 s6 s7 wr => ∃ (k : Nat) (o : ByteArray), k ≤ os.length ∧ k ≤ 20 ∧ s5 = .string o ∧ s6 = .int .i64 k ∧ s7 = .int .i64 k ∧ wr = w1 ∧ Hid (htmlAO os k = o)) (fun _ _ i _ => os.length - (Go.RowKit.intOf i).toNat)
  case atStart => exact ⟨0, ⟨#[]⟩, Nat.zero_le _, by omega, rfl, rfl, rfl, rfl, rfl⟩
  case round =>
    obtain ⟨k, o, hk, hk20, rfl, rfl, rfl, rfl, HO⟩ := hrel
    have hos := htmlAO_size os k
    rw [HO.out] at hos
    by_cases hlt : k < os.length ∧ k < 20
    · have d1 : decide ((k : Int) < (os.length : Int)) = true := decide_eq_true (by omega)
      have d2 : decide ((k : Int) < 20) = true := decide_eq_true (by omega)
      obtain ⟨b, off, x, rfl, hb, hc, HX⟩ := hA.at_ hlt.1
      have hcw : wr.cell? ⟨b, off + k, none⟩ = some (.int .i64 x) := (hBw.cell hb).trans hc
      have hg := oi_in os k
      obtain ⟨g, HG⟩ : ∃ g, Hid (-9 + x % 19 = g) := ⟨_, rfl⟩
      have HGi : Hid (oi os k = g) := by
        show oi os k = g
        unfold oi; rw [HX.out, HG.out]
      rw [HGi.out] at hg
      have HO2 : Hid (htmlAO os (k + 1) = nxtO o g) := by
        show nxtO (htmlAO os k) (oi os k) = _
        rw [HO.out, HGi.out]
      clear HO
      have hzg := ordT_size g
      obtain ⟨y1, hy1⟩ : ∃ y, o ++ (⟨#[60, 112, 32, 115, 116, 121, 108, 101, 61, 34, 111, 114, 100, 101, 114, 58]⟩ : ByteArray) = y := ⟨_, rfl⟩
      obtain ⟨y2, hy2⟩ : ∃ y, y1 ++ ordT g = y := ⟨_, rfl⟩
      obtain ⟨y3, hy3⟩ : ∃ y, y2 ++ (⟨#[34, 62, 60, 47, 112, 62]⟩ : ByteArray) = y := ⟨_, rfl⟩
      have hz1 : y1.size = o.size + 16 := by rw [← hy1, ByteArray.size_append]; rfl
      have hz2 : y2.size = y1.size + (ordT g).size := by rw [← hy2, ByteArray.size_append]
      have a1 := run_string_add_sum (P := Tryz.prog) (w := wr) o ⟨#[60, 112, 32, 115, 116, 121, 108, 101, 61, 34, 111, 114, 100, 101, 114, 58]⟩ (by show o.size + 16 ≤ _; omega)
      have a2 := run_string_add_sum (P := Tryz.prog) (w := wr) y1 (ordT g) (by omega)
      have a3 := run_string_add_sum (P := Tryz.prog) (w := wr) y2 ⟨#[34, 62, 60, 47, 112, 62]⟩ (by show y2.size + 6 ≤ _; omega)
      rw [hy1] at a1
      rw [hy2] at a2
      rw [hy3] at a3
      have HO3 : Hid (htmlAO os (k + 1) = y3) := by
        show htmlAO os (k + 1) = y3
        rw [HO2.out]; unfold nxtO kP kT; rw [hy1, hy2, hy3]
      clear HO2 hy1 hy2 hy3
      have n1 : ¬ (o.size + 16 > 9223372036854775807) := by omega
      have n2 : ¬ (y1.size + (ordT g).size > 9223372036854775807) := by omega
      have n3 : ¬ (y2.size + 6 > 9223372036854775807) := by omega
      clear hz1 hz2 hzg
      go_wp2_with (first
        | (go_at_call 8; refine (within_order _ _).mono ?_; rintro e w' ⟨rfl, rfl⟩; rw [HG.out])
        | (go_at_call 7; refine (number_order g hg.1 hg.2 _).mono ?_; rintro e w' ⟨rfl, rfl⟩))
      go_roundw
      case rel => exact ⟨k + 1, y3, by omega, by omega, rfl, by go_num, by go_num, trivial, HO3⟩
      case measure => simp [Go.RowKit.intOf]; omega
    · obtain ⟨x1, hx1⟩ : ∃ y, (⟨#[60, 100, 105, 118, 62]⟩ : ByteArray) ++ o = y := ⟨_, rfl⟩
      obtain ⟨sH, hsH⟩ : ∃ y, x1 ++ (⟨#[60, 47, 100, 105, 118, 62]⟩ : ByteArray) = y := ⟨_, rfl⟩
      have z1 : x1.size = 5 + o.size := by rw [← hx1, ByteArray.size_append]; rfl
      have HH : Hid (htmlSO os k = sH) := hidO (by unfold htmlSO kD kE; rw [HO.out, hx1, hsH])
      have kb1 := kb wr sH
      have a1 := run_string_add_sum (P := Tryz.prog) (w := wr) ⟨#[60, 100, 105, 118, 62]⟩ o (by show 5 + o.size ≤ _; omega)
      have a2 := run_string_add_sum (P := Tryz.prog) (w := wr) x1 ⟨#[60, 47, 100, 105, 118, 62]⟩ (by show x1.size + 6 ≤ _; omega)
      rw [hx1] at a1
      rw [hsH] at a2
      have n1 : ¬ (5 + o.size > 9223372036854775807) := by omega
      have n2 : ¬ (x1.size + 6 > 9223372036854775807) := by omega
      clear hx1 hsH kb
      have b1 := bytesWorld_belowO wr sH
      have hb3 : Below w.heap.size w ((Lib.bytesWorld wr 5 sH).alloc (.cells cssA 5 (95, 96))) := (hBw.trans (b1.mono (by omega))).alloc (by have := b1.size; omega) _
      have HB3 := hidO hb3
      have hX3 : Blk ((Lib.bytesWorld wr 5 sH).alloc (.cells cssA 5 (95, 96))) w.heap.size 25 #[.int .i64 ew, .int .i64 eh, .slice B l.length cB] := (hX.below b1 hX.lt).alloc _
      unfold cssA at hX3
      have c0 := (hX3.cell 0).trans (show _ = some (Value.int .i64 ew) from rfl)
      have c1 := (hX3.cell 1).trans (show _ = some (Value.int .i64 eh) from rfl)
      have c2 := (hX3.cell 2).trans (show _ = some (Value.slice B l.length cB) from rfl)
      have HE := hidO (keep_Env ew eh l B cB ((Lib.bytesWorld wr 5 sH).alloc (.cells cssA 5 (95, 96))) hew heh hl hi ((hBI.below hb3).more hb3.size))
      clear hb3 b1 hX hX3 z1
      go_wp2_with (first
        | (go_at_call 10; refine HE.out.mono ?_; rintro e w4 ⟨v, rfl, hb4, ho4⟩)
        | (go_at_call 9; refine (ordered_render hQ os hk20 hs1 HH.out hb4 ho4).mono ?_))
      all_goals
        rintro e w5 ⟨a, rfl, hb5, A2, cap2, rfl, hit⟩
        have HIT := hidO hit
        have hs5 := hs1.below hb5 hs1.lt
        have HF := hidO (fun (w' : World) (h : Below w5.heap.size w5 w') => (hBw.trans (hb5.mono (by omega))).trans (h.mono (by have := hb5.size; omega)))
        have HB5 := hidO (hBw.trans (hb5.mono (by omega)))
        have HAW := hidO (fun (w : World) (hs : SpAt w) => @awake_walk (valO [] 0 0 0 []) rfl w hs)
        clear hit kb1 a1 a2 n1 n2 HE HH HB3 hb4 ho4 c0 c1 c2 hb5 hzw kc
        go_wp2_with fail
        go_loopw [10, 11, 12] (fun s10 s11 s12 wq => ∃ (j : Nat) (last at_ : Int), j ≤ k ∧ s10 = .int .i64 last ∧ s11 = .int .i64 at_ ∧ s12 = .int .i64 j ∧ wq = w5 ∧ Hid ((j = 0 ∧ last = -10 ∧ at_ = -1) ∨ (0 < j ∧ last = (srt os k)[j - 1]!.2 ∧ at_ = (srt os k)[j - 1]!.1 - 2))) (fun _ _ i _ => k - (Go.RowKit.intOf i).toNat)
        case atStart => exact ⟨0, -10, -1, Nat.zero_le _, rfl, rfl, rfl, rfl, .inl ⟨rfl, rfl, rfl⟩⟩
        case round =>
          obtain ⟨j, last, at_, hj, rfl, rfl, rfl, rfl, HL⟩ := hrel
          by_cases hlt2 : j < k
          · obtain ⟨b, off, rfl, c1, c2, c3, c4, c5⟩ := HIT.out j hlt2
            obtain ⟨q, hq, eq⟩ := srt_mem os hlt2
            have hqo : q < os.length := by omega
            obtain ⟨b', off', x, rfl, hb', hc', HX⟩ := hA.at_ hqo
            have hcx : wr.cell? ⟨b', off' + q, none⟩ = some (.int .i64 x) := (HB5.out.cell hb').trans hc'
            have ho := oi_in os q
            obtain ⟨o2, HO2⟩ : ∃ g, Hid (-9 + x % 19 = g) := ⟨_, rfl⟩
            have HOi : Hid (oi os q = o2) := by
              show oi os q = o2
              unfold oi; rw [HX.out, HO2.out]
            rw [HOi.out] at ho
            have HL2 : Hid (¬ o2 < last ∧ (o2 = last → ¬ (q : Int) < at_)) := by
              rcases HL.out with ⟨h1, h2, h3⟩ | ⟨h1, h2, h3⟩
              · exact ⟨by omega, fun e => by omega⟩
              · have hh := srt_le os (n := k) (i := j - 1) (j := j) (by omega) hlt2
                rw [eq] at hh
                have e1 : oi os q = o2 := HOi.out
                have hh1 : ¬ oi os q < (srt os k)[j - 1]!.2 := hh.1
                have hh2 : oi os q = (srt os k)[j - 1]!.2 → ¬ (q : Int) + 2 < (srt os k)[j - 1]!.1 := hh.2
                rw [e1, ← h2] at hh1 hh2
                exact ⟨hh1, fun e => by have := hh2 e; omega⟩
            have HL3 : Hid ((j + 1 = 0 ∧ o2 = -10 ∧ (q : Int) = -1) ∨ (0 < j + 1 ∧ o2 = (srt os k)[j + 1 - 1]!.2 ∧ (q : Int) = (srt os k)[j + 1 - 1]!.1 - 2)) := by
              refine Or.inr ⟨by omega, ?_, ?_⟩
              · rw [Nat.add_sub_cancel, eq]; exact HOi.out.symm
              · rw [Nat.add_sub_cancel, eq]; show (q : Int) = (q : Int) + 2 - 2; omega
            rw [eq] at c1
            have c1 : wr.cell? ⟨b, off + j * 14 + 1, none⟩ = some (.int .i64 ((q : Int) + 2)) := c1
            clear HL HX HOi eq HIT
            have d1 : decide ((j : Int) < (k : Int)) = true := decide_eq_true (by omega)
            have d2 : decide ((q : Int) < 0) = false := decide_eq_false (by omega)
            have d3 : decide ((k : Int) ≤ (q : Int)) = false := decide_eq_false (by omega)
            have d4 : IntKind.i64.wrap ((q : Int) + 2 - 2) = (q : Int) := by rw [IntWalk.i64_in _ (by omega)]; omega
            have d5 : IntKind.i64.wrap (128 * (j : Int)) = 128 * (j : Int) := IntWalk.i64_in _ (by omega)
            have d6 : decide (o2 < last) = false := decide_eq_false HL2.out.1
            by_cases he : o2 = last
            · have d7 : (o2 == last) = true := by simpa using he
              have d8 : decide ((q : Int) < at_) = false := decide_eq_false (HL2.out.2 he)
              clear he HL2
              go_wp2_with (go_at_call 8; refine (within_order _ _).mono ?_; rintro e w' ⟨rfl, rfl⟩; rw [HO2.out])
              go_roundw
              case rel => exact ⟨j + 1, o2, q, by omega, rfl, rfl, by go_num, trivial, HL3⟩
              case measure => simp [Go.RowKit.intOf]; omega
            · have d7 : (o2 == last) = false := by simpa using he
              clear he HL2
              go_wp2_with (go_at_call 8; refine (within_order _ _).mono ?_; rintro e w' ⟨rfl, rfl⟩; rw [HO2.out])
              go_roundw
              case rel => exact ⟨j + 1, o2, q, by omega, rfl, rfl, by go_num, trivial, HL3⟩
              case measure => simp [Go.RowKit.intOf]; omega
          · have hjk : j = k := by omega
            subst hjk
            have d1 : decide ((j : Int) < (j : Int)) = false := decide_eq_false (by omega)
            clear HL HIT
            go_wp2_with (go_at_call 11; refine (HAW.out wr hs5).mono ?_)
            all_goals
              rintro e w6 ⟨rfl, hb6⟩
              go_wp2
              go_ret
              exact ⟨rfl, HF.out _ hb6⟩
end Go.Abs
