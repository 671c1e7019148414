/-
  The walk of FlexFills.
-/
import Derived.Test.YteghacdpfhohoaaFlexD
import Derived.Test.YteghacdpfhohoaaOpenItems
import Derived.Test.YteghacdpfhohoaaPlainF2
import Derived.Deep.DeepCutAuto
namespace Go.Proofs.Yteghacdpfhohoaa
open Go.RowKit Num Mem Opn
set_option linter.unusedVariables false
theorem ret_bool {a b : Bool} (h : a = b) : Ending.returned (.bool a) = .returned (.bool b) := by rw [h]
theorem small_it (l : List It) : Small ((l.take 40).map it) := by
  intro i
  simp only [List.getD_eq_getElem?_getD, List.getElem?_map]
  cases (l.take 40)[i]? with
  | none => simp [it0]
  | some x => exact ⟨few_lo _, few_hi _, few_lo _, few_hi _⟩
theorem it_ok {l : List It} (h : ∀ x ∈ l, I64 x.base ∧ I64 x.outer ∧ I64 x.grow ∧ I64 x.shrink) : ∀ x ∈ (l.take 40).map it, I64 x.grow ∧ I64 x.shrink := by
  intro x hx
  obtain ⟨y, hy, rfl⟩ := List.mem_map.1 hx
  exact (h y (List.mem_of_mem_take hy)).2.2
theorem psum_big {m : Int} {s : List Int} (h : ∀ i, 0 ≤ s.getD i 0 ∧ s.getD i 0 ≤ m) (k : Nat) : 0 ≤ psum s k ∧ psum s k ≤ m * k := by
  induction k with
  | zero => simp [psum]
  | succ k ih =>
    have := h k
    simp only [psum, Int.natCast_add, Int.mul_add]
    omega
/-- an item of a row of items. -/
theorem item_at {w : World} {B : Nat} {A : Option Addr} {l : List It} (h : Recs w B A 4 It.cells l) {k : Nat} (hk : k < l.length) :
    ∃ b off x, A = some ⟨b, off, none⟩ ∧ b < B ∧ Hid (l.getD k it0 = x) ∧ Hid (x ∈ l) ∧ w.cell? ⟨b, off + k * 4, none⟩ = some (.int .i64 x.base) ∧ w.cell? ⟨b, off + k * 4 + 1, none⟩ = some (.int .i64 x.outer) ∧ w.cell? ⟨b, off + k * 4 + 2, none⟩ = some (.int .i64 x.grow) ∧ w.cell? ⟨b, off + k * 4 + 3, none⟩ = some (.int .i64 x.shrink) := by
  obtain ⟨b, off, e, hb, hc⟩ := h (by rintro rfl; simp at hk)
  have hx : l[k]? = some l[k] := List.getElem?_eq_getElem hk
  exact ⟨b, off, l[k], e, hb, hid (by simp [List.getD_eq_getElem?_getD, hk]), hid (List.getElem_mem hk), hc k _ hx 0 _ rfl, hc k _ hx 1 _ rfl, hc k _ hx 2 _ rfl, hc k _ hx 3 _ rfl⟩
set_option maxRecDepth 100000 in
set_option maxHeartbeats 8000000 in
theorem walk_FlexFills (room : Int) (A0 : Option Addr) (l0 : List It) (c0 : Nat) (w : World) (ir : I64 room) (hr : RowI w A0 l0 c0) :
    Calls Try.prog 3 #[.int .i64 room, .slice A0 l0.length c0] w fun e w' => e = .returned (.bool true) ∧ Below w.heap.size w w' := by
  obtain ⟨hA0, hlc, hcp, hx⟩ := hr
  have hr1 := few_lo room
  have hr2 := few_hi room
  have hsm := small_it l0
  have hl40 : ((l0.take 40).map it).length ≤ 40 := by simp; omega
  go_enter Try.func3, Try.ntmps3
  go_wp2_with fail
  refine (some_items l0 A0 c0 _ (by omega) hA0 (fun x h => ⟨(hx x h).1, (hx x h).2.1⟩)).mono ?_
  rintro e w1 ⟨v, v', rfl, hb1, ho⟩
  generalize (l0.take 40).map it = l at *
  obtain ⟨A, c, rfl, hc⟩ := own_some ho
  have hA : Recs w1 w1.heap.size A 4 It.cells l := Recs.of_own it_length (by decide) ho
  clear hA0 hlc hcp hx ho
  go_wp2_with fail
  refine (small_any _ _ ir).mono ?_
  rintro e w' ⟨rfl, rfl⟩
  generalize few room = R at *
  go_wp2_with fail
  refine (flex_Sizes R l A c _ (by omega) ⟨by omega, by omega⟩ hA).mono ?_
  rintro e w2 ⟨rfl, hb2, hS⟩
  have HF := hid (sizes_full hsm hr1 hr2 hl40)
  replace hA := hA.below hb2
  have hB := hb1.trans (hb2.mono hb1.size)
  clear hb1 hb2
  generalize sizes R l = s at *
  generalize w1.heap.size = g at *
  replace hsm := hid hsm
  go_wp2_with fail
  go_loop [8, 9, 10, 11, 12, 13] (fun s8 s9 s10 s11 s12 s13 => ∃ k : Nat, k ≤ l.length ∧ s13 = .int .i64 k ∧ s8 = .int .i64 (psum s k) ∧ s9 = .int .i64 (psum (outs l) k) ∧ s10 = .int .i64 (osum l k) ∧ s11 = .bool (anyp (grws l) k) ∧ s12 = .bool (shrinksAll l k)) (fun _ _ _ _ _ i => l.length - (intOf i).toNat)
  case atStart => exact ⟨0, Nat.zero_le _, rfl, rfl, rfl, rfl, rfl, rfl⟩
  case round =>
    obtain ⟨k, hk, rfl, rfl, rfl, rfl, rfl, rfl⟩ := hrel
    have p1 := psum_big HF.out.lo k
    have p2 := psum_outs hsm.out (k := k)
    have p3 := osum_bd hsm.out (k := k)
    by_cases hlt : k < l.length
    · obtain ⟨b, off, x, rfl, hb, HG, HM, c0, c1, c2, c3⟩ := item_at hA hlt
      obtain ⟨y, hy, HY⟩ := hS.intAt (i := k) (by rw [HF.out.len]; exact hlt)
      have hxx := hsm.out k
      have hyy := HF.out.lo k
      have HOB := hid ((ob_small hsm.out k).2.2)
      rw [HG.out] at hxx
      rw [HG.out] at HOB
      rw [HY.out] at hyy
      have H1 : Hid (psum s (k + 1) = psum s k + y) := hid (by show psum s k + _ = _; rw [HY.out])
      have H2 : Hid (psum (outs l) (k + 1) = psum (outs l) k + max x.base 0) := hid (by show psum _ k + _ = _; rw [outs_get hlt]; show _ + ob l k = _; rw [HOB.out])
      have H3 : Hid (osum l (k + 1) = osum l k + x.outer) := hid (by show osum l k + _ = _; rw [HG.out])
      have H4 : Hid (anyp (grws l) (k + 1) = (anyp (grws l) k || decide (0 < x.grow))) := hid (by show (_ || _) = _; rw [show (grws l).getD k 0 = og l k from upto_get _ hlt]; unfold og; rw [HG.out])
      have H5 : Hid (shrinksAll l (k + 1) = (shrinksAll l k && decide (0 < x.shrink))) := hid (by show (_ && _) = _; rw [HG.out])
      clear HOB HY HG
      generalize psum s k = S1 at *
      generalize psum (outs l) k = B1 at *
      generalize osum l k = O1 at *
      generalize anyp (grws l) k = gr at *
      generalize shrinksAll l k = sh at *
      have d0 : decide (y < 0) = false := decide_eq_false (by omega)
      go_upto_if 45 with fail
      go_cut [14] (fun s14 wx => s14 = .int .i64 (max x.base 0) ∧ w2 = wx)
      case first =>
        by_cases h0 : x.base < 0
        · have d1 : decide (x.base < 0) = true := decide_eq_true h0
          have HZ : Hid (max x.base 0 = 0) := hid (by omega)
          go_wp2_with fail
          go_meet
          exact ⟨by rw [HZ.out], rfl⟩
        · have d1 : decide (x.base < 0) = false := decide_eq_false h0
          have HZ : Hid (max x.base 0 = x.base) := hid (by omega)
          go_wp2_with fail
          go_meet
          exact ⟨by rw [HZ.out], rfl⟩
      case rest =>
      obtain ⟨rfl, rfl⟩ := hcut
      have hm1 : 0 ≤ max x.base 0 := by omega
      have hm2 : max x.base 0 ≤ 16777215 := by omega
      generalize max x.base 0 = m at *
      cases gr <;> cases sh
      all_goals
        go_wp2_with fail
        go_round
        case rel => exact ⟨k + 1, by omega, by go_num, by rw [H1.out], by rw [H2.out], by rw [H3.out], by rw [H4.out]; simp, by rw [H5.out]; simp⟩
        case measure => simp [intOf]; omega
    · obtain rfl : k = l.length := by omega
      have HUP := hid HF.out.up
      have HDN := hid HF.out.down
      have HFI := hid HF.out.fill
      have HRE := hid HF.out.rest
      unfold growsAny at HFI HRE
      generalize psum s l.length = S1 at *
      generalize psum (outs l) l.length = B1 at *
      generalize osum l l.length = O1 at *
      generalize anyp (grws l) l.length = gr at *
      generalize shrinksAll l l.length = sh at *
      obtain ⟨fr, hfr⟩ : ∃ fr, R - B1 - O1 = fr := ⟨_, rfl⟩
      rw [hfr] at HUP HDN HFI HRE
      have w1' : IntKind.i64.wrap (R - B1) = R - B1 := IntWalk.i64_in _ (by omega)
      have w2' : IntKind.i64.wrap (R - B1 - O1) = fr := by rw [IntWalk.i64_in _ (by omega)]; exact hfr
      have hf1 : -2000000000 ≤ fr := by omega
      have hf2 : fr ≤ 2000000000 := by omega
      clear hfr
      have hpS := p1.1
      have hpS2 : S1 ≤ 1000000000000 := by omega
      clear p1 p2
      go_wp2_with fail
      clear w1' w2'
      go_loop [16] (fun s16 => ∃ k : Nat, k ≤ l.length ∧ s16 = .int .i64 k) (fun i => l.length - (intOf i).toNat)
      case atStart => exact ⟨0, Nat.zero_le _, rfl⟩
      case round =>
        obtain ⟨k, hk, rfl⟩ := hrel
        by_cases hlt : k < l.length
        · obtain ⟨b, off, x, rfl, hb, HG, HM, c0, c1, c2, c3⟩ := item_at hA hlt
          obtain ⟨y, hy, HY⟩ := hS.intAt (i := k) (by rw [HF.out.len]; exact hlt)
          have HOB := (ob_small hsm.out k).2.2
          rw [HG.out] at HOB
          have hU : 0 ≤ fr → max x.base 0 ≤ y := fun h => by have := HUP.out h k hlt; rw [HY.out] at this; omega
          have hD : fr ≤ 0 → y ≤ max x.base 0 := fun h => by have := HDN.out h k hlt; rw [HY.out] at this; omega
          have d2 : decide (0 ≤ fr) = true → decide (y < max x.base 0) = false := fun h => decide_eq_false (by have := hU (of_decide_eq_true h); omega)
          have d4 : decide (fr ≤ 0) = true → decide (max x.base 0 < y) = false := fun h => decide_eq_false (by have := hD (of_decide_eq_true h); omega)
          replace d2 := hid d2
          replace d4 := hid d4
          clear HOB hU hD HY HG
          go_upto_if 102 with fail
          go_cut [17] (fun s17 wx => s17 = .int .i64 (max x.base 0) ∧ w2 = wx)
          case first =>
            by_cases h0 : x.base < 0
            · have d1 : decide (x.base < 0) = true := decide_eq_true h0
              have HZ : Hid (max x.base 0 = 0) := hid (by omega)
              go_wp2_with fail
              go_meet
              exact ⟨by rw [HZ.out], rfl⟩
            · have d1 : decide (x.base < 0) = false := decide_eq_false h0
              have HZ : Hid (max x.base 0 = x.base) := hid (by omega)
              go_wp2_with fail
              go_meet
              exact ⟨by rw [HZ.out], rfl⟩
          case rest =>
          obtain ⟨rfl, rfl⟩ := hcut
          generalize max x.base 0 = m at *
          rcases Int.lt_trichotomy fr 0 with h0 | h0 | h0
          · have e1 : decide (0 ≤ fr) = false := decide_eq_false (by omega)
            have e3 : decide (fr ≤ 0) = true := decide_eq_true (by omega)
            have e4 := d4.out e3
            go_wp2_with fail
            go_round
            case rel => exact ⟨k + 1, by omega, by go_num⟩
            case measure => simp [intOf]; omega
          · have e1 : decide (0 ≤ fr) = true := decide_eq_true (by omega)
            have e3 : decide (fr ≤ 0) = true := decide_eq_true (by omega)
            have e2 := d2.out e1
            have e4 := d4.out e3
            subst h0
            clear HUP HDN HFI HRE d2 d4
            go_wp2_with fail
            go_round
            case rel => exact ⟨k + 1, by omega, by go_num⟩
            case measure => simp [intOf]; omega
          · have e1 : decide (0 ≤ fr) = true := decide_eq_true (by omega)
            have e3 : decide (fr ≤ 0) = false := decide_eq_false (by omega)
            have e2 := d2.out e1
            go_wp2_with fail
            go_round
            case rel => exact ⟨k + 1, by omega, by go_num⟩
            case measure => simp [intOf]; omega
        · obtain rfl : k = l.length := by omega
          clear HUP HDN HF hA hS
          obtain ⟨q, hq⟩ : ∃ q, (decide (0 < fr) && gr || decide (fr < 0) && (sh && decide (O1 ≤ R))) = q := ⟨_, rfl⟩
          have HQ := hid hq
          clear hq
          go_upto_region 33 with fail
          go_cut [141] (fun s141 wx => s141 = .bool q ∧ w2 = wx)
          case first =>
            rcases Int.lt_trichotomy fr 0 with h0 | h0 | h0
            · have e1 : decide (0 < fr) = false := decide_eq_false (by omega)
              have e3 : decide (fr < 0) = true := decide_eq_true (by omega)
              rw [e1, e3] at HQ
              simp only [Bool.false_and, Bool.false_or, Bool.true_and] at HQ
              cases sh
              · have HZ : Hid (q = false) := hid HQ.out.symm
                go_wp2_with fail
                go_meet
                exact ⟨by rw [HZ.out], rfl⟩
              · by_cases h1 : O1 ≤ R
                · have e5 : decide (O1 ≤ R) = true := decide_eq_true h1
                  have HZ : Hid (q = true) := hid (by rw [← HQ.out, e5]; rfl)
                  go_wp2_with fail
                  go_meet
                  exact ⟨by rw [HZ.out], rfl⟩
                · have e5 : decide (O1 ≤ R) = false := decide_eq_false h1
                  have HZ : Hid (q = false) := hid (by rw [← HQ.out, e5]; rfl)
                  go_wp2_with fail
                  go_meet
                  exact ⟨by rw [HZ.out], rfl⟩
            · subst h0
              have HZ : Hid (q = false) := hid (by rw [← HQ.out]; simp)
              clear HFI HRE HQ
              go_wp2_with fail
              go_meet
              exact ⟨by rw [HZ.out], rfl⟩
            · have e1 : decide (0 < fr) = true := decide_eq_true (by omega)
              have e3 : decide (fr < 0) = false := decide_eq_false (by omega)
              rw [e1, e3] at HQ
              simp only [Bool.false_and, Bool.or_false, Bool.true_and] at HQ
              cases gr
              · have HZ : Hid (q = false) := hid HQ.out.symm
                go_wp2_with fail
                go_meet
                exact ⟨by rw [HZ.out], rfl⟩
              · have HZ : Hid (q = true) := hid HQ.out.symm
                go_wp2_with fail
                go_meet
                exact ⟨by rw [HZ.out], rfl⟩
          case rest =>
          obtain ⟨rfl, rfl⟩ := hcut
          cases q
          · have HR2 : fr < 0 ∨ gr = true ∨ S1 = B1 := HRE.out
            clear HRE HFI HQ
            by_cases h0 : fr < 0
            · have e1 : decide (fr < 0) = true := decide_eq_true h0
              clear HR2
              go_wp2_with fail
              refine (known18 _).mono ?_
              rintro e w8 ⟨rfl, hb8⟩
              go_wp2_with fail
              go_ret
              exact ⟨rfl, hB.trans (hb8.mono hB.size)⟩
            · have e1 : decide (fr < 0) = false := decide_eq_false h0
              cases gr
              · have e2 : (S1 == B1) = true := by
                  rcases HR2 with h | h | h
                  · omega
                  · cases h
                  · simpa using h
                clear HR2
                go_wp2_with fail
                refine (known18 _).mono ?_
                rintro e w8 ⟨rfl, hb8⟩
                go_wp2_with fail
                go_ret
                exact ⟨rfl, hB.trans (hb8.mono hB.size)⟩
              · clear HR2
                go_wp2_with fail
                refine (known18 _).mono ?_
                rintro e w8 ⟨rfl, hb8⟩
                go_wp2_with fail
                go_ret
                exact ⟨rfl, hB.trans (hb8.mono hB.size)⟩
          · have hsum : S1 + O1 = R := HFI.out (by
              have := HQ.out
              simp only [Bool.or_eq_true, Bool.and_eq_true, decide_eq_true_eq] at this
              rcases this with h | h
              · exact .inl h
              · exact .inr h)
            have e2 : (S1 + O1 == R) = true := by simpa using hsum
            have e3 : IntKind.i64.wrap (S1 + O1) = S1 + O1 := IntWalk.i64_in _ (by omega)
            have hso1 : -9223372036854775808 ≤ S1 + O1 := by omega
            have hso2 : S1 + O1 ≤ 9223372036854775807 := by omega
            clear hsum HRE HFI HQ
            go_wp2_with fail
            refine (known18 _).mono ?_
            rintro e w8 ⟨rfl, hb8⟩
            go_wp2_with fail
            go_ret
            exact ⟨rfl, hB.trans (hb8.mono hB.size)⟩
end Go.Proofs.Yteghacdpfhohoaa
