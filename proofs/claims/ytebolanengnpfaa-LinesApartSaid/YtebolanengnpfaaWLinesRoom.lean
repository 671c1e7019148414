/-
  The walk of LinesRoom.
-/
import Derived.Test.YtebolanengnpfaaKnown15
namespace Go.Proofs.Ytebolanengnpfaa
open Go.RowKit Num Mem Opn
set_option linter.unusedVariables false
namespace Num
theorem wc_zero {s : List Pc} (h : wc s = 0) : ∀ p ∈ s, p.kind ≠ 1 := by
  induction s with
  | nil => simp
  | cons q t ih =>
    intro p hp
    simp only [wc] at h
    rcases List.mem_cons.1 hp with rfl | hp
    · intro hk; rw [if_pos hk] at h; omega
    · exact ih (by omega) p hp
theorem wc_le (s : List Pc) : wc s ≤ s.length := by
  induction s with
  | nil => simp [wc]
  | cons q t ih => simp only [wc, List.length_cons]; split <;> omega
/-- pieces that are good so far. -/
def GoodPc (p : Pc) : Prop := p.kind ≠ 3 ∧ (p.kind = 1 → 1 ≤ p.width)
theorem room_none {room strut : Int} {P : List Pc} (h : 0 < P.length) (hg : ∀ p ∈ P, GoodPc p) (hw : wc P = 0) : lns room strut P = [first room strut P 0] := by
  refine lns_one h (stop_all (Nat.zero_le _) (fun j => scan_blank _ (fun p hp => ?_)))
  have := List.mem_of_mem_drop hp
  exact ⟨(hg p this).1, wc_zero hw p this⟩
theorem room_all {strut : Int} {P : List Pc} (h : 0 < P.length) (h80 : P.length ≤ 80) (hg : ∀ p ∈ P, GoodPc p) (hw : Wide24 P) : stop 1099511627776 P 0 = P.length ∧ lns 1099511627776 strut P = [first 1099511627776 strut P 0] := by
  have hs : stop 1099511627776 P 0 = P.length := stop_all (Nat.zero_le _) (fun j => scan_all _ (Int.le_refl 0) (hw.drop j) (fun p hp => (hg p (List.mem_of_mem_drop hp)).1) (by simp; omega) (by omega))
  exact ⟨hs, lns_one h hs⟩
theorem room_words {strut : Int} {P : List Pc} (hg : ∀ p ∈ P, GoodPc p) (hw : Wide24 P) (h : 0 < wc P) : (lns 0 strut P).length = wc P :=
  lns_words strut (fun p hp => ⟨(hg p hp).1, (hw p hp).1, (hg p hp).2⟩) h
theorem good_take {P : List Pc} {k : Nat} {p : Pc} (h : ∀ q ∈ P.take k, GoodPc q) (hp : P[k]? = some p) (hq : GoodPc p) : ∀ q ∈ P.take (k + 1), GoodPc q := by
  intro q hm
  rw [List.take_add_one, hp] at hm
  simp at hm
  rcases hm with hm | rfl
  · exact h q hm
  · exact hq
theorem wc_step {P : List Pc} {k : Nat} {p : Pc} (hp : P[k]? = some p) : wc (P.drop k) = (if p.kind = 1 then 1 else 0) + wc (P.drop (k + 1)) := by
  have hlt := (List.getElem?_eq_some_iff.1 hp).1
  have h2 : P[k] = p := (List.getElem?_eq_some_iff.1 hp).2
  rw [List.drop_eq_getElem_cons hlt, h2, wc]
end Num
theorem pcs_here {w : World} {B b off : Nat} {l : List Pc} (h : Pcs w B (some ⟨b, off, none⟩) l) {k : Nat} {p : Pc} (hp : l[k]? = some p) :
    w.cell? ⟨b, off + k * 57, none⟩ = some (.int .i64 p.kind) ∧ w.cell? ⟨b, off + k * 57 + 3, none⟩ = some (.int .i64 p.width) ∧ w.cell? ⟨b, off + k * 57 + 4, none⟩ = some (.int .i64 p.height) ∧ w.cell? ⟨b, off + k * 57 + 46, none⟩ = some (.bool p.pre) := by
  obtain ⟨p', hb, hp', hr⟩ := Pcs.here h (k := k) (List.getElem?_eq_some_iff.1 hp).1
  obtain rfl : p = p' := Option.some.inj (hp.symm.trans hp'.out)
  exact ⟨piece_kind hr, piece_width hr, piece_height hr, hr 46 _ rfl⟩
set_option maxRecDepth 100000 in
set_option maxHeartbeats 4000000 in
theorem walk_LinesRoom (A : Option Addr) (l : List Bt) (c : Nat) (w : World) (hr : RowB w A l c) :
    Calls Try.prog 6 #[.slice A l.length c] w fun e w' => e = .returned (.bool true) ∧ Below w.heap.size w w' := by
  obtain ⟨hA, hlc, hcp, hx⟩ := hr
  have HW := pcs_wide (l.take 80) 0
  have h80 : (pcs 0 (l.take 80)).length ≤ 80 := by rw [pcs_length]; simp; omega
  go_enter Try.func6, Try.ntmps6
  go_wp2_with fail
  refine (some_n l _ A c _ rfl hA (by omega) hx).mono ?_
  rintro e w1 ⟨v, v', rfl, hB, ho, ho'⟩
  generalize pcs 0 (l.take 80) = P at *
  obtain ⟨A1, c1, rfl, hc1, hP⟩ := own_pcs ho
  clear ho ho' hA hx
  go_wp2_with fail
  go_loopg [5, 6] P.length (fun g s5 s6 wr => ∃ k v : Nat, g = P.length - k ∧ k ≤ P.length ∧ v ≤ k ∧ s6 = .int .i64 k ∧ s5 = .int .i64 v ∧ Hid (v + wc (P.drop k) = wc P) ∧ Hid (∀ p ∈ P.take k, GoodPc p) ∧ w1 = wr)
  case atStart => exact ⟨0, 0, rfl, Nat.zero_le _, Nat.le_refl _, rfl, rfl, hid (by simp), hid (by simp), rfl⟩
  case round =>
    obtain ⟨k, v, rfl, hk, hv, rfl, rfl, HV, HG, rfl⟩ := hrel
    by_cases hlt : k < P.length
    · obtain ⟨b, off, p, rfl, hb, hp, -⟩ := Pcs.get hP hlt
      obtain ⟨q0, q3, -, -⟩ := pcs_here hP hp.out
      have HS := hid (wc_step hp.out)
      have hwp := (HW p (List.mem_of_getElem? hp.out)).1
      obtain ⟨kd, hkd⟩ : ∃ kd, p.kind = kd := ⟨_, rfl⟩
      obtain ⟨wd, hwd⟩ : ∃ wd, p.width = wd := ⟨_, rfl⟩
      rw [hkd] at q0 HS
      rw [hwd] at q3 hwp
      have HGP : Hid (kd ≠ 3 → (kd = 1 → 1 ≤ wd) → GoodPc p) := hid (fun h1 h2 => ⟨by rw [hkd]; exact h1, by rw [hkd, hwd]; exact h2⟩)
      clear hkd hwd
      by_cases h3 : kd = 3
      · have g3 : (kd == 3) = true := by simpa using h3
        clear h3
        go_wp2_with fail
        refine (known15 _).mono ?_
        rintro e w9 ⟨rfl, hb9⟩
        go_wp2_with fail
        go_ret
        exact ⟨rfl, hB.trans (hb9.mono hB.size)⟩
      · have g3 : (kd == 3) = false := by simpa using h3
        by_cases h1 : kd = 1
        · have g1 : (kd == 1) = true := by simpa using h1
          by_cases h0 : wd = 0
          · have g0 : (wd == 0) = true := by simpa using h0
            clear h3 h1 h0
            go_wp2_with fail
            refine (known15 _).mono ?_
            rintro e w9 ⟨rfl, hb9⟩
            go_wp2_with fail
            go_ret
            exact ⟨rfl, hB.trans (hb9.mono hB.size)⟩
          · have g0 : (wd == 0) = false := by simpa using h0
            have HV2 : Hid (v + 1 + wc (P.drop (k + 1)) = wc P) := hid (by have := HV.out; rw [HS.out, if_pos h1] at this; omega)
            have HG2 : Hid (∀ p ∈ P.take (k + 1), GoodPc p) := hid (good_take HG.out hp.out (HGP.out h3 (fun _ => by omega)))
            clear h3 h1 h0
            go_wp2_with fail
            go_roundg (P.length - (k + 1))
            case rel => exact ⟨k + 1, v + 1, rfl, by omega, by omega, by go_num, by go_num, HV2, HG2, rfl⟩
            case measure => omega
        · have g1 : (kd == 1) = false := by simpa using h1
          have HV2 : Hid (v + wc (P.drop (k + 1)) = wc P) := hid (by have := HV.out; rw [HS.out, if_neg h1] at this; omega)
          have HG2 : Hid (∀ p ∈ P.take (k + 1), GoodPc p) := hid (good_take HG.out hp.out (HGP.out h3 (fun h => absurd h h1)))
          clear h3 h1
          go_wp2_with fail
          go_roundg (P.length - (k + 1))
          case rel => exact ⟨k + 1, v, rfl, by omega, by omega, by go_num, rfl, HV2, HG2, rfl⟩
          case measure => omega
    · obtain rfl : k = P.length := by omega
      have HG2 : Hid (∀ p ∈ P, GoodPc p) := hid (by have := HG.out; rwa [List.take_length] at this)
      have HV2 : Hid (v = wc P) := hid (by have := HV.out; rw [List.drop_of_length_le (Nat.le_refl _)] at this; simpa [wc] using this)
      clear HV HG
      go_wp2_with fail
      refine (break_n P _ A1 c1 1099511627776 0 _ rfl (by omega) hc1 hP).mono ?_
      rintro e w2 ⟨v1, rfl, hoa, hb⟩
      replace hP := (hP.below hb).more hb.size
      replace hB := hB.trans (hb.mono hB.size)
      clear hb
      obtain ⟨A2, c2, rfl, hc2, hLa⟩ := own_lns hoa
      clear hoa
      go_wp2_with fail
      refine (break_n P _ A1 c1 0 0 _ rfl (by omega) hc1 hP).mono ?_
      rintro e w3 ⟨v2, rfl, hob, hb⟩
      replace hLa := (hLa.below hb).more hb.size
      replace hB := hB.trans (hb.mono hB.size)
      clear hb hP
      obtain ⟨A3, c3, rfl, hc3, -⟩ := own_lns hob
      clear hob
      obtain ⟨La, hLae⟩ : ∃ La, lns 1099511627776 0 P = La := ⟨_, rfl⟩
      obtain ⟨nb, hnb⟩ : ∃ nb, (lns 0 0 P).length = nb := ⟨_, rfl⟩
      rw [hLae] at hLa hc2 ⊢
      rw [hnb] at hc3 ⊢
      rcases Nat.eq_zero_or_pos P.length with h0 | h0
      · have e1 := lns_length 1099511627776 0 P
        have e2 := lns_length 0 0 P
        obtain rfl : nb = 0 := by omega
        obtain rfl : La = [] := List.eq_nil_of_length_eq_zero (by rw [← hLae]; omega)
        have g0 : ((P.length : Int) == 0) = true := by simp [h0]
        clear hLae hnb e1 e2 h0 HW
        go_wp2_with fail
        refine (known15 _).mono ?_
        rintro e w9 ⟨rfl, hb9⟩
        go_wp2_with fail
        go_ret
        exact ⟨rfl, hB.trans (hb9.mono hB.size)⟩
      · have g0 : ((P.length : Int) == 0) = false := beq_eq_false_iff_ne.2 (by omega)
        rcases Nat.eq_zero_or_pos (wc P) with hw0 | hw0
        · have e1 := room_none (room := 1099511627776) (strut := 0) h0 HG2.out hw0
          have e2 := room_none (room := 0) (strut := 0) h0 HG2.out hw0
          obtain rfl : v = 0 := by rw [HV2.out]; exact hw0
          rw [hLae] at e1
          rw [e2] at hnb
          obtain rfl : nb = 1 := hnb.symm
          subst e1
          clear hLae e2 hw0 HW
          simp only [List.length_singleton] at hc2 ⊢
          go_wp2_with fail
          refine (known15 _).mono ?_
          rintro e w9 ⟨rfl, hb9⟩
          go_wp2_with fail
          go_ret
          exact ⟨rfl, hB.trans (hb9.mono hB.size)⟩
        · obtain ⟨e0, e1⟩ := room_all (strut := 0) h0 h80 HG2.out HW
          have e2 := room_words (strut := 0) HG2.out HW hw0
          rw [hLae] at e1
          rw [hnb] at e2
          obtain rfl : nb = v := by rw [HV2.out]; exact e2
          subst e1
          have gv : ((nb : Int) == 0) = false := beq_eq_false_iff_ne.2 (by omega)
          obtain ⟨b2, o2, x2, rfl, -, -, -⟩ := hLa.at_ (k := 0) (by simp)
          have c1 := (lines_at hLa (k := 0) rfl).2.1
          simp only [Nat.zero_mul, Nat.add_zero, first, e0] at c1
          clear hLae e2 hnb hw0 HW e0 x2 HV2
          simp only [List.length_singleton] at hc2 ⊢
          go_wp2_with fail
          refine (known15 _).mono ?_
          rintro e w9 ⟨rfl, hb9⟩
          go_wp2_with fail
          go_ret
          exact ⟨rfl, hB.trans (hb9.mono hB.size)⟩
end Go.Proofs.Ytebolanengnpfaa
