/-
  Most, Least.
-/
import Derived.Test.YteghacdpfhohoaaTextH
namespace Go.Proofs.Yteghacdpfhohoaa
open Go.RowKit Num Mem Opn
set_option linter.unusedVariables false
set_option linter.unusedSimpArgs false
set_option linter.unusedSimpArgs false
namespace Num
def mostF : List Pz → Int → Int → Int
  | [], n, _ => n
  | p :: t, n, s => if p.kind = 3 then mostF t n 0 else mostF t (max n (add s p.width)) (add s p.width)
def leastF : List Pz → Int → Int
  | [], n => n
  | p :: t, n => if p.kind = 1 then leastF t (max n p.width) else leastF t n
end Num
set_option maxRecDepth 100000 in
set_option maxHeartbeats 4000000 in
theorem text_Most (P : List Pz) (A : Option Addr) (c : Nat) (w : World) (hn : P.length ≤ 1000000) (hA : Recs w w.heap.size A 57 Pz.cells P) :
    Calls Try.prog 37 #[.slice A P.length c] w fun e w' => e = .returned (.int .i64 (mostF P 0 0)) ∧ Below w.heap.size w w' := by
  obtain ⟨R, hR⟩ : ∃ R, mostF P 0 0 = R := ⟨_, rfl⟩
  have HR : Hid (mostF (P.drop 0) 0 0 = R) := hid (by simpa using hR)
  rw [hR]
  clear hR
  go_enter Try.func37, Try.ntmps37
  go_wp2_with fail
  go_loopw [3, 4, 9] (fun s3 s4 s9 wr => ∃ (k : Nat) (n s : Int), k ≤ P.length ∧ s3 = .int .i64 n ∧ s4 = .int .i64 s ∧ s9 = .int .i64 k ∧ Below w.heap.size w wr ∧ Hid (mostF (P.drop k) n s = R)) (fun _ _ i _ => P.length - (intOf i).toNat)
  case atStart => exact ⟨0, 0, 0, Nat.zero_le _, rfl, rfl, rfl, Below.refl _ _, HR⟩
  case round =>
    clear HR
    obtain ⟨k, n, s, hk, rfl, rfl, rfl, hB, HR⟩ := hrel
    by_cases hlt : k < P.length
    · have dk : decide ((k : Int) < (P.length : Int)) = true := decide_eq_true (by omega)
      obtain ⟨b, off, p, rfl, hb, hpk, hcells⟩ := (hA.below hB).at_ hlt
      have hrg : wr.rangeAt b (off + k * 57) p.arr.toList := fun j u hj => hcells j u hj
      have HR1 : Hid (mostF (p :: P.drop (k + 1)) n s = R) := hid (by
        have h1 := HR.out
        rw [List.drop_eq_getElem_cons hlt] at h1
        have h2 : P[k] = p := by have := hpk.out; rw [List.getElem?_eq_getElem hlt] at this; exact Option.some.inj this
        rwa [h2] at h1)
      clear HR hcells
      go_wp2_with (first | refine stop_load 59 _ rfl rfl ?_ | refine stop_store 59 _ _ rfl rfl ?_)
      refine ⟨?_⟩
      refine wl_load_at rfl 59 _ rfl b (off + k * 57) rfl p.arr _ hrg Try.underlying59 rfl (info_pz_arr _) ?_
      (try simp only [Act.put, List.setIfInBounds_toArray, List.set_cons_zero, List.set_cons_succ])
      go_wp2_with (first | refine stop_load 59 _ rfl rfl ?_ | refine stop_store 59 _ _ rfl rfl ?_)
      refine ⟨?_⟩
      refine wl_store rfl 59 _ _ rfl wr.heap.size p.arr rfl rfl 59 zeroP (Blk.new _ _ _) rfl (info_pz_arr _) (pz_one _) ?_
      intro w2 hX hch
      (try simp only [Act.put, List.setIfInBounds_toArray, List.set_cons_zero, List.set_cons_succ])
      have hb2 : Below w.heap.size w w2 := hB.trans ((((Below.refl wr.heap.size wr).alloc (Nat.le_refl _) _).trans (hch.below (Nat.le_refl _))).mono hB.size)
      clear hB hch hrg
      generalize wr.heap.size = bb at *
      have c0 : w2.cell? ⟨bb, 0, none⟩ = some (.int .i64 p.kind) := hX.cell 0
      have c3 : w2.cell? ⟨bb, 3, none⟩ = some (.int .i64 p.width) := hX.cell 3
      by_cases h3 : p.kind = 3
      · have e3 : (p.kind == 3) = true := by simpa using h3
        have HR2 : Hid (mostF (P.drop (k + 1)) n 0 = R) := hid (by have := HR1.out; rwa [mostF, if_pos h3] at this)
        clear h3 HR1 hX
        go_wp2_with fail
        go_roundw
        case rel => exact ⟨k + 1, _, _, by omega, rfl, rfl, by go_num, hb2, HR2⟩
        case measure => simp [intOf]; omega
      · have e3 : (p.kind == 3) = false := by simpa using h3
        have HR2 : Hid (mostF (P.drop (k + 1)) (max n (add s p.width)) (add s p.width) = R) := hid (by have := HR1.out; rwa [mostF, if_neg h3] at this)
        clear h3 HR1 hX
        go_wp2_with (go_at_call 53; refine (fixed_Add _ _ _).mono ?_; rintro e w' ⟨rfl, rfl⟩)
        go_roundw
        case rel => exact ⟨k + 1, _, _, by omega, rfl, rfl, by go_num, hb2, HR2⟩
        case measure => simp [intOf]; omega
    · obtain rfl : k = P.length := by omega
      have dk : decide ((P.length : Int) < (P.length : Int)) = false := by simp
      have HZ : Hid (n = R) := hid (by have := HR.out; rw [List.drop_of_length_le (Nat.le_refl _), mostF] at this; exact this)
      go_wp2_with fail
      go_ret
      exact ⟨by rw [HZ.out]; rfl, hB⟩
set_option maxRecDepth 100000 in
set_option maxHeartbeats 4000000 in
theorem text_Least (P : List Pz) (A : Option Addr) (c : Nat) (w : World) (hn : P.length ≤ 1000000) (hA : Recs w w.heap.size A 57 Pz.cells P) :
    Calls Try.prog 38 #[.slice A P.length c] w fun e w' => e = .returned (.int .i64 (leastF P 0)) ∧ Below w.heap.size w w' := by
  obtain ⟨R, hR⟩ : ∃ R, leastF P 0 = R := ⟨_, rfl⟩
  have HR : Hid (leastF (P.drop 0) 0 = R) := hid (by simpa using hR)
  rw [hR]
  clear hR
  go_enter Try.func38, Try.ntmps38
  go_wp2_with fail
  go_loopw [3, 8] (fun s3 s8 wr => ∃ (k : Nat) (n : Int), k ≤ P.length ∧ s3 = .int .i64 n ∧ s8 = .int .i64 k ∧ Below w.heap.size w wr ∧ Hid (leastF (P.drop k) n = R)) (fun _ i _ => P.length - (intOf i).toNat)
  case atStart => exact ⟨0, 0, Nat.zero_le _, rfl, rfl, Below.refl _ _, HR⟩
  case round =>
    clear HR
    obtain ⟨k, n, hk, rfl, rfl, hB, HR⟩ := hrel
    by_cases hlt : k < P.length
    · have dk : decide ((k : Int) < (P.length : Int)) = true := decide_eq_true (by omega)
      obtain ⟨b, off, p, rfl, hb, hpk, hcells⟩ := (hA.below hB).at_ hlt
      have hrg : wr.rangeAt b (off + k * 57) p.arr.toList := fun j u hj => hcells j u hj
      have HR1 : Hid (leastF (p :: P.drop (k + 1)) n = R) := hid (by
        have h1 := HR.out
        rw [List.drop_eq_getElem_cons hlt] at h1
        have h2 : P[k] = p := by have := hpk.out; rw [List.getElem?_eq_getElem hlt] at this; exact Option.some.inj this
        rwa [h2] at h1)
      clear HR hcells
      go_wp2_with (first | refine stop_load 59 _ rfl rfl ?_ | refine stop_store 59 _ _ rfl rfl ?_)
      refine ⟨?_⟩
      refine wl_load_at rfl 59 _ rfl b (off + k * 57) rfl p.arr _ hrg Try.underlying59 rfl (info_pz_arr _) ?_
      (try simp only [Act.put, List.setIfInBounds_toArray, List.set_cons_zero, List.set_cons_succ])
      go_wp2_with (first | refine stop_load 59 _ rfl rfl ?_ | refine stop_store 59 _ _ rfl rfl ?_)
      refine ⟨?_⟩
      refine wl_store rfl 59 _ _ rfl wr.heap.size p.arr rfl rfl 59 zeroP (Blk.new _ _ _) rfl (info_pz_arr _) (pz_one _) ?_
      intro w2 hX hch
      (try simp only [Act.put, List.setIfInBounds_toArray, List.set_cons_zero, List.set_cons_succ])
      have hb2 : Below w.heap.size w w2 := hB.trans ((((Below.refl wr.heap.size wr).alloc (Nat.le_refl _) _).trans (hch.below (Nat.le_refl _))).mono hB.size)
      clear hB hch hrg
      generalize wr.heap.size = bb at *
      have c0 : w2.cell? ⟨bb, 0, none⟩ = some (.int .i64 p.kind) := hX.cell 0
      have c3 : w2.cell? ⟨bb, 3, none⟩ = some (.int .i64 p.width) := hX.cell 3
      by_cases h3 : p.kind = 1
      · have e3 : (p.kind == 1) = true := by simpa using h3
        have HR2 : Hid (leastF (P.drop (k + 1)) (max n p.width) = R) := hid (by have := HR1.out; rwa [leastF, if_pos h3] at this)
        clear h3 HR1 hX
        go_wp2_with fail
        go_roundw
        case rel => exact ⟨k + 1, _, by omega, rfl, by go_num, hb2, HR2⟩
        case measure => simp [intOf]; omega
      · have e3 : (p.kind == 1) = false := by simpa using h3
        have HR2 : Hid (leastF (P.drop (k + 1)) n = R) := hid (by have := HR1.out; rwa [leastF, if_neg h3] at this)
        clear h3 HR1 hX
        go_wp2_with fail
        go_roundw
        case rel => exact ⟨k + 1, _, by omega, rfl, by go_num, hb2, HR2⟩
        case measure => simp [intOf]; omega
    · obtain rfl : k = P.length := by omega
      have dk : decide ((P.length : Int) < (P.length : Int)) = false := by simp
      have HZ : Hid (n = R) := hid (by have := HR.out; rw [List.drop_of_length_le (Nat.le_refl _), leastF] at this; exact this)
      go_wp2_with fail
      go_ret
      exact ⟨by rw [HZ.out]; rfl, hB⟩
end Go.Proofs.Yteghacdpfhohoaa
