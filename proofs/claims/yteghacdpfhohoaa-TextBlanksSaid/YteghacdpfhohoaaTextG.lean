/-
  law14's said.
-/
import Derived.Test.YteghacdpfhohoaaTextF
namespace Go.Proofs.Yteghacdpfhohoaa
open Go.RowKit Num Mem Opn
set_option linter.unusedVariables false
set_option linter.unusedSimpArgs false
namespace Num
def sayF (p : Pz) (a : ByteArray) : ByteArray := if p.kind = 1 then a ++ p.text else if p.kind = 2 then a ++ { data := #[95] } else if p.kind = 3 then a ++ { data := #[47] } else a
def saidF : List Pz → ByteArray → ByteArray
  | [], a => a
  | p :: t, a => saidF t (sayF p a)
theorem sayF_size (p : Pz) (a : ByteArray) (h : p.text.size ≤ 10000) : (sayF p a).size ≤ a.size + 10000 := by
  unfold sayF
  split
  · simp [ByteArray.size_append]; omega
  · split
    · simp [ByteArray.size_append]; decide
    · split
      · simp [ByteArray.size_append]; decide
      · omega
end Num
set_option maxRecDepth 100000 in
set_option maxHeartbeats 4000000 in
theorem law14_said (g : Nat) (P : List Pz) (A : Option Addr) (c : Nat) (w : World) (hx : ∀ p ∈ P, p.text.size ≤ 10000) (hn : P.length ≤ 1000000) (hA : Recs w g A 57 Pz.cells P) :
    Calls Try.prog 36 #[.slice A P.length c] w fun e w' => e = .returned (.string (saidF P ByteArray.empty)) ∧ w = w' := by
  obtain ⟨R, hR⟩ : ∃ R, saidF P ByteArray.empty = R := ⟨_, rfl⟩
  have HR : Hid (saidF (P.drop 0) ByteArray.empty = R) := hid (by simpa using hR)
  rw [hR]
  clear hR
  replace hx := hid hx
  go_enter Try.func36, Try.ntmps36
  go_wp2_with fail
  go_loopw [3, 4] (fun s3 s4 wr => ∃ (k : Nat) (o : ByteArray), k ≤ P.length ∧ s3 = .string o ∧ s4 = .int .i64 k ∧ wr = w ∧ o.size ≤ 10000 * k ∧ Hid (saidF (P.drop k) o = R)) (fun _ i _ => P.length - (intOf i).toNat)
  case atStart => exact ⟨0, ByteArray.empty, Nat.zero_le _, rfl, rfl, rfl, by decide, HR⟩
  case round =>
    clear HR
    obtain ⟨k, o, hk, rfl, rfl, rfl, hol, HR⟩ := hrel
    by_cases hlt : k < P.length
    · have dk : decide ((k : Int) < (P.length : Int)) = true := decide_eq_true (by omega)
      obtain ⟨b, off, p, rfl, hb, hpk, hcells⟩ := hA.at_ hlt
      have c0 : wr.cell? ⟨b, off + k * 57, none⟩ = some (.int .i64 p.kind) := hcells 0 _ rfl
      have c2 : wr.cell? ⟨b, off + k * 57 + 2, none⟩ = some (.string p.text) := hcells 2 _ rfl
      have hsz := hx.out p (List.mem_of_getElem? hpk.out)
      have HR2 : Hid (saidF (P.drop (k + 1)) (sayF p o) = R) := hid (by
        have h1 := HR.out
        rw [List.drop_eq_getElem_cons hlt] at h1
        have h2 : P[k] = p := by have := hpk.out; rw [List.getElem?_eq_getElem hlt] at this; exact Option.some.inj this
        rw [h2, saidF] at h1
        exact h1)
      have hsy := sayF_size p o hsz
      clear HR hcells
      by_cases h1 : p.kind = 1
      · have e1 : (p.kind == 1) = true := by simpa using h1
        have HS : Hid (sayF p o = o ++ p.text) := hid (by unfold sayF; rw [if_pos h1])
        have hadd := run_string_add_sum (P := Try.prog) (w := wr) o p.text (by omega)
        rw [HS.out] at HR2 hsy
        have hno : ¬ (o.size + p.text.size > 9223372036854775807) := by omega
        obtain ⟨y, hy⟩ : ∃ y, o ++ p.text = y := ⟨_, rfl⟩
        rw [hy] at hadd HR2 hsy
        clear hy h1 HS
        go_wp2_with fail
        go_roundw
        case rel => exact ⟨k + 1, _, by omega, rfl, by go_num, trivial, by omega, HR2⟩
        case measure => simp [intOf]; omega
      · have e1 : (p.kind == 1) = false := by simpa using h1
        by_cases h2 : p.kind = 2
        · have e2 : (p.kind == 2) = true := by simpa using h2
          have HS : Hid (sayF p o = o ++ { data := #[95] }) := hid (by unfold sayF; rw [if_neg h1, if_pos h2])
          have hadd := run_string_add_sum (P := Try.prog) (w := wr) o { data := #[95] } (by have : (ByteArray.mk #[95]).size = 1 := rfl; omega)
          rw [HS.out] at HR2 hsy
          have hno : ¬ (o.size + 1 > 9223372036854775807) := by omega
          obtain ⟨y, hy⟩ : ∃ y, o ++ { data := #[95] } = y := ⟨_, rfl⟩
          rw [hy] at hadd HR2 hsy
          clear hy
          clear h1 h2 HS
          go_wp2_with fail
          go_roundw
          case rel => exact ⟨k + 1, _, by omega, rfl, by go_num, trivial, by omega, HR2⟩
          case measure => simp [intOf]; omega
        · have e2 : (p.kind == 2) = false := by simpa using h2
          by_cases h3 : p.kind = 3
          · have e3 : (p.kind == 3) = true := by simpa using h3
            have HS : Hid (sayF p o = o ++ { data := #[47] }) := hid (by unfold sayF; rw [if_neg h1, if_neg h2, if_pos h3])
            have hadd := run_string_add_sum (P := Try.prog) (w := wr) o { data := #[47] } (by have : (ByteArray.mk #[47]).size = 1 := rfl; omega)
            rw [HS.out] at HR2 hsy
            have hno : ¬ (o.size + 1 > 9223372036854775807) := by omega
            obtain ⟨y, hy⟩ : ∃ y, o ++ { data := #[47] } = y := ⟨_, rfl⟩
            rw [hy] at hadd HR2 hsy
            clear hy
            clear h1 h2 h3 HS
            go_wp2_with fail
            go_roundw
            case rel => exact ⟨k + 1, _, by omega, rfl, by go_num, trivial, by omega, HR2⟩
            case measure => simp [intOf]; omega
          · have e3 : (p.kind == 3) = false := by simpa using h3
            have HS : Hid (sayF p o = o) := hid (by unfold sayF; rw [if_neg h1, if_neg h2, if_neg h3])
            rw [HS.out] at HR2 hsy
            clear h1 h2 h3 HS
            go_wp2_with fail
            go_roundw
            case rel => exact ⟨k + 1, _, by omega, rfl, by go_num, trivial, by omega, HR2⟩
            case measure => simp [intOf]; omega
    · obtain rfl : k = P.length := by omega
      have dk : decide ((P.length : Int) < (P.length : Int)) = false := by simp
      have HZ : Hid (o = R) := hid (by have := HR.out; rw [List.drop_of_length_le (Nat.le_refl _), saidF] at this; exact this)
      go_wp2_with fail
      go_ret
      exact ⟨by rw [HZ.out]; rfl, rfl⟩
end Go.Proofs.Yteghacdpfhohoaa
