/-
  Heights of any style; Few.
-/
import Derived.Test.YteghacdpfhohoaaTextH
import Derived.Test.YteghacdpfhohoaaOpenEnv
namespace Go.Proofs.Yteghacdpfhohoaa
open Go.RowKit Num Mem Opn
set_option linter.unusedVariables false
set_option linter.unusedSimpArgs false
namespace Num
def hgt (sz ln : Int) : Int := if 0 ≤ ln then ln else prt sz 5 4
def fewS (s : ByteArray) (n : Nat) : ByteArray := if n < s.size then s.extract 0 n else s
theorem fewS_size (s : ByteArray) (n : Nat) : (fewS s n).size ≤ n := by
  unfold fewS
  split
  · simp [ByteArray.size_extract]; omega
  · omega
end Num
set_option maxRecDepth 100000 in
set_option maxHeartbeats 1000000 in
theorem text_HeightX (cs : Array Value) (sz ln : Int) (w : World) (hs : Style52 cs sz ln) : Calls Try.prog 25 #[.agg cs] w fun e w' => e = .returned (.int .i64 (hgt sz ln)) ∧ Below w.heap.size w w' := by
  have hX : Blk (w.alloc (.cells cs 43)) w.heap.size 43 cs := Blk.new _ _ _
  have hB : Below w.heap.size w (w.alloc (.cells cs 43)) := (Below.refl _ _).alloc (Nat.le_refl _) _
  go_enter Try.func25, Try.ntmps25
  go_upto_region 1 with fail
  refine wp_forget (fun Z => Blk Z w.heap.size 43 cs ∧ Below w.heap.size w Z) ⟨hX, hB⟩ ?_
  clear hX hB
  rintro w1 ⟨hX, hB⟩
  have c38 : w1.cell? ⟨w.heap.size, 38, none⟩ = some (.int .i64 sz) := (hX.cell 38).trans hs.c38
  have c39 : w1.cell? ⟨w.heap.size, 39, none⟩ = some (.int .i64 ln) := (hX.cell 39).trans hs.c39
  by_cases h : 0 ≤ ln
  · have HH : Hid (ln = hgt sz ln) := hid (by unfold hgt; rw [if_pos h])
    have d1 : decide (ln ≥ 0) = true := decide_eq_true h
    have d2 : decide (0 ≤ ln) = true := decide_eq_true h
    go_wp2_with fail
    go_ret
    exact ⟨by rw [← HH.out]; rfl, hB⟩
  · have HH : Hid (prt sz 5 4 = hgt sz ln) := hid (by unfold hgt; rw [if_neg h])
    have d1 : decide (ln ≥ 0) = false := decide_eq_false h
    have d2 : decide (0 ≤ ln) = false := decide_eq_false h
    go_wp2_with (go_at_call 55; refine (fixed_Part _ _ _ _).mono ?_; rintro e w' ⟨rfl, rfl⟩)
    go_ret
    exact ⟨by rw [← HH.out]; rfl, hB⟩
set_option maxRecDepth 100000 in
set_option maxHeartbeats 1000000 in
theorem ref14_Height (cs : Array Value) (sz ln : Int) (w : World) (hs : Style52 cs sz ln) : Calls Try.prog 26 #[.agg cs] w fun e w' => e = .returned (.int .i64 (hgt sz ln)) ∧ Below w.heap.size w w' := by
  have hX : Blk (w.alloc (.cells cs 43)) w.heap.size 43 cs := Blk.new _ _ _
  have hB : Below w.heap.size w (w.alloc (.cells cs 43)) := (Below.refl _ _).alloc (Nat.le_refl _) _
  go_enter Try.func26, Try.ntmps26
  go_upto_region 1 with fail
  refine wp_forget (fun Z => Blk Z w.heap.size 43 cs ∧ Below w.heap.size w Z) ⟨hX, hB⟩ ?_
  clear hX hB
  rintro w1 ⟨hX, hB⟩
  have c38 : w1.cell? ⟨w.heap.size, 38, none⟩ = some (.int .i64 sz) := (hX.cell 38).trans hs.c38
  have c39 : w1.cell? ⟨w.heap.size, 39, none⟩ = some (.int .i64 ln) := (hX.cell 39).trans hs.c39
  by_cases h : 0 ≤ ln
  · have HH : Hid (ln = hgt sz ln) := hid (by unfold hgt; rw [if_pos h])
    have d1 : decide (ln ≥ 0) = true := decide_eq_true h
    have d2 : decide (0 ≤ ln) = true := decide_eq_true h
    go_wp2_with fail
    go_ret
    exact ⟨by rw [← HH.out]; rfl, hB⟩
  · have HH : Hid (prt sz 5 4 = hgt sz ln) := hid (by unfold hgt; rw [if_neg h])
    have d1 : decide (ln ≥ 0) = false := decide_eq_false h
    have d2 : decide (0 ≤ ln) = false := decide_eq_false h
    go_wp2_with (go_at_call 56; refine (ref_Part _ _ _ _).mono ?_; rintro e w' ⟨rfl, rfl⟩)
    go_ret
    exact ⟨by rw [← HH.out]; rfl, hB⟩
set_option maxRecDepth 100000 in
theorem keep_Few (s : ByteArray) (n : Nat) (w : World) (hs : s.size ≤ maxLen) : Calls Try.prog 19 #[.string s, .int .i64 n] w fun e w' => e = .returned (.string (fewS s n)) ∧ w = w' := by
  have hm : maxLen = 9223372036854775807 := rfl
  by_cases h : n < s.size
  · have HH : Hid (s.extract 0 n = fewS s n) := hid (by unfold fewS; rw [if_pos h])
    have d1 : decide ((s.size : Int) > (n : Int)) = true := decide_eq_true (by omega)
    have d2 : decide ((n : Int) < (s.size : Int)) = true := decide_eq_true (by omega)
    go_enter Try.func19, Try.ntmps19
    go_wp2_with fail
    go_ret
    exact ⟨by rw [← HH.out]; rfl, rfl⟩
  · have HH : Hid (s = fewS s n) := hid (by unfold fewS; rw [if_neg h])
    have d1 : decide ((s.size : Int) > (n : Int)) = false := decide_eq_false (by omega)
    have d2 : decide ((n : Int) < (s.size : Int)) = false := decide_eq_false (by omega)
    go_enter Try.func19, Try.ntmps19
    go_wp2_with fail
    go_ret
    exact ⟨by rw [← HH.out]; rfl, rfl⟩
end Go.Proofs.Yteghacdpfhohoaa
