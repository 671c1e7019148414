/-
  numbers as texts; a stable sort.
-/
import Derived.Test.YtkkiefcapbddkaaGreatDoorProg
import Derived.WalkKit
import Derived.Handy
import Derived.Below
import Derived.Deep.Draws
import Derived.Laws.Strings
import Derived.Sort.LotA
import Derived.Shelf.SlSortCmp.InsertionK
set_option linter.all false
namespace Go.Abs
open Go.RowKit Go.Proofs
set_option maxRecDepth 100000
def dig (n : Int) : ByteArray := ⟨#[UInt8.ofNat (48 + n.toNat)]⟩
theorem number_one (n : Int) (h0 : 0 ≤ n) (h1 : n ≤ 9) (w : World) : Calls Tryz.prog 7 #[.int .i64 n] w fun e w' => e = .returned (.string (dig n)) ∧ w = w' := by
  obtain rfl | rfl | rfl | rfl | rfl | rfl | rfl | rfl | rfl | rfl : n = 0 ∨ n = 1 ∨ n = 2 ∨ n = 3 ∨ n = 4 ∨ n = 5 ∨ n = 6 ∨ n = 7 ∨ n = 8 ∨ n = 9 := by omega
  all_goals
    go_enter Tryz.func7, Tryz.ntmps7
    go_wp2
    go_ret
    exact ⟨rfl, rfl⟩
theorem tdiv10 {n : Int} (h : 0 ≤ n) : n.tdiv 10 = n / 10 := Int.tdiv_eq_ediv_of_nonneg h
theorem tmod10 {n : Int} (h : 0 ≤ n) : n.tmod 10 = n % 10 := Int.tmod_eq_emod_of_nonneg h
theorem number_two (n : Int) (h0 : 10 ≤ n) (h1 : n ≤ 99) (w : World) : Calls Tryz.prog 7 #[.int .i64 n] w fun e w' => e = .returned (.string (dig (n / 10) ++ dig (n % 10))) ∧ w = w' := by
  have e1 := tdiv10 (n := n) (by omega)
  have e2 := tmod10 (n := n) (by omega)
  have d1 : decide (n < 0) = false := decide_eq_false (by omega)
  have d2 : decide (9 < n) = true := decide_eq_true (by omega)
  have w1 : IntKind.i64.wrap (n.tdiv 10) = n / 10 := by rw [e1]; exact IntWalk.i64_in (n / 10) (by omega)
  have w2 : IntKind.i64.wrap (n.tmod 10) = n % 10 := by rw [e2]; exact IntWalk.i64_in (n % 10) (by omega)
  go_enter Tryz.func7, Tryz.ntmps7
  go_wp2_with (go_at_call 7; refine (number_one _ (by omega) (by omega) _).mono ?_; rintro e w' ⟨rfl, rfl⟩)
  go_ret
  exact ⟨rfl, rfl⟩
def digs (n : Int) : ByteArray := (dig (n / 10 / 10) ++ dig (n / 10 % 10)) ++ dig (n % 10)
theorem number_three (n : Int) (h0 : 100 ≤ n) (h1 : n ≤ 999) (w : World) : Calls Tryz.prog 7 #[.int .i64 n] w fun e w' => e = .returned (.string (digs n)) ∧ w = w' := by
  have e1 := tdiv10 (n := n) (by omega)
  have e2 := tmod10 (n := n) (by omega)
  have d1 : decide (n < 0) = false := decide_eq_false (by omega)
  have d2 : decide (9 < n) = true := decide_eq_true (by omega)
  have w1 : IntKind.i64.wrap (n.tdiv 10) = n / 10 := by rw [e1]; exact IntWalk.i64_in (n / 10) (by omega)
  have w2 : IntKind.i64.wrap (n.tmod 10) = n % 10 := by rw [e2]; exact IntWalk.i64_in (n % 10) (by omega)
  have hno : ¬ ((dig (n / 10 / 10) ++ dig (n / 10 % 10)).size + (dig (n % 10)).size > 9223372036854775807) := by
    rw [ByteArray.size_append]; show ¬ (1 + 1 + 1 > 9223372036854775807); omega
  have hadd := run_string_add_sum (P := Tryz.prog) (w := w) (dig (n / 10 / 10) ++ dig (n / 10 % 10)) (dig (n % 10)) (by omega)
  go_enter Tryz.func7, Tryz.ntmps7
  go_wp2_with (go_at_call 7; first | (refine (number_two _ (by omega) (by omega) _).mono ?_; rintro e w' ⟨rfl, rfl⟩) | (refine (number_one _ (by omega) (by omega) _).mono ?_; rintro e w' ⟨rfl, rfl⟩))
  go_ret
  exact ⟨rfl, rfl⟩
theorem tm (n : Int) : (n.tmod 10 = n % 10 ∧ 0 ≤ n.tmod 10) ∨ (n.tmod 10 = n % 10 - 10 ∧ n.tmod 10 < 0) := by
  have h := Int.tmod_eq_emod (a := n) (b := 10)
  split at h
  · left; omega
  · right
    have : n % 10 ≠ 0 := fun e => by
      next hn => exact hn (.inr (Int.dvd_of_emod_eq_zero e))
    have e : ((Int.natAbs 10 : Nat) : Int) = 10 := rfl
    rw [e] at h
    omega
theorem tm801 (n : Int) : (n.tmod 801 = n % 801 ∧ 0 ≤ n.tmod 801) ∨ (n.tmod 801 = n % 801 - 801 ∧ n.tmod 801 < 0) := by
  have h := Int.tmod_eq_emod (a := n) (b := 801)
  split at h
  · left; omega
  · right
    have : n % 801 ≠ 0 := fun e => by
      next hn => exact hn (.inr (Int.dvd_of_emod_eq_zero e))
    have e : ((Int.natAbs 801 : Nat) : Int) = 801 := rfl
    rw [e] at h
    omega
theorem ret_int {k : IntKind} {a b : Int} (h : a = b) : Ending.returned (.int k a) = .returned (.int k b) := by rw [h]
theorem within_nine (n : Int) (w : World) : Calls Tryz.prog 8 #[.int .i64 n, .int .i64 0, .int .i64 9] w fun e w' => e = .returned (.int .i64 (n % 10)) ∧ w = w' := by
  obtain ⟨m, hm⟩ : ∃ m, n.tmod 10 = m := ⟨_, rfl⟩
  have ht := tm n
  have hd := Int.tmod_def n 10
  rw [hm] at ht hd
  rcases ht with ⟨h1, h2⟩ | ⟨h1, h2⟩
  · go_enter Tryz.func8, Tryz.ntmps8
    go_wp2
    go_ret
    refine ⟨ret_int ?_, rfl⟩
    omega
  · go_enter Tryz.func8, Tryz.ntmps8
    go_wp2
    go_ret
    refine ⟨ret_int ?_, rfl⟩
    omega
theorem within_wide (n : Int) (w : World) : Calls Tryz.prog 8 #[.int .i64 n, .int .i64 100, .int .i64 900] w fun e w' => e = .returned (.int .i64 (100 + n % 801)) ∧ w = w' := by
  obtain ⟨m, hm⟩ : ∃ m, n.tmod 801 = m := ⟨_, rfl⟩
  have ht := tm801 n
  have hd := Int.tmod_def n 801
  rw [hm] at ht hd
  rcases ht with ⟨h1, h2⟩ | ⟨h1, h2⟩
  · go_enter Tryz.func8, Tryz.ntmps8
    go_wp2
    go_ret
    refine ⟨ret_int ?_, rfl⟩
    omega
  · go_enter Tryz.func8, Tryz.ntmps8
    go_wp2
    go_ret
    refine ⟨ret_int ?_, rfl⟩
    omega
end Go.Abs
namespace Go.Abs
open Go.RowKit Go.Proofs
set_option maxRecDepth 100000
def ordT (n : Int) : ByteArray := if n < 0 then ⟨#[45]⟩ ++ dig (-n) else dig n
theorem number_order (n : Int) (h0 : -9 ≤ n) (h1 : n ≤ 9) (w : World) : Calls Tryz.prog 7 #[.int .i64 n] w fun e w' => e = .returned (.string (ordT n)) ∧ w = w' := by
  by_cases h : n < 0
  · obtain rfl | rfl | rfl | rfl | rfl | rfl | rfl | rfl | rfl : n = -9 ∨ n = -8 ∨ n = -7 ∨ n = -6 ∨ n = -5 ∨ n = -4 ∨ n = -3 ∨ n = -2 ∨ n = -1 := by omega
    all_goals
      go_enter Tryz.func7, Tryz.ntmps7
      go_wp2_with (go_at_call 7; refine (number_one _ (by omega) (by omega) _).mono ?_; rintro e w' ⟨rfl, rfl⟩)
      go_ret
      exact ⟨rfl, rfl⟩
  · have e : ordT n = dig n := by unfold ordT; rw [if_neg h]
    rw [e]
    exact number_one n (by omega) h1 w
theorem tm19 (n : Int) : (n.tmod 19 = n % 19 ∧ 0 ≤ n.tmod 19) ∨ (n.tmod 19 = n % 19 - 19 ∧ n.tmod 19 < 0) := by
  have h := Int.tmod_eq_emod (a := n) (b := 19)
  split at h
  · left; omega
  · right
    have : n % 19 ≠ 0 := fun e => by
      next hn => exact hn (.inr (Int.dvd_of_emod_eq_zero e))
    have e : ((Int.natAbs 19 : Nat) : Int) = 19 := rfl
    rw [e] at h
    omega
theorem within_order (n : Int) (w : World) : Calls Tryz.prog 8 #[.int .i64 n, .int .i64 (-9), .int .i64 9] w fun e w' => e = .returned (.int .i64 (-9 + n % 19)) ∧ w = w' := by
  obtain ⟨m, hm⟩ : ∃ m, n.tmod 19 = m := ⟨_, rfl⟩
  have ht := tm19 n
  have hd := Int.tmod_def n 19
  rw [hm] at ht hd
  rcases ht with ⟨h1, h2⟩ | ⟨h1, h2⟩
  · go_enter Tryz.func8, Tryz.ntmps8
    go_wp2
    go_ret
    refine ⟨ret_int ?_, rfl⟩
    omega
  · go_enter Tryz.func8, Tryz.ntmps8
    go_wp2
    go_ret
    refine ⟨ret_int ?_, rfl⟩
    omega
end Go.Abs
namespace Go.Abs
open Go.Sort Go.Proofs Go.Shelf
def cfO (x y : Int × Int) : Int := if x.2 < y.2 then -1 else if y.2 < x.2 then 1 else 0
def lexO (x y : Int × Int) : Bool := decide (x.2 < y.2 ∨ (x.2 = y.2 ∧ x.1 < y.1))
theorem ltO (x y : Int × Int) : ltOf cfO x y = decide (x.2 < y.2) := by
  unfold ltOf cfO
  by_cases h : x.2 < y.2
  · simp [h]
  · by_cases h2 : y.2 < x.2 <;> simp [h, h2]
theorem swo_lex : SWO lexO where
  irrefl := fun x => by simp [lexO]
  trans := fun x y z h1 h2 => by
    simp only [lexO, decide_eq_true_eq] at *
    omega
  ntrans := fun x y z h1 h2 => by
    simp only [lexO, decide_eq_false_iff_not] at *
    omega
theorem inner_lex : ∀ (j : Nat) (d : Array (Int × Int)), j < d.size → (∀ p, p < j → d[p]!.1 < d[j]!.1) → insInner (ltOf cfO) 0 j d = insInner lexO 0 j d
  | 0, d, _, _ => by unfold insInner; rfl
  | j + 1, d, hj, h => by
    unfold insInner
    have e : ltOf cfO d[j + 1]! d[j]! = lexO d[j + 1]! d[j]! := by
      have := h j (by omega)
      rw [ltO]
      unfold lexO
      rw [Bool.eq_iff_iff]
      simp only [decide_eq_true_eq]
      omega
    rw [e]
    split
    · refine inner_lex j _ (by rw [swp_size]; omega) fun p hp => ?_
      have g := swp_get d hj (show j < d.size by omega)
      rw [g, g, if_neg (by omega), if_neg (by omega), if_pos rfl]
      exact h p (by omega)
    · rfl
theorem inner_size (lt : Int × Int → Int × Int → Bool) : ∀ (j : Nat) (d : Array (Int × Int)), (insInner lt 0 j d).size = d.size
  | 0, d => by unfold insInner; rfl
  | j + 1, d => by
    unfold insInner
    split
    · rw [inner_size lt j, swp_size]
    · rfl
theorem inner_far (lt : Int × Int → Int × Int → Bool) : ∀ (j : Nat) (d : Array (Int × Int)), j < d.size → ∀ q, j < q → (insInner lt 0 j d)[q]! = d[q]!
  | 0, d, _, q, _ => by unfold insInner; rfl
  | j + 1, d, hj, q, hq => by
    unfold insInner
    split
    · rw [inner_far lt j _ (by rw [swp_size]; omega) q (by omega), swp_get d hj (show j < d.size by omega), if_neg (by omega), if_neg (by omega)]
    · rfl
theorem inner_all (lt : Int × Int → Int × Int → Bool) (P : Int × Int → Prop) : ∀ (j : Nat) (d : Array (Int × Int)), j < d.size → ∀ i, j ≤ i → (∀ p, p ≤ i → P d[p]!) → ∀ p, p ≤ i → P (insInner lt 0 j d)[p]!
  | 0, d, _, i, _, h, p, hp => by unfold insInner; exact h p hp
  | j + 1, d, hj, i, hi, h, p, hp => by
    unfold insInner
    split
    · refine inner_all lt P j _ (by rw [swp_size]; omega) i (by omega) (fun p hp => ?_) p hp
      rw [swp_get d hj (show j < d.size by omega)]
      split
      · exact h _ (by omega)
      · split
        · exact h _ (by omega)
        · exact h _ hp
    · exact h p hp
theorem outer_lex (b : Nat) : ∀ (n i : Nat) (d : Array (Int × Int)), b - i = n → b ≤ d.size → (∀ p q, p < i → i ≤ q → q < b → d[p]!.1 < d[q]!.1) → (∀ p q, i ≤ p → p < q → q < b → d[p]!.1 < d[q]!.1) →
    insOuter (ltOf cfO) 0 b i d = insOuter lexO 0 b i d
  | 0, i, d, hn, hb, h1, h2 => by
    rw [insOuter, if_neg (by omega), insOuter, if_neg (by omega)]
  | n + 1, i, d, hn, hb, h1, h2 => by
    have hlt : i < b := by omega
    rw [insOuter, if_pos hlt]
    conv => rhs; rw [insOuter, if_pos hlt]
    rw [inner_lex i d (by omega) (fun p hp => h1 p i hp (Nat.le_refl _) hlt)]
    have hs := inner_size lexO i d
    have hf := inner_far lexO i d (by omega)
    refine outer_lex b n (i + 1) _ (by omega) (by omega) (fun p q hp hq hqb => ?_) (fun p q hp hq hqb => ?_)
    · rw [hf q (by omega)]
      refine inner_all lexO (fun x => x.1 < d[q]!.1) i d (by omega) i (Nat.le_refl _) (fun p hp => ?_) p (by omega)
      by_cases e : p = i
      · subst e; exact h2 p q (Nat.le_refl _) (by omega) hqb
      · exact h1 p q (by omega) (by omega) hqb
    · rw [hf p (by omega), hf q (by omega)]
      exact h2 p q (by omega) hq hqb
def oi (os : List Int) (i : Nat) : Int := -9 + os.getD i 0 % 19
theorem oi_in (os : List Int) (i : Nat) : -9 ≤ oi os i ∧ oi os i ≤ 9 := by unfold oi; omega
def bxs (os : List Int) (n : Nat) : Array (Int × Int) := ((List.range n).map fun (i : Nat) => ((i : Int) + 2, oi os i)).toArray
theorem bxs_size (os : List Int) (n : Nat) : (bxs os n).size = n := by simp [bxs]
theorem bxs_get (os : List Int) {n i : Nat} (h : i < n) : (bxs os n)[i]! = ((i : Int) + 2, oi os i) := by
  simp [bxs, h]
def srt (os : List Int) (n : Nat) : Array (Int × Int) := Sort.insertionSort (ltOf cfO) (bxs os n) 0 n
theorem srt_lex (os : List Int) (n : Nat) : srt os n = Sort.insertionSort lexO (bxs os n) 0 n := by
  unfold srt Sort.insertionSort
  refine outer_lex n (n - 1) 1 _ (by omega) (by rw [bxs_size]; exact Nat.le_refl _) (fun p q hp hq hqb => ?_) (fun p q hp hq hqb => ?_)
  · rw [bxs_get os (by omega), bxs_get os hqb]; show (p : Int) + 2 < (q : Int) + 2; omega
  · rw [bxs_get os (by omega), bxs_get os hqb]; show (p : Int) + 2 < (q : Int) + 2; omega
theorem srt_holds (os : List Int) (n : Nat) : PermIn 0 n (bxs os n) (srt os n) ∧ SortedIn lexO 0 n (srt os n) := by
  rw [srt_lex]
  exact insertionSort_holds swo_lex (bxs os n) 0 n (Nat.zero_le _) (by rw [bxs_size]; exact Nat.le_refl _)
theorem srt_size (os : List Int) (n : Nat) : (srt os n).size = n := (srt_holds os n).1.1.trans (bxs_size os n)
theorem srt_mem (os : List Int) {n j : Nat} (h : j < n) : ∃ i : Nat, i < n ∧ (srt os n)[j]! = ((i : Int) + 2, oi os i) :=
  permIn_all (bxs os n) (srt os n) 0 n (fun x => ∃ i : Nat, i < n ∧ x = ((i : Int) + 2, oi os i)) (by rw [bxs_size]; exact Nat.le_refl _) (srt_holds os n).1 (fun i _ hi => ⟨i, hi, bxs_get os hi⟩) j (Nat.zero_le _) h
theorem srt_le (os : List Int) {n i j : Nat} (h : i < j) (hj : j < n) : ¬ (srt os n)[j]!.2 < (srt os n)[i]!.2 ∧ ((srt os n)[j]!.2 = (srt os n)[i]!.2 → ¬ (srt os n)[j]!.1 < (srt os n)[i]!.1) := by
  have := (srt_holds os n).2 i j (Nat.zero_le _) h hj
  simp only [lexO, decide_eq_false_iff_not] at this
  omega
end Go.Abs
