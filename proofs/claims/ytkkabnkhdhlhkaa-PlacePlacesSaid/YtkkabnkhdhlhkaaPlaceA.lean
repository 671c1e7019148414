/-
  The walks of package place's smaller functions: sum, one, Shift and its closures; fixed.Sum.
-/
import Derived.Test.YtkkabnkhdhlhkaaBlockJ
namespace Go.Proofs.Ytkkabnkhdhlhkaa
open Go.RowKit Num Mem Opn
set_option linter.unusedVariables false
set_option linter.unusedSimpArgs false
theorem fixed_Sum (l : List Int) (A : Option Addr) (c B : Nat) (w : World) (hl : l.length ≤ 17592186044416) (hA : Ints w B A l) :
    Calls Try.prog 46 #[.slice A l.length c] w fun e w' => e = .returned (.int .i64 (sums l l.length)) ∧ w = w' := by
  go_enter Try.func46, Try.ntmps46
  go_wp2
  go_loop [3, 8] (fun s i => ∃ k : Nat, k ≤ l.length ∧ i = .int .i64 k ∧ s = .int .i64 (sums l k)) (fun _ i => l.length - (intOf i).toNat)
  case atStart => exact ⟨0, Nat.zero_le _, rfl, rfl⟩
  case round =>
    obtain ⟨k, hk, rfl, rfl⟩ := hrel
    by_cases hlt : k < l.length
    · obtain ⟨b, off, x, rfl, hb, hc, HX⟩ := hA.at_ hlt
      go_wp2_with (go_at_call 40; refine (fixed_Add _ _ _).mono ?_; rintro e w' ⟨rfl, rfl⟩)
      go_round
      case rel => exact ⟨k + 1, by omega, by go_num, by simp only [sums, HX.out]⟩
      case measure => simp [intOf]; omega
    · obtain rfl : k = l.length := by omega
      go_wp2
      go_ret
      exact ⟨rfl, rfl⟩

theorem ref_Sum (l : List Int) (A : Option Addr) (c B : Nat) (w : World) (hl : l.length ≤ 17592186044416) (hA : Ints w B A l) :
    Calls Try.prog 57 #[.slice A l.length c] w fun e w' => e = .returned (.int .i64 (sums l l.length)) ∧ w = w' := by
  go_enter Try.func57, Try.ntmps57
  go_wp2
  go_loop [3, 4] (fun s i => ∃ k : Nat, k ≤ l.length ∧ i = .int .i64 k ∧ s = .int .i64 (sums l k)) (fun _ i => l.length - (intOf i).toNat)
  case atStart => exact ⟨0, Nat.zero_le _, rfl, rfl⟩
  case round =>
    obtain ⟨k, hk, rfl, rfl⟩ := hrel
    by_cases hlt : k < l.length
    · obtain ⟨b, off, x, rfl, hb, hc, HX⟩ := hA.at_ hlt
      go_wp2_with (go_at_call 59; refine (ref_Add _ _ _).mono ?_; rintro e w' ⟨rfl, rfl⟩)
      go_round
      case rel => exact ⟨k + 1, by omega, by go_num, by simp only [sums, HX.out]⟩
      case measure => simp [intOf]; omega
    · obtain rfl : k = l.length := by omega
      go_wp2
      go_ret
      exact ⟨rfl, rfl⟩

namespace Num
def Fr.sum (f : Fr) (down : Bool) : Int := if down then add (add f.m.t f.m.b) f.down else add (add f.m.l f.m.r) f.across
/-- a length that counts only if its room is sure. -/
def upTo (k n h : Int) (sure : Bool) : Int × Bool := if k = 2 ∧ sure = false then (0, false) else (len k n h, given k)
def oneOf (a b : Int × Bool) : Int := if a.2 then a.1 else sub 0 b.1
end Num
set_option maxRecDepth 100000 in
theorem place_sum (f : Fr) (down : Bool) (w : World) : Calls Try.prog 45 #[.agg f.arr, .bool down] w fun e w' => e = .returned (.int .i64 (f.sum down)) ∧ Below w.heap.size w w' := by
  have hB := Blk.new w 35 f.arr
  have hg : Below w.heap.size w (w.alloc (.cells f.arr 35)) := by go_grown
  go_enter Try.func45, Try.ntmps45
  go_wp2_with (first | (first | refine stop_load 28 _ rfl rfl ?_ | refine stop_store 28 _ _ rfl rfl ?_) | (first | refine stop_load 35 _ rfl rfl ?_ | refine stop_store 35 _ _ rfl rfl ?_))
  refine ⟨?_⟩
  refine wl_load rfl 35 _ rfl _ rfl _ _ _ hB rfl rfl (info_frame _) ?_
  (try simp only [Act.put, List.setIfInBounds_toArray, List.set_cons_zero, List.set_cons_succ])
  go_wp2_with (first | (first | refine stop_load 28 _ rfl rfl ?_ | refine stop_store 28 _ _ rfl rfl ?_) | (first | refine stop_load 35 _ rfl rfl ?_ | refine stop_store 35 _ _ rfl rfl ?_))
  refine (block_Inner f _).mono ?_
  rintro e w1 ⟨rfl, hb⟩
  replace hg := hg.trans (hb.mono hg.size)
  replace hB := hB.below hb hB.lt
  clear hb
  have c0 : w1.cell? ⟨w.heap.size, 0, none⟩ = some (.int .i64 f.m.t) := hB.cell 0
  have c1 : w1.cell? ⟨w.heap.size, 1, none⟩ = some (.int .i64 f.m.r) := hB.cell 1
  have c2 : w1.cell? ⟨w.heap.size, 2, none⟩ = some (.int .i64 f.m.b) := hB.cell 2
  have c3 : w1.cell? ⟨w.heap.size, 3, none⟩ = some (.int .i64 f.m.l) := hB.cell 3
  clear hB
  cases down <;> (
  go_wp2_with (first | (go_at_call 40; refine (fixed_Add _ _ _).mono ?_; rintro e w' ⟨rfl, rfl⟩))
  go_returns
  exact ⟨rfl, hg⟩)
/-- the closure of Shift that reads across. -/
theorem place_c1 (k n room : Int) (p : Addr) (w : World) (hp : w.cell? p = some (.int .i64 room)) :
    Calls Try.prog 47 #[.agg #[.int .i64 k, .int .i64 n], .pointer (some p)] w fun e w' => e = .returned (.tuple #[.int .i64 (len k n room), .bool (given k)]) ∧ Below w.heap.size w w' := by
  have hbp := World.block_lt_of_cell? w p hp
  go_enter Try.func47, Try.ntmps47
  go_wp2_with fail
  refine (block_Length _ _ _ _).mono ?_
  rintro e w1 ⟨rfl, hb⟩
  go_wp2_with fail
  go_returns
  exact ⟨rfl, ((Below.refl _ w).alloc (Nat.le_refl _) _).trans (hb.mono (by simp))⟩
theorem place_c2 (k n room : Int) (sure : Bool) (p q : Addr) (w : World) (hp : w.cell? p = some (.bool sure)) (hq : w.cell? q = some (.int .i64 room)) :
    Calls Try.prog 48 #[.agg #[.int .i64 k, .int .i64 n], .pointer (some p), .pointer (some q)] w fun e w' => e = .returned (.tuple #[.int .i64 (upTo k n room sure).1, .bool (upTo k n room sure).2]) ∧ Below w.heap.size w w' := by
  have hbp := World.block_lt_of_cell? w p hp
  have hbq := World.block_lt_of_cell? w q hq
  have hU : ∀ b, (k == 2) = b → upTo k n room sure = if b && !sure then (0, false) else (len k n room, given k) := by
    rintro b rfl
    unfold upTo
    cases sure <;> simp
  cases hk : (k == 2) <;> cases sure <;> (
  replace hU : Hid (_ = _) := hU _ hk
  go_enter Try.func48, Try.ntmps48
  go_wp2_with fail
  first
  | (refine (block_Length _ _ _ _).mono ?_
     rintro e w1 ⟨rfl, hb⟩
     go_wp2_with fail
     go_returns
     exact ⟨by rw [hU.out]; rfl, ((Below.refl _ w).alloc (Nat.le_refl _) _).trans (hb.mono (by simp))⟩)
  | (go_returns
     exact ⟨by rw [hU.out]; rfl, by go_grown⟩))
end Go.Proofs.Ytkkabnkhdhlhkaa
