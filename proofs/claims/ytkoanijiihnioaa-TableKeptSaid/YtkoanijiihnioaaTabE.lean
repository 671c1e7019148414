/-
  The walk of table.Rows.
-/
import Derived.Test.YtkoanijiihnioaaTabD
namespace Go.Proofs.Ytkoanijiihnioaa
open Go.RowKit Num Mem Opn
set_option linter.unusedVariables false
set_option linter.unusedSimpArgs false
namespace Num
def fl1 (n : Int) : List Value := [.int .i64 n]
/-- the greatest of the first k, and 0. -/
def mx (r : List Int) : Nat → Int
  | 0 => 0
  | k + 1 => max (mx r k) (r.getD k 0)
def rowsM (ls : List (List Int)) : List Int := ls.map fun r => mx r r.length
theorem mx_lo (r : List Int) (k : Nat) : 0 ≤ mx r k := by
  induction k with
  | zero => exact Int.le_refl _
  | succ k ih => simp only [mx]; omega
end Num
theorem fl1_length (n : Int) : (fl1 n).length = 1 := rfl
theorem fl1_flat (l : List Int) : l.flatMap fl1 = l.map (Value.int .i64) := by
  induction l with
  | nil => rfl
  | cons x l ih => simp only [List.flatMap_cons, List.map_cons, ih, fl1]; rfl
theorem ints_of_recs {w : World} {B : Nat} {A : Option Addr} {r : List Int} (h : Recs w B A 1 fl1 r) : Ints w B A r := by
  intro hne
  obtain ⟨b, off, e, hb, hc⟩ := h (by rintro rfl; simp at hne)
  refine ⟨b, off, e, hb, fun j hj => ?_⟩
  have hj' : j < r.length := by simpa using hj
  have := hc j _ (List.getElem?_eq_getElem hj') 0 _ rfl
  simp only [Nat.mul_one, Nat.add_zero] at this
  rw [this]
  simp [hj']
set_option maxRecDepth 100000 in
set_option maxHeartbeats 4000000 in
theorem table_Rows (ls : List (List Int)) (vs : List Value) (A : Option Addr) (c : Nat) (w : World) (hl : ls.length ≤ 1000) (hA : Rows2 w w.heap.size A 1 fl1 vs ls) (hw : ∀ r ∈ ls, r.length ≤ 4611686018427387904 ∧ ∀ x ∈ r, I64 x) :
    Calls Try.prog 38 #[.slice A ls.length c] w fun e w' => ∃ v, e = .returned v ∧ Below w.heap.size w w' ∧ w'.ownsRow w.heap.size 2 1 v ls.length ((rowsM ls).map (Value.int .i64)) := by
  obtain ⟨i1, hi1, hz1, hs1, hb1⟩ := info_parts info_i64
  replace hw := hid hw
  go_enter Try.func38, Try.ntmps38
  go_wp2_with fail
  go_loopw [3, 11] (fun s3 s11 wr => ∃ (k : Nat), k ≤ ls.length ∧ s11 = .int .i64 k ∧ wr.ownsRow w.heap.size 2 1 s3 k ((rowsM (ls.take k)).map (Value.int .i64)) ∧ Below w.heap.size w wr) (fun _ i _ => ls.length - (intOf i).toNat)
  case atStart => exact ⟨0, Nat.zero_le _, rfl, own_nil _ _ _ _, Below.refl _ _⟩
  case round =>
    obtain ⟨k, hk, rfl, ho, hB⟩ := hrel
    have hz := hB.size
    by_cases hlt : k < ls.length
    · obtain ⟨b, off, A', c', r, rfl, hb, HR, cr, hrc, hRr⟩ := Rows2.at_ (hA.below hB) hlt
      obtain ⟨hrl, hrk⟩ := hw.out r (List.mem_of_getElem? HR.out)
      have hI := ints_of_recs hRr
      have HU : Hid ((rowsM (ls.take (k + 1))).map (Value.int .i64) = (rowsM (ls.take k)).map (Value.int .i64) ++ [.int .i64 (mx r r.length)]) := hid (by rw [take_more HR.out]; simp [rowsM])
      replace hrk := hid hrk
      go_wp2_with fail
      clear cr
      go_loop [6, 17] (fun s6 s17 => ∃ j : Nat, j ≤ r.length ∧ s17 = .int .i64 j ∧ s6 = .int .i64 (mx r j)) (fun _ i => r.length - (intOf i).toNat)
      case atStart => exact ⟨0, Nat.zero_le _, rfl, rfl⟩
      case round =>
        obtain ⟨j, hj, rfl, rfl⟩ := hrel
        by_cases hlt2 : j < r.length
        · obtain ⟨bi, oi, x, rfl, hbi, hc, HX⟩ := hI.at_ hlt2
          have HM : Hid (mx r (j + 1) = max (mx r j) x) := hid (by show max _ _ = _; rw [HX.out])
          go_wp2_with fail
          go_round
          case rel => exact ⟨j + 1, by omega, by go_num, by rw [HM.out]⟩
          case measure => simp [intOf]; omega
        · obtain rfl : j = r.length := by omega
          obtain ⟨A3, c3, rfl, hc3⟩ := own_some ho
          generalize mx r r.length = m at *
          have hown := ho.alloc (.cells #[.int .i64 m] 2)
          have hba : Below w.heap.size w (wr.alloc (.cells #[.int .i64 m] 2)) := hB.alloc hz _
          clear hI hRr
          go_wp2_with (refine stop_append _ _ _ _ rfl ?_)
          refine ⟨?_⟩
          refine wpList_append_own _ rfl _ _ 55 rfl w.heap.size 2 i1 (.int .i64 0) 1 8 Try.underlying55 hi1 hz1 hs1 hb1 rfl (by decide) (.slice A3 k c3) _ _ rfl hown ⟨wr.heap.size, 0, none⟩ 1 1 [.int .i64 m] rfl rfl (news19 (Blk.new wr 2 #[.int .i64 m]) rfl) (by simp [Value.oneCell']) (by unfold maxLen; omega) (by omega) (by simp; omega) ?_
          intro v4 w4 ho4 hg4 _
          (try simp only [Act.put, List.setIfInBounds_toArray, List.set_cons_zero, List.set_cons_succ])
          have hB4 := hba.trans (own_belowB hown hg4 (by simp; omega))
          obtain ⟨A4, c4, rfl, -⟩ := own_some ho4
          clear hown hba hg4 ho hB
          go_wp2_with fail
          go_roundw
          case rel => exact ⟨k + 1, by omega, by go_num, by rw [HU.out]; exact ho4, hB4⟩
          case measure => simp [intOf]; omega
    · obtain rfl : k = ls.length := by omega
      obtain ⟨A3, c3, rfl, hc3⟩ := own_some ho
      go_wp2_with fail
      go_ret
      rw [List.take_length] at ho
      exact ⟨_, rfl, hB, ho⟩
end Go.Proofs.Ytkoanijiihnioaa
