/-
  The walks of the statements' own helpers on rows of numbers: Same, Roomy, Intact; and of Sum.
-/
import Derived.Test.YteghacdpfhohoaaShare
import Derived.Laws.CopyOwn
namespace Go.Proofs.Yteghacdpfhohoaa
open Go.RowKit Num Mem

/-- two rows that read alike are the same. -/
theorem book_Same (l : List Int) (A A' : Option Addr) (c c' B B' : Nat) (w : World) (hl : l.length ≤ 35184372088832) (hA : Ints w B A l) (hA' : Ints w B' A' l) :
    Calls Try.prog 47 #[.slice A l.length c, .slice A' l.length c'] w fun e w' => e = .returned (.bool true) ∧ Drawn w w' := by
  go_enter Try.func47, Try.ntmps47
  go_wp2
  go_loopw [5] (fun i wr => ∃ k : Nat, k ≤ l.length ∧ i = .int .i64 k ∧ Drawn w wr) (fun i _ => l.length - (intOf i).toNat)
  case atStart => exact ⟨0, Nat.zero_le _, rfl, .refl _⟩
  case round =>
    obtain ⟨k, hk, rfl, HW⟩ := hrel
    by_cases hlt : k < l.length
    · obtain ⟨b, off, x, rfl, hb, hc, HX⟩ := (hA.drawn HW).at_ hlt
      obtain ⟨b', off', x', rfl, hb', hc', HX'⟩ := (hA'.drawn HW).at_ hlt
      obtain rfl : x = x' := HX.out.symm.trans HX'.out
      go_wp2
      go_quiet (fail)
      go_wp2
      go_roundw
      case rel => exact ⟨k + 1, by omega, by go_num, HW.more _⟩
      case measure => simp [intOf]; omega
    · obtain rfl : k = l.length := by omega
      go_wp2
      go_ret
      exact ⟨rfl, HW⟩

/-- a row of its own: what came in, and 80 marks behind it. -/
theorem book_Roomy (l : List Int) (A : Option Addr) (c : Nat) (m : Int) (w : World) (hl : l.length ≤ 17592186044416) (hA : Ints w w.heap.size A l) :
    Calls Try.prog 20 #[.slice A l.length c, .int .i64 m] w fun e w' =>
      e = .returned (.slice (some ⟨w.heap.size, 0, none⟩) (l.length + 80) (l.length + 80)) ∧ Below w.heap.size w w' ∧ Blk w' w.heap.size 2 (ints (l ++ List.replicate 80 m)) := by
  have hmk := make_ints (l.length + 80) (by omega)
  simp only [Int.natCast_add, Int.cast_ofNat_Int] at hmk
  go_enter Try.func20, Try.ntmps20
  have hsz : (Try.prog.info? 2).map (·.size) = some 1 := by
    obtain ⟨i, hi, _, hs, _⟩ := info_parts info_i64
    simp [hi, hs]
  go_wp2_with ((with_reducible refine wpList_copy_splice rfl (.tmp 11) (.tmp 12) 27 27 rfl 2 Try.underlying27 hsz (some ⟨w.heap.size, 0, none⟩) A (l.length + 80) (l.length + 80) l.length c rfl rfl w.heap.size 0 ((List.replicate (l.length + 80) 0).map (Value.int .i64)) 2 ?hg (l.map (Value.int .i64)) ?hn ?hpos ?hfit ?h1 w.heap.size w ?hb (Nat.le_refl _) ?_); rotate_right; intro w1 hg1 hb1)
  case hg => exact Blk.new w _ _
  case hn => simp
  case hpos =>
    intro h0
    obtain ⟨b, off, rfl, hb, hc⟩ := hA (by intro e; simp at e; simp [e] at h0)
    refine ⟨_, rfl, fun j a ha => ?_⟩
    have hj : j < l.length := (List.getElem?_eq_some_iff.1 ha).1
    rw [show (Addr.add ⟨b, off, none⟩ j) = ⟨b, off + j, none⟩ by unfold Addr.add; split <;> simp_all]
    rw [World.cell?_alloc_past _ _ _ hb, hc j (by simpa using hj)]
    simp [ha]
  case hfit => simp
  case h1 => simp [Value.oneCell']
  case hb => exact (Below.refl _ _).alloc (Nat.le_refl _) _
  have hB1 : Blk w1 w.heap.size 2 (ints (room l m 0 0)) := by
    have h := hg1.out
    rw [room_none]
    rw [← List.replicate_append_replicate, List.map_append] at h
    simp only [splice, List.take_zero, List.nil_append, Nat.zero_add] at h
    rw [List.drop_append_of_le_length (by simp), List.drop_of_length_le (by simp), List.nil_append, ← List.map_append] at h
    exact h
  clear hg1 hsz hmk
  go_loopw [6] (fun i wr => ∃ k : Nat, k ≤ 80 ∧ i = .int .i64 (l.length + k : Nat) ∧ Blk wr w.heap.size 2 (ints (room l m 0 k)) ∧ Below w.heap.size w wr) (fun i _ => l.length + 80 - (intOf i).toNat)
  case atStart => exact ⟨0, by omega, rfl, hB1, hb1⟩
  case round =>
    clear hB1 hb1
    obtain ⟨k, hk, rfl, hO, hB⟩ := hrel
    by_cases hlt : k < 80
    · have hf := hO.free (l.length + k)
      obtain ⟨x, hx, HX⟩ := hO.intAt (i := l.length + k) (by rw [room_length _ _ _ hk]; omega)
      go_wp2
      go_roundw
      case rel => exact ⟨k + 1, by omega, by go_num, by rw [← room_set l m 0 hlt]; exact hO.putInt _ _, hB.setCell (by simp) _⟩
      case measure => simp [intOf]; omega
    · obtain rfl : k = 80 := by omega
      go_wp2
      go_ret
      exact ⟨rfl, hB, by rw [← room_all l m 0]; exact hO⟩

/-- what Roomy made, unwritten, is intact. -/
theorem book_Intact (l : List Int) (A A' : Option Addr) (c c' B B' : Nat) (m : Int) (w : World) (hl : l.length ≤ 17592186044416) (hc : l.length + 80 ≤ c) (hA : Ints w B A (l ++ List.replicate 80 m)) (hA' : Ints w B' A' l) :
    Calls Try.prog 27 #[.slice A (l.length + 80) c, .slice A' l.length c', .int .i64 m] w fun e w' => e = .returned (.bool true) ∧ Drawn w w' := by
  have hT : Ints w B A l := by
    have := hA.take l.length
    rwa [List.take_append_of_le_length (Nat.le_refl _), List.take_length] at this
  go_enter Try.func27, Try.ntmps27
  go_wp2_with fail
  refine (book_Same l A A' _ _ B B' _ (by omega) hT hA').mono ?_
  rintro e w1 ⟨rfl, hd⟩
  go_wp2
  go_loopw [7] (fun i wr => ∃ k : Nat, k ≤ 80 ∧ i = .int .i64 (l.length + k : Nat) ∧ Drawn w wr) (fun i _ => l.length + 80 - (intOf i).toNat)
  case atStart => exact ⟨0, by omega, rfl, hd⟩
  case round =>
    clear hd
    obtain ⟨k, hk, rfl, hd⟩ := hrel
    by_cases hlt : k < 80
    · obtain ⟨b, off, x, rfl, hb, hc, HX⟩ := (hA.drawn hd).at_ (k := l.length + k) (by simp; omega)
      obtain rfl : m = x := by
        have := HX.out
        rw [List.getD_eq_getElem?_getD, List.getElem?_append_right (by omega)] at this
        rw [show l.length + k - l.length = k by omega, List.getElem?_replicate, if_pos hlt] at this
        simpa using this
      go_wp2
      go_roundw
      case rel => exact ⟨k + 1, by omega, by go_num, hd⟩
      case measure => simp [intOf]; omega
    · obtain rfl : k = 80 := by omega
      go_wp2
      go_ret
      exact ⟨rfl, hd⟩

end Go.Proofs.Yteghacdpfhohoaa
