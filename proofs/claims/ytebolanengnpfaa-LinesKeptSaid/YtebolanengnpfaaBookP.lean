/-
  The walks of Roomy, Same and Intact at pieces.
-/
import Derived.Test.YtebolanengnpfaaPieceEq
import Derived.Test.YtebolanengnpfaaCopy
import Derived.Test.YtebolanengnpfaaOrd
namespace Go.Proofs.Ytebolanengnpfaa
open Go.RowKit Num Mem Opn
set_option linter.unusedVariables false
set_option linter.unusedSimpArgs false
namespace Mem
theorem flat_cells {α : Type} {w : World} {b sz : Nat} {fl : α → List Value} (hfl : ∀ x, (fl x).length = sz) : ∀ (l : List α) (off : Nat), (∀ i x, l[i]? = some x → ∀ j v, (fl x)[j]? = some v → w.cell? ⟨b, off + i * sz + j, none⟩ = some v) → ∀ j v, (l.flatMap fl)[j]? = some v → w.cell? ⟨b, off + j, none⟩ = some v := by
  intro l
  induction l with
  | nil => intro off _ j v h; simp at h
  | cons x t ih =>
    intro off hc j v h
    rw [List.flatMap_cons] at h
    rcases Nat.lt_or_ge j sz with h1 | h1
    · rw [List.getElem?_append_left (by rw [hfl]; exact h1)] at h
      have := hc 0 x rfl j v h
      rwa [Nat.zero_mul, Nat.add_zero] at this
    · rw [List.getElem?_append_right (by rw [hfl]; exact h1), hfl] at h
      have := ih (off + sz) (fun i y hy j v hv => by
        have := hc (i + 1) y (by simpa using hy) j v hv
        rwa [show off + (i + 1) * sz + j = off + sz + i * sz + j by rw [Nat.add_mul]; omega] at this) (j - sz) v h
      rwa [show off + sz + (j - sz) = off + j by omega] at this
theorem Recs.flat {α : Type} {w : World} {B : Nat} {A : Option Addr} {sz : Nat} {fl : α → List Value} {l : List α} (hfl : ∀ x, (fl x).length = sz) (h : Recs w B A sz fl l) (hn : 0 < l.length) : ∃ b off, A = some ⟨b, off, none⟩ ∧ b < B ∧ ∀ j v, (l.flatMap fl)[j]? = some v → w.cell? ⟨b, off + j, none⟩ = some v := by
  obtain ⟨b, off, e, hb, hc⟩ := h (by rintro rfl; simp at hn)
  exact ⟨b, off, e, hb, flat_cells hfl l off hc⟩
theorem flat_one {α : Type} {fl : α → List Value} (h : ∀ x, ∀ v ∈ fl x, v.oneCell' = true) (l : List α) : ∀ v ∈ l.flatMap fl, v.oneCell' = true := by
  intro v hv
  rw [List.mem_flatMap] at hv
  obtain ⟨x, _, hx⟩ := hv
  exact h x v hx
end Mem
theorem piece_one (p : Pc) : ∀ v ∈ p.cells, v.oneCell' = true := fun u hu => (Array.all_eq_true_iff_forall_mem.1 (Pc.one p)) u (by simpa [Pc.cells] using hu)
theorem guard_piece : Try.prog.eqGuardType Try.prog.depth 36 = false := by kernel_rfl
def pc0 : Pc := ⟨0, 0, 0, 0, false⟩
theorem info_piece_list (p : Pc) : (Try.prog.info? 36).map (·.size) = some p.arr.toList.length := info_piece
theorem make_pieces (n : Nat) (h : n ≤ 1000000) (w : World) :
    (Instr.makeSlice 23 (.int .i64 (n : Int)) (.int .i64 (n : Int))).run Try.prog w = .ok (.slice (some ⟨w.heap.size, 0, none⟩) n n) (w.alloc (.cells ((List.replicate n pc0).flatMap Pc.cells).toArray 36)) := by
  obtain ⟨i, hi, hz, hs, hb⟩ := info_parts info_piece57
  have hr := run_make (P := Try.prog) w 23 36 i (.agg (Pc.arr pc0)) Try.underlying23 hi hz .i64 .i64 (n : Int) (n : Int) (by omega) (by omega) (by rw [hb]; omega) (by omega)
  rw [hs] at hr
  simp only [Int.toNat_natCast] at hr
  rw [hr]
  have hm := made_flat (fl := Pc.cells) (z := pc0) (zv := Pc.arr pc0) rfl (by decide) n
  rw [show (Pc.arr pc0).size = 57 from rfl] at hm
  rw [show (Value.agg (Pc.arr pc0)).cells = Pc.arr pc0 from rfl, hm]
set_option maxRecDepth 100000 in
set_option maxHeartbeats 2000000 in
theorem book_RoomyP (l : List Pc) (A : Option Addr) (c : Nat) (m : Pc) (w : World) (hl : l.length ≤ 100000) (hA : Pcs w w.heap.size A l) :
    Calls Try.prog 12 #[.slice A l.length c, .agg m.arr] w fun e w' =>
      ∃ g, e = .returned (.slice (some ⟨g, 0, none⟩) (l.length + 80) (l.length + 80)) ∧ Below w.heap.size w w' ∧ w.heap.size ≤ g ∧ Blk w' g 36 ((l ++ List.replicate 80 m).flatMap Pc.cells).toArray := by
  have hmk := make_pieces (l.length + 80) (by omega)
  simp only [Int.natCast_add, Int.cast_ofNat_Int] at hmk
  have hM : Blk ((w.alloc (.cells m.arr 36)).alloc (.cells ((List.replicate (l.length + 80) pc0).flatMap Pc.cells).toArray 36)) w.heap.size 36 m.arr := (Blk.new _ _ _).alloc _
  have hN : Blk ((w.alloc (.cells m.arr 36)).alloc (.cells ((List.replicate (l.length + 80) pc0).flatMap Pc.cells).toArray 36)) (w.heap.size + 1) 36 ((List.replicate l.length pc0).flatMap Pc.cells ++ (List.replicate 80 pc0).flatMap Pc.cells).toArray := by
    have := Blk.newAt (n := w.heap.size + 1) (w.alloc (.cells m.arr 36)) 36 ((List.replicate (l.length + 80) pc0).flatMap Pc.cells).toArray (by simp)
    have he : (List.replicate (l.length + 80) pc0).flatMap Pc.cells = (List.replicate l.length pc0).flatMap Pc.cells ++ (List.replicate 80 pc0).flatMap Pc.cells := by rw [← List.replicate_append_replicate, List.flatMap_append]
    rw [← he]
    exact this
  have hB : Below w.heap.size w ((w.alloc (.cells m.arr 36)).alloc (.cells ((List.replicate (l.length + 80) pc0).flatMap Pc.cells).toArray 36)) := by go_grown
  have hF : ∀ n, ((List.replicate n pc0).flatMap Pc.cells).length = n * 57 := fun n => by rw [flat_length Pc.cells_length, List.length_replicate]
  go_enter Try.func12, Try.ntmps12
  go_wp2_with ((with_reducible refine wl_copy_recs rfl (.tmp 11) (.tmp 12) 23 23 rfl 36 57 (w.heap.size + 1) (l.length + 80) (l.length + 80) A l.length c Try.underlying23 info_piece rfl rfl ?hle 36 ((List.replicate l.length pc0).flatMap Pc.cells) ((List.replicate 80 pc0).flatMap Pc.cells) (l.flatMap Pc.cells) hN ?hcl ?hold ?hpos ?h1 ?_); rotate_right; intro w1 hg1 hc1)
  case hle => omega
  case hcl => rw [flat_length Pc.cells_length]
  case hold => exact hF _
  case hpos =>
    intro h0
    obtain ⟨b, off, rfl, hb, hc⟩ := ((hA.below hB).flat Pc.cells_length h0)
    exact ⟨_, rfl, fun j v hv => by rw [Addr.add_mid]; exact hc j v hv⟩
  case h1 => exact flat_one piece_one l
  have hB1 := hB.trans (hc1.below (by omega))
  have hM1 := hM.chg hc1 (by omega)
  have hR : Blk w1 (w.heap.size + 1) 36 ((room l m pc0 0).flatMap Pc.cells).toArray := by
    rw [room_none, List.flatMap_append]; exact hg1
  clear hM hN hB hF hmk hg1 hc1
  go_loopw [6] (fun i wr => ∃ k : Nat, k ≤ 80 ∧ i = .int .i64 (l.length + k : Nat) ∧ Blk wr (w.heap.size + 1) 36 ((room l m pc0 k).flatMap Pc.cells).toArray ∧ Blk wr w.heap.size 36 m.arr ∧ Below w.heap.size w wr) (fun i _ => l.length + 80 - (intOf i).toNat)
  case atStart => exact ⟨0, by omega, rfl, hR, hM1, hB1⟩
  case round =>
    clear hR hM1 hB1
    obtain ⟨k, hk, rfl, hR, hM, hB⟩ := hrel
    by_cases hlt : k < 80
    · have hz : (room l m pc0 k)[l.length + k]? = some pc0 := by
        unfold room
        rw [List.append_assoc, List.getElem?_append_right (by omega), List.getElem?_append_right (by simp)]
        rw [show l.length + k - l.length - (List.replicate k m).length = 0 by simp, List.getElem?_replicate, if_pos (by omega)]
      obtain ⟨hsp, hspl⟩ := flat_split Pc.cells_length (room l m pc0 k) hz
      have hset := flat_set (fl := Pc.cells) (room l m pc0 k) m (i := l.length + k) (List.getElem?_eq_some_iff.1 hz).1
      rw [room_set l m pc0 hlt] at hset
      rw [hsp] at hR
      go_wp2_with (first | (first | refine stop_load 36 _ rfl rfl ?_ | refine stop_store 36 _ _ rfl rfl ?_))
      refine ⟨?_⟩
      refine wl_load rfl 36 _ rfl w.heap.size rfl 36 m.arr _ hM rfl rfl info_piece ?_
      (try simp only [Act.put, List.setIfInBounds_toArray, List.set_cons_zero, List.set_cons_succ])
      go_wp2_with (first | (first | refine stop_load 36 _ rfl rfl ?_ | refine stop_store 36 _ _ rfl rfl ?_))
      refine ⟨?_⟩
      refine wl_store_at rfl 36 _ _ rfl (w.heap.size + 1) _ m.arr rfl rfl 36 _ _ _ hR hspl (Pc.cells_length _) info_piece m.one ?_
      intro w2 hR2 hC
      have hR3 : Blk w2 (w.heap.size + 1) 36 ((room l m pc0 (k + 1)).flatMap Pc.cells).toArray := by rw [hset]; exact hR2
      have hM2 := hM.chg hC (by omega)
      have hB2 := hB.trans (hC.below (by omega))
      clear hR hM hB hR2 hC hsp hspl hset hz
      (try simp only [Act.put, List.setIfInBounds_toArray, List.set_cons_zero, List.set_cons_succ])
      go_wp2_with fail
      go_roundw
      case rel => exact ⟨k + 1, by omega, by go_num, hR3, hM2, hB2⟩
      case measure => simp [intOf]; omega
    · obtain rfl : k = 80 := by omega
      go_wp2_with fail
      go_ret
      exact ⟨_, rfl, hB, by omega, by rw [← room_all l m pc0]; exact hR⟩
set_option maxRecDepth 100000 in
set_option maxHeartbeats 2000000 in
/-- two rows that read alike are the same. -/
theorem book_SameP (l : List Pc) (n : Nat) (A A' : Option Addr) (c c' B B' : Nat) (w : World) (hn : l.length = n) (hl : n ≤ 100000) (hok : ∀ p ∈ l, Pc.Ok p) (hA : Pcs w B A l) (hA' : Pcs w B' A' l) :
    Calls Try.prog 36 #[.slice A n c, .slice A' n c'] w fun e w' => e = .returned (.bool true) ∧ Drawn w w' := by
  subst hn
  go_enter Try.func36, Try.ntmps36
  go_wp2_with fail
  go_loopw [5] (fun i wr => ∃ k : Nat, k ≤ l.length ∧ i = .int .i64 k ∧ Drawn w wr) (fun i _ => l.length - (intOf i).toNat)
  case atStart => exact ⟨0, Nat.zero_le _, rfl, .refl _⟩
  case round =>
    obtain ⟨k, hk, rfl, HW⟩ := hrel
    by_cases hlt : k < l.length
    · obtain ⟨b, off, p, rfl, hb, hp, hr⟩ := Pcs.get (hA.drawn HW) hlt
      obtain ⟨b', off', p', rfl, hb', hp', hr'⟩ := Pcs.get (hA'.drawn HW) hlt
      obtain rfl : p = p' := Option.some.inj (hp.out.symm.trans hp'.out)
      have hokp := hok p (List.mem_of_getElem? hp.out)
      have hneq := neq_piece p hokp
      go_wp2_with fail
      refine wp_region_noPanic ?_
      refine Ord.region_ord (S := fun W => W.rangeAt b (off + k * 57) p.arr.toList ∧ W.rangeAt b' (off' + k * 57) p.arr.toList) [(0, true), (1, true), (2, true), (3, true), (4, true), (5, true), (6, true), (7, true), (8, true)] (by kernel_rfl) (by kernel_rfl) (by kernel_rfl) (by decide) (fun _ _ _ _ _ h => h) (⟨fun j v hv => hr j v hv, fun j v hv => hr' j v hv⟩) (fun hS0 => ?_)
      simp only [Ord.lay, List.getElem?_cons_zero, List.getElem?_cons_succ]
      (refine Ord.take (v := ?_) (Or.inl ⟨rfl, ?_⟩) ?_; rotate_left; (intro w hSw; (try dsimp only at hSw); go_simp; try (with_reducible rfl)); (try simp only [Act.put, List.setIfInBounds_toArray, List.set_cons_zero, List.set_cons_succ]))
      (refine Ord.take (v := ?_) (Or.inl ⟨rfl, ?_⟩) ?_; rotate_left; (intro w hSw; (try dsimp only at hSw); go_simp; try (with_reducible rfl)); (try simp only [Act.put, List.setIfInBounds_toArray, List.set_cons_zero, List.set_cons_succ]))
      (refine Ord.take (v := ?_) (Or.inl ⟨rfl, ?_⟩) ?_; rotate_left; (intro w hSw; (try dsimp only at hSw); go_simp; try (with_reducible rfl)); (try simp only [Act.put, List.setIfInBounds_toArray, List.set_cons_zero, List.set_cons_succ]))
      (refine Ord.take (yieldsIf_load_mid rfl _ _ rfl b (off + k * 57) rfl _ _ (fun w' h => h.1) Try.underlying36 rfl (info_piece_list _)) ?_; (try simp only [Act.put, List.setIfInBounds_toArray, List.set_cons_zero, List.set_cons_succ]))
      (refine Ord.take (v := ?_) (Or.inl ⟨rfl, ?_⟩) ?_; rotate_left; (intro w hSw; (try dsimp only at hSw); go_simp; try (with_reducible rfl)); (try simp only [Act.put, List.setIfInBounds_toArray, List.set_cons_zero, List.set_cons_succ]))
      (refine Ord.take (v := ?_) (Or.inl ⟨rfl, ?_⟩) ?_; rotate_left; (intro w hSw; (try dsimp only at hSw); go_simp; try (with_reducible rfl)); (try simp only [Act.put, List.setIfInBounds_toArray, List.set_cons_zero, List.set_cons_succ]))
      (refine Ord.take (v := ?_) (Or.inl ⟨rfl, ?_⟩) ?_; rotate_left; (intro w hSw; (try dsimp only at hSw); go_simp; try (with_reducible rfl)); (try simp only [Act.put, List.setIfInBounds_toArray, List.set_cons_zero, List.set_cons_succ]))
      (refine Ord.take (yieldsIf_load_mid rfl _ _ rfl b' (off' + k * 57) rfl _ _ (fun w' h => h.2) Try.underlying36 rfl (info_piece_list _)) ?_; (try simp only [Act.put, List.setIfInBounds_toArray, List.set_cons_zero, List.set_cons_succ]))
      (refine Ord.take (v := .bool false) (Or.inl ⟨rfl, fun w _ => by simp only [execOp, Act.eval]; simp [hneq, run_eqGuard_agg (hm := guard_piece)]⟩) ?_; (try simp only [Act.put, List.setIfInBounds_toArray, List.set_cons_zero, List.set_cons_succ]))
      refine Ord.done (NoPanic.normal ?_)
      go_wp2_with fail
      go_roundw
      case rel => exact ⟨k + 1, by omega, by go_num, HW.drew⟩
      case measure => simp [intOf]; omega
    · obtain rfl : k = l.length := by omega
      go_wp2_with fail
      go_ret
      exact ⟨rfl, HW⟩
set_option maxRecDepth 100000 in
set_option maxHeartbeats 2000000 in
/-- what Roomy made, unwritten, is intact. -/
theorem book_IntactP (l : List Pc) (n m' : Nat) (A A' : Option Addr) (c c' : Nat) (m : Pc) (w : World) (hn : l.length = n) (hm : n + 80 = m') (hl : n ≤ 100000) (hc : m' ≤ c) (hok : ∀ p ∈ l, Pc.Ok p) (hmok : Pc.Ok m) (hA : Pcs w w.heap.size A (l ++ List.replicate 80 m)) (hA' : Pcs w w.heap.size A' l) :
    Calls Try.prog 18 #[.slice A m' c, .slice A' n c', .agg m.arr] w fun e w' => e = .returned (.bool true) ∧ Below w.heap.size w w' := by
  subst hn hm
  have hT : Pcs w w.heap.size A l := by
    have := hA.take l.length
    rwa [List.take_append_of_le_length (Nat.le_refl _), List.take_length] at this
  have hM : Blk (w.alloc (.cells m.arr 36)) w.heap.size 36 m.arr := Blk.new _ _ _
  have hB : Below w.heap.size w (w.alloc (.cells m.arr 36)) := by go_grown
  have hneq := neq_piece m hmok
  go_enter Try.func18, Try.ntmps18
  go_wp2_with fail
  refine (book_SameP l _ A A' _ _ _ _ _ rfl hl hok (hT.below hB) (hA'.below hB)).mono ?_
  rintro e w1 ⟨rfl, hd⟩
  replace hM := hM.drawn hd
  replace hB := hB.trans (hd.below _)
  clear hd
  go_wp2_with fail
  go_loopw [7] (fun i wr => ∃ k : Nat, k ≤ 80 ∧ i = .int .i64 (l.length + k : Nat) ∧ Blk wr w.heap.size 36 m.arr ∧ Below w.heap.size w wr) (fun i _ => l.length + 80 - (intOf i).toNat)
  case atStart => exact ⟨0, by omega, rfl, hM, hB⟩
  case round =>
    clear hM hB
    obtain ⟨k, hk, rfl, hM, hB⟩ := hrel
    by_cases hlt : k < 80
    · obtain ⟨b, off, p, rfl, hb, hp, hr⟩ := Pcs.get (hA.below hB) (k := l.length + k) (by simp; omega)
      obtain rfl : m = p := by
        have := hp.out
        rw [List.getElem?_append_right (by omega), show l.length + k - l.length = k by omega, List.getElem?_replicate, if_pos hlt] at this
        exact Option.some.inj this
      have hnat : ((l.length : Int) + (k : Int)).toNat = l.length + k := by omega
      go_wp2_with fail
      refine wp_region_noPanic ?_
      refine Ord.region_ord (S := fun W => W.rangeAt b (off + (l.length + k) * 57) m.arr.toList ∧ W.rangeAt w.heap.size 0 m.arr.toList) [(0, true), (1, true), (2, true), (3, true), (4, true), (5, true)] (by kernel_rfl) (by kernel_rfl) (by kernel_rfl) (by decide) (fun _ _ _ _ _ h => h) (⟨fun j v hv => hr j v hv, hM.range⟩) (fun hS0 => ?_)
      simp only [Ord.lay, List.getElem?_cons_zero, List.getElem?_cons_succ]
      (refine Ord.take (v := ?_) (Or.inl ⟨rfl, ?_⟩) ?_; rotate_left; (intro w hSw; (try dsimp only at hSw); go_simp; try (with_reducible rfl)); (try simp only [Act.put, List.setIfInBounds_toArray, List.set_cons_zero, List.set_cons_succ]))
      (refine Ord.take (v := ?_) (Or.inl ⟨rfl, ?_⟩) ?_; rotate_left; (intro w hSw; (try dsimp only at hSw); go_simp; try (with_reducible rfl)); (try simp only [Act.put, List.setIfInBounds_toArray, List.set_cons_zero, List.set_cons_succ]))
      (refine Ord.take (v := .pointer (some ⟨b, off + (l.length + k) * 57, none⟩)) (Or.inl ⟨rfl, fun w hSw => by go_simp; intro h; omega⟩) ?_; (try simp only [Act.put, List.setIfInBounds_toArray, List.set_cons_zero, List.set_cons_succ]))
      (refine Ord.take (yieldsIf_load_mid rfl _ _ rfl b (off + (l.length + k) * 57) rfl _ _ (fun w' h => h.1) Try.underlying36 rfl (info_piece_list _)) ?_; (try simp only [Act.put, List.setIfInBounds_toArray, List.set_cons_zero, List.set_cons_succ]))
      (refine Ord.take (yieldsIf_load_mid rfl _ _ rfl w.heap.size 0 rfl _ _ (fun w' h => h.2) Try.underlying36 rfl (info_piece_list _)) ?_; (try simp only [Act.put, List.setIfInBounds_toArray, List.set_cons_zero, List.set_cons_succ]))
      (refine Ord.take (v := .bool false) (Or.inl ⟨rfl, fun w _ => by simp only [execOp, Act.eval]; simp [hneq, run_eqGuard_agg (hm := guard_piece)]⟩) ?_; (try simp only [Act.put, List.setIfInBounds_toArray, List.set_cons_zero, List.set_cons_succ]))
      refine Ord.done (NoPanic.normal ?_)
      go_wp2_with fail
      go_roundw
      case rel => exact ⟨k + 1, by omega, by go_num, hM.drew, hB.drew⟩
      case measure => simp [intOf]; omega
    · obtain rfl : k = 80 := by omega
      go_wp2_with fail
      go_ret
      exact ⟨rfl, hB⟩
end Go.Proofs.Ytebolanengnpfaa
