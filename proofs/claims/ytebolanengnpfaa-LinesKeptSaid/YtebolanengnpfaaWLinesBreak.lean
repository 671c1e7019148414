/-
  The walk of LinesBreak.
-/
import Derived.Test.YtebolanengnpfaaBookP
namespace Go.Proofs.Ytebolanengnpfaa
open Go.RowKit Num Mem Opn
set_option linter.unusedVariables false
set_option linter.unusedSimpArgs false
theorem wf_i64 {a : Int} (h : I64 a) : (Lit.int .i64 a).wf = true := by
  obtain ⟨h1, h2⟩ := h
  simp [Lit.wf, IntKind.min, IntKind.max, IntKind.signed, IntKind.bits]
  omega
theorem pcs_ok (l : List Bt) : ∀ i, i + l.length ≤ 1000 → ∀ p ∈ pcs i l, Pc.Ok p := by
  induction l with
  | nil => intro i _ p h; simp [pcs] at h
  | cons b t ih =>
    intro i hi p h
    simp only [pcs, List.mem_cons] at h
    rcases h with rfl | h
    · have h1 := kindOf_mem b.kind
      have h2 := pcOf_wide i b
      have h3 := lit24_lo b.height
      have h4 := lit24_hi b.height
      simp only [List.length_cons] at hi
      refine ⟨wf_i64 ?_, wf_i64 ?_, wf_i64 ?_, wf_i64 ?_⟩
      · unfold I64; simp only [pcOf]; omega
      · unfold I64; simp only [pcOf]; omega
      · unfold I64; omega
      · unfold I64; simp only [pcOf]; omega
    · exact ih (i + 1) (by simp only [List.length_cons] at hi; omega) p h
theorem firstAny_in {room strut : Int} {l : List Pc} {i : Nat} (h : i < l.length) : firstAny room strut l i = first room strut l i := by
  unfold firstAny
  rw [if_neg (by omega), Int.toNat_natCast]
theorem firstAny_out {room strut : Int} {l : List Pc} {i : Int} (h : i < 0 ∨ (l.length : Int) ≤ i) : firstAny room strut l i = ⟨0, 0, 0, 0⟩ := by
  unfold firstAny
  rw [if_pos h]
theorem first_any (l : List Pc) (n : Nat) (A : Option Addr) (c : Nat) (i room strut : Int) (w : World) (hn : l.length = n) (hl : n ≤ 1000) (hc : n ≤ c) (hA : Pcs w w.heap.size A l) :
    Calls Try.prog 16 #[.slice A n c, .int .i64 i, .int .i64 room, .int .i64 strut] w fun e w' => e = .returned (.agg (firstAny room strut l i).arr) ∧ Below w.heap.size w w' := by
  subst hn
  by_cases h : i < 0 ∨ (l.length : Int) ≤ i
  · rw [firstAny_out h]
    exact lines_First_none l.length A c i room strut w h
  · obtain ⟨k, rfl⟩ := Int.eq_ofNat_of_zero_le (show 0 ≤ i by omega)
    rw [firstAny_in (by omega)]
    exact lines_First l A c k room strut w (by omega) hl hc hA
theorem ref_first_any (l : List Pc) (n : Nat) (A : Option Addr) (c : Nat) (i room strut : Int) (w : World) (hn : l.length = n) (hl : n ≤ 1000) (hc : n ≤ c) (hA : Pcs w w.heap.size A l) :
    Calls Try.prog 17 #[.slice A n c, .int .i64 i, .int .i64 room, .int .i64 strut] w fun e w' => e = .returned (.agg (firstAny room strut l i).arr) ∧ Below w.heap.size w w' := by
  subst hn
  by_cases h : i < 0 ∨ (l.length : Int) ≤ i
  · rw [firstAny_out h]
    exact ref_First_none l.length A c i room strut w h
  · obtain ⟨k, rfl⟩ := Int.eq_ofNat_of_zero_le (show 0 ≤ i by omega)
    rw [firstAny_in (by omega)]
    exact ref_First l A c k room strut w (by omega) hl hc hA
theorem ref_break_n (l : List Pc) (n : Nat) (A : Option Addr) (c : Nat) (room strut : Int) (w : World) (hn : l.length = n) (hl : n ≤ 1000) (hc : n ≤ c) (hA : Pcs w w.heap.size A l) :
    Calls Try.prog 14 #[.slice A n c, .int .i64 room, .int .i64 strut] w fun e w' =>
      ∃ v, e = .returned v ∧ w'.ownsRow w.heap.size 45 4 v (lns room strut l).length ((lns room strut l).flatMap Ln.cells) ∧ Below w.heap.size w w' := by
  subst hn
  exact ref_Break l A c room strut w hl hc hA
theorem law_same (x : Ln) (w : World) : Calls Try.prog 15 #[.agg x.arr, .agg x.arr] w fun e w' => e = .returned (.bool true) ∧ Below w.heap.size w w' := by
  have hB : Below w.heap.size w ((w.alloc (.cells x.arr 43)).alloc (.cells x.arr 45)) := by go_grown
  obtain ⟨a, b, c, d⟩ := x
  simp only [Ln.arr] at hB ⊢
  go_enter Try.func15, Try.ntmps15
  go_wp2_with fail
  go_ret
  exact ⟨rfl, hB⟩
theorem info_line_list (x : Ln) : (Try.prog.info? 43).map (·.size) = some x.arr.toList.length := info_line
theorem info_rline_list (x : Ln) : (Try.prog.info? 45).map (·.size) = some x.arr.toList.length := info_rline
theorem lns_range {w : World} {B b off : Nat} {l : List Ln} (h : Lns w B (some ⟨b, off, none⟩) l) {k : Nat} {x : Ln} (hx : l[k]? = some x) : w.rangeAt b (off + k * 4) x.arr.toList := by
  obtain ⟨b', off', e, _, hc⟩ := h (by rintro rfl; simp at hx)
  injection e with e
  injection e with e1 e2 e3
  subst e1 e2
  exact fun j v hv => hc k x hx j v hv
def mk7 : Pc := ⟨-7, 0, 0, 0, false⟩
theorem mk7_ok : Pc.Ok mk7 := by refine ⟨?_, ?_, ?_, ?_⟩ <;> decide
set_option maxRecDepth 100000 in
set_option maxHeartbeats 4000000 in
theorem walk_LinesBreak (A : Option Addr) (l : List Bt) (c : Nat) (room strut from_ : Int) (w : World) (hr : RowB w A l c) (ir : I64 room) (is : I64 strut) (if_ : I64 from_) :
    Calls Try.prog 3 #[.slice A l.length c, .int .i64 room, .int .i64 strut, .int .i64 from_] w fun e w' => e = .returned (.bool true) ∧ Below w.heap.size w w' := by
  obtain ⟨hA, hlc, hcp, hx⟩ := hr
  have HO := hid (pcs_ok (l.take 80) 0 (by simp; omega))
  have h80 : (pcs 0 (l.take 80)).length ≤ 80 := by rw [pcs_length]; simp; omega
  go_enter Try.func3, Try.ntmps3
  go_wp2_with fail
  refine (some_n l _ A c _ rfl hA (by omega) hx).mono ?_
  rintro e w1 ⟨v, v', rfl, hB, ho, ho'⟩
  generalize pcs 0 (l.take 80) = P at *
  obtain ⟨A1, c1, rfl, hc1, hP⟩ := own_pcs ho
  obtain ⟨A2, c2, rfl, hc2, hQ⟩ := own_pcs ho'
  clear ho ho' hA hx
  go_wp2_with fail
  refine (book_RoomyP P A1 c1 mk7 _ (by omega) hP).mono ?_
  rintro e w2 ⟨g, rfl, hb, hge, hG⟩
  have hsz2 := hb.size
  have hgl := hG.lt
  replace hP := (hP.below hb).more hsz2
  replace hQ := (hQ.below hb).more hsz2
  have hB1 := hB.size
  replace hB := hB.trans (hb.mono hB1)
  have hF : Pcs w2 w2.heap.size (some ⟨g, 0, none⟩) (P ++ List.replicate 80 mk7) := Recs.ofBlk Pc.cells_length hG rfl hgl
  have hF2 : Pcs w2 w2.heap.size (some ⟨g, 0, none⟩) P := by
    have := hF.take P.length
    rwa [List.take_append_of_le_length (Nat.le_refl _), List.take_length] at this
  clear hb hG hge hB1
  go_wp2_with fail
  refine (break_n P _ _ _ room strut _ rfl (by omega) (by omega) hF2).mono ?_
  rintro e w3 ⟨v, rfl, hoa, hb⟩
  replace hP := (hP.below hb).more hb.size
  replace hQ := (hQ.below hb).more hb.size
  replace hF := (hF.below hb).more hb.size
  replace hF2 := (hF2.below hb).more hb.size
  replace hB := hB.trans (hb.mono hB.size)
  clear hb
  obtain ⟨A3, c3, rfl, hc3, hLa⟩ := own_lns hoa
  clear hoa
  go_wp2_with fail
  refine (ref_break_n P _ A2 c2 room strut _ rfl (by omega) hc2 hQ).mono ?_
  rintro e w4 ⟨v, rfl, hob, hb⟩
  replace hP := (hP.below hb).more hb.size
  replace hQ := (hQ.below hb).more hb.size
  replace hF := (hF.below hb).more hb.size
  replace hF2 := (hF2.below hb).more hb.size
  replace hLa := (hLa.below hb).more hb.size
  replace hB := hB.trans (hb.mono hB.size)
  clear hb
  obtain ⟨A4, c4, rfl, hc4, hLb⟩ := own_lns hob
  clear hob
  have hlen := lns_length room strut P
  generalize lns room strut P = L at *
  go_wp2_with fail
  refine (first_any P _ _ _ from_ room strut _ rfl (by omega) (by omega) hF2).mono ?_
  rintro e w5 ⟨rfl, hb⟩
  replace hP := (hP.below hb).more hb.size
  replace hQ := (hQ.below hb).more hb.size
  replace hF := (hF.below hb).more hb.size
  replace hF2 := (hF2.below hb).more hb.size
  replace hLa := (hLa.below hb).more hb.size
  replace hLb := (hLb.below hb).more hb.size
  replace hB := hB.trans (hb.mono hB.size)
  clear hb
  go_wp2_with fail
  refine (ref_first_any P _ A2 c2 from_ room strut _ rfl (by omega) hc2 hQ).mono ?_
  rintro e w6 ⟨rfl, hb⟩
  replace hP := (hP.below hb).more hb.size
  replace hF := (hF.below hb).more hb.size
  replace hLa := (hLa.below hb).more hb.size
  replace hLb := (hLb.below hb).more hb.size
  replace hB := hB.trans (hb.mono hB.size)
  clear hb hQ hF2
  go_wp2_with fail
  refine (law_same _ _).mono ?_
  rintro e w7 ⟨rfl, hb⟩
  replace hP := (hP.below hb).more hb.size
  replace hF := (hF.below hb).more hb.size
  replace hLa := (hLa.below hb).more hb.size
  replace hLb := (hLb.below hb).more hb.size
  replace hB := hB.trans (hb.mono hB.size)
  clear hb
  go_wp2_with fail
  refine (book_IntactP P _ _ _ A1 _ c1 mk7 _ rfl rfl (by omega) (by omega) HO.out mk7_ok hF hP).mono ?_
  rintro e w8 ⟨rfl, hb⟩
  replace hLa := (hLa.below hb).more hb.size
  replace hLb := (hLb.below hb).more hb.size
  replace hB := hB.trans (hb.mono hB.size)
  clear hb hP hF
  go_wp2_with fail
  go_loopg [14] L.length (fun g s wr => ∃ k : Nat, g = L.length - k ∧ k ≤ L.length ∧ s = .int .i64 k ∧ Below w.heap.size w wr ∧ Lns wr wr.heap.size A3 L ∧ Lns wr wr.heap.size A4 L)
  case atStart => exact ⟨0, rfl, Nat.zero_le _, rfl, hB, hLa, hLb⟩
  case round =>
    clear hB hLa hLb
    obtain ⟨k, rfl, hk, rfl, hB, hLa, hLb⟩ := hrel
    by_cases hlt : k < L.length
    · obtain ⟨b3, o3, x, rfl, -, hx, -⟩ := hLa.at_ hlt
      obtain ⟨b4, o4, y, rfl, -, hy, -⟩ := hLb.at_ hlt
      obtain rfl : x = y := Option.some.inj (hx.out.symm.trans hy.out)
      have hS : ∀ W, (Below w.heap.size w W ∧ Lns W W.heap.size (some ⟨b3, o3, none⟩) L ∧ Lns W W.heap.size (some ⟨b4, o4, none⟩) L) → (fun W => (Below w.heap.size w W ∧ Lns W W.heap.size (some ⟨b3, o3, none⟩) L ∧ Lns W W.heap.size (some ⟨b4, o4, none⟩) L) ∧ W.rangeAt b3 (o3 + k * 4) x.arr.toList ∧ W.rangeAt b4 (o4 + k * 4) x.arr.toList) W := fun W h => ⟨h, lns_range h.2.1 hx.out, lns_range h.2.2 hx.out⟩
      go_wp2_with fail
      refine wp_region_noPanic ?_
      refine Ord.region_ord (S := fun W => (Below w.heap.size w W ∧ Lns W W.heap.size (some ⟨b3, o3, none⟩) L ∧ Lns W W.heap.size (some ⟨b4, o4, none⟩) L) ∧ W.rangeAt b3 (o3 + k * 4) x.arr.toList ∧ W.rangeAt b4 (o4 + k * 4) x.arr.toList) [(0, true), (1, true), (2, true), (3, true), (4, true), (5, true), (6, true), (7, true), (8, false), (9, true)] (by kernel_rfl) (by kernel_rfl) (by kernel_rfl) (by decide) (fun _ _ _ _ _ h => h) (hS _ ⟨hB.drew, hLa, hLb⟩) (fun hS0 => ?_)
      simp only [Ord.lay, List.getElem?_cons_zero, List.getElem?_cons_succ]
      (refine Ord.take (v := ?_) (Or.inl ⟨rfl, ?_⟩) ?_; rotate_left; (intro w hSw; (try dsimp only at hSw); go_simp; try (with_reducible rfl)); (try simp only [Act.put, List.setIfInBounds_toArray, List.set_cons_zero, List.set_cons_succ]))
      (refine Ord.take (v := ?_) (Or.inl ⟨rfl, ?_⟩) ?_; rotate_left; (intro w hSw; (try dsimp only at hSw); go_simp; try (with_reducible rfl)); (try simp only [Act.put, List.setIfInBounds_toArray, List.set_cons_zero, List.set_cons_succ]))
      (refine Ord.take (v := ?_) (Or.inl ⟨rfl, ?_⟩) ?_; rotate_left; (intro w hSw; (try dsimp only at hSw); go_simp; try (with_reducible rfl)); (try simp only [Act.put, List.setIfInBounds_toArray, List.set_cons_zero, List.set_cons_succ]))
      (refine Ord.take (yieldsIf_load_mid rfl _ _ rfl b3 (o3 + k * 4) rfl _ _ (fun w' h => h.2.1) Try.underlying43 rfl (info_line_list _)) ?_; (try simp only [Act.put, List.setIfInBounds_toArray, List.set_cons_zero, List.set_cons_succ]))
      (refine Ord.take (v := ?_) (Or.inl ⟨rfl, ?_⟩) ?_; rotate_left; (intro w hSw; (try dsimp only at hSw); go_simp; try (with_reducible rfl)); (try simp only [Act.put, List.setIfInBounds_toArray, List.set_cons_zero, List.set_cons_succ]))
      (refine Ord.take (v := ?_) (Or.inl ⟨rfl, ?_⟩) ?_; rotate_left; (intro w hSw; (try dsimp only at hSw); go_simp; try (with_reducible rfl)); (try simp only [Act.put, List.setIfInBounds_toArray, List.set_cons_zero, List.set_cons_succ]))
      (refine Ord.take (v := ?_) (Or.inl ⟨rfl, ?_⟩) ?_; rotate_left; (intro w hSw; (try dsimp only at hSw); go_simp; try (with_reducible rfl)); (try simp only [Act.put, List.setIfInBounds_toArray, List.set_cons_zero, List.set_cons_succ]))
      (refine Ord.take (yieldsIf_load_mid rfl _ _ rfl b4 (o4 + k * 4) rfl _ _ (fun w' h => h.2.2) Try.underlying45 rfl (info_rline_list _)) ?_; (try simp only [Act.put, List.setIfInBounds_toArray, List.set_cons_zero, List.set_cons_succ]))
      refine Ord.alone rfl (fun K hK => ?_)
      go_simp
      refine (law_same x _).mono ?_
      rintro e w9 ⟨rfl, hb9⟩
      have hS1 := hS w9 ⟨hS0.1.1.trans (hb9.mono hS0.1.1.size), (hS0.1.2.1.below hb9).more hb9.size, (hS0.1.2.2.below hb9).more hb9.size⟩
      go_wp2_with fail
      refine hK.out _ _ (hS1) (fun _ => ?_)
      clear hK K
      (try simp only [Act.put, List.setIfInBounds_toArray, List.set_cons_zero, List.set_cons_succ])
      (refine Ord.take (v := ?_) (Or.inl ⟨rfl, ?_⟩) ?_; rotate_left; (intro w hSw; (try dsimp only at hSw); go_simp; try (with_reducible rfl)); (try simp only [Act.put, List.setIfInBounds_toArray, List.set_cons_zero, List.set_cons_succ]))
      refine Ord.done (NoPanic.normal ?_)
      obtain ⟨⟨hB2, hLa2, hLb2⟩, -⟩ := hS1
      clear hS hS0 hB hLa hLb
      go_wp2_with fail
      go_roundg (L.length - (k + 1))
      case rel => exact ⟨k + 1, rfl, by omega, by go_num, hB2, hLa2, hLb2⟩
      case measure => omega
    · obtain rfl : k = L.length := by omega
      go_wp2_with fail
      refine (known15 _).mono ?_
      rintro e w9 ⟨rfl, hb9⟩
      go_wp2_with fail
      go_ret
      exact ⟨rfl, hB.trans (hb9.mono hB.size)⟩
end Go.Proofs.Ytebolanengnpfaa
