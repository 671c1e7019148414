/-
  The walk of TextWidths.
-/
import Derived.Test.YteghacdpfhohoaaTextI
import Derived.Test.YteghacdpfhohoaaBook
namespace Go.Proofs.Yteghacdpfhohoaa
open Go.RowKit Num Mem Opn Go.Deep
set_option linter.unusedVariables false
set_option linter.unusedSimpArgs false
set_option linter.unusedSimpArgs false
theorem roomy_n (l : List Int) (n : Nat) (A : Option Addr) (c : Nat) (m : Int) (w : World) (hn : l.length = n) (hl : n ≤ 17592186044416) (hA : Ints w w.heap.size A l) :
    Calls Try.prog 20 #[.slice A n c, .int .i64 m] w fun e w' =>
      e = .returned (.slice (some ⟨w.heap.size, 0, none⟩) (n + 80) (n + 80)) ∧ Below w.heap.size w w' ∧ Blk w' w.heap.size 2 (ints (l ++ List.replicate 80 m)) := by
  subst hn
  exact book_Roomy l A c m w hl hA
theorem intact_n (l : List Int) (n m' : Nat) (A A' : Option Addr) (c c' B B' : Nat) (m : Int) (w : World) (hn : l.length = n) (hm : n + 80 = m') (hl : n ≤ 17592186044416) (hc : n + 80 ≤ c) (hA : Ints w B A (l ++ List.replicate 80 m)) (hA' : Ints w B' A' l) :
    Calls Try.prog 27 #[.slice A m' c, .slice A' n c', .int .i64 m] w fun e w' => e = .returned (.bool true) ∧ Drawn w w' := by
  subst hn hm
  exact book_Intact l A A' c c' B B' m w hl hc hA hA'
/-- the worlds of the last region. -/
structure WI (w W : World) (g q : Nat) (ea cs : Array Value) (L : List Int) (eq : Array Value) : Prop where
  env : Blk W w.heap.size 36 ea
  sty : Blk W (w.heap.size + 1) 43 cs
  row : Blk W g 2 (ints (L ++ List.replicate 80 (-7)))
  env2 : Blk W q 36 eq
  below : Below w.heap.size w W
section
variable {w W W' : World} {g q : Nat} {ea cs : Array Value} {L : List Int} {eq : Array Value}
theorem WI.on (h : WI w W g q ea cs L eq) (hb : Below W.heap.size W W') : WI w W' g q ea cs L eq :=
  ⟨h.env.below hb h.env.lt, h.sty.below hb h.sty.lt, h.row.below hb h.row.lt, h.env2.below hb h.env2.lt, h.below.trans (hb.mono h.below.size)⟩
theorem WI.drew (h : WI w W g q ea cs L eq) : WI w W.drew g q ea cs L eq := ⟨h.env.drew, h.sty.drew, h.row.drew, h.env2.drew, h.below.drew⟩
theorem WI.ints3 (h : WI w W g q ea cs L eq) : Ints W W.heap.size (some ⟨g, 0, none⟩) (L ++ List.replicate 80 (-7)) := Ints.ofBlk h.row h.row.lt
theorem WI.ints2 (h : WI w W g q ea cs L eq) : Ints W W.heap.size (some ⟨g, 0, none⟩) L := by
  have := h.ints3.take L.length
  rwa [List.take_append_of_le_length (Nat.le_refl _), List.take_length] at this
theorem WI.ints {A : Option Addr} (h : WI w W g q ea cs L eq) (hA : Ints w w.heap.size A L) : Ints W W.heap.size A L := (hA.below h.below).more h.below.size
end
theorem textAdv_n (ew eh : Int) (l : List Int) (n : Nat) (A : Option Addr) (c : Nat) (r size : Int) (w : World) (hn : l.length = n) (hl : n ≤ 1000000) (hr1 : -2147483648 ≤ r) (hr2 : r ≤ 2147483647) (hA : Ints w w.heap.size A l) :
    Calls Try.prog 21 #[.agg #[.int .i64 ew, .int .i64 eh, .slice A n c], .int .i32 r, .int .i64 size] w fun e w' => e = .returned (.int .i64 (adv l r size)) ∧ Below w.heap.size w w' := by
  subst hn; exact text_Advance ew eh l A c r size w hl hr1 hr2 hA
theorem refAdv_n (ew eh : Int) (l : List Int) (n : Nat) (A : Option Addr) (c : Nat) (r size : Int) (w : World) (hn : l.length = n) (hl : n ≤ 1000000) (hr1 : -2147483648 ≤ r) (hr2 : r ≤ 2147483647) (hA : Ints w w.heap.size A l) :
    Calls Try.prog 22 #[.agg #[.int .i64 ew, .int .i64 eh, .slice A n c], .int .i32 r, .int .i64 size] w fun e w' => e = .returned (.int .i64 (adv l r size)) ∧ Below w.heap.size w w' := by
  subst hn; exact ref14_Advance ew eh l A c r size w hl hr1 hr2 hA
theorem textWidth_n (ew eh : Int) (l : List Int) (n : Nat) (A : Option Addr) (c : Nat) (s : ByteArray) (size : Int) (w : World) (hn : l.length = n) (hl : n ≤ 1000000) (hA : Ints w w.heap.size A l) :
    Calls Try.prog 23 #[.agg #[.int .i64 ew, .int .i64 eh, .slice A n c], .string s, .int .i64 size] w fun e w' => e = .returned (.int .i64 (width l s size)) ∧ Below w.heap.size w w' := by
  subst hn; exact text_Width ew eh l A c s size w hl hA
theorem refWidth_n (ew eh : Int) (l : List Int) (n : Nat) (A : Option Addr) (c : Nat) (s : ByteArray) (size : Int) (w : World) (hn : l.length = n) (hl : n ≤ 1000000) (hA : Ints w w.heap.size A l) :
    Calls Try.prog 24 #[.agg #[.int .i64 ew, .int .i64 eh, .slice A n c], .string s, .int .i64 size] w fun e w' => e = .returned (.int .i64 (width l s size)) ∧ Below w.heap.size w w' := by
  subst hn; exact ref14_Width ew eh l A c s size w hl hA
set_option maxRecDepth 100000 in
set_option maxHeartbeats 4000000 in
theorem walk_TextWidths (ew eh : Int) (A : Option Addr) (l : List Int) (c : Nat) (r : Int) (s : ByteArray) (size : Int) (cs : Array Value) (sz ln : Int) (w : World) (hr : Row64 w A l c) (hr1 : -2147483648 ≤ r ∧ r ≤ 2147483647) (hs : s.size ≤ maxLen) (_ : I64 size) (hst : Style52 cs sz ln) :
    Calls Try.prog 5 #[.agg #[.int .i64 ew, .int .i64 eh, .slice A l.length c], .int .i32 r, .string s, .int .i64 size, .agg cs] w fun e w' => e = .returned (.bool true) ∧ Below w.heap.size w w' := by
  obtain ⟨hA, hlc, hcp, -⟩ := hr
  obtain ⟨hr1, hr2⟩ := hr1
  obtain ⟨k, hk, hk1, hk2⟩ : ∃ k, (l.take k).length = k ∧ k ≤ 300 ∧ (300 < l.length ∧ k = 300 ∨ l.length ≤ 300 ∧ k = l.length) := by
    rcases Nat.lt_or_ge 300 l.length with h | h
    · exact ⟨300, by simp; omega, by omega, .inl ⟨h, rfl⟩⟩
    · exact ⟨l.length, by simp, h, .inr ⟨h, rfl⟩⟩
  have hT := hA.take k
  generalize l.take k = L at hT hk
  have HK := hid hk
  clear hk
  have hX : Blk ((w.alloc (.cells #[.int .i64 ew, .int .i64 eh, .slice A l.length c] 36)).alloc (.cells cs 43)) w.heap.size 36 #[.int .i64 ew, .int .i64 eh, .slice A l.length c] := (Blk.new _ _ _).alloc _
  have hY : Blk ((w.alloc (.cells #[.int .i64 ew, .int .i64 eh, .slice A l.length c] 36)).alloc (.cells cs 43)) (w.heap.size + 1) 43 cs := Blk.newAt _ _ _ (by simp)
  have hB : Below w.heap.size w ((w.alloc (.cells #[.int .i64 ew, .int .i64 eh, .slice A l.length c] 36)).alloc (.cells cs 43)) := ((Below.refl _ _).alloc (Nat.le_refl _) _).alloc (by simp) _
  go_enter Try.func5, Try.ntmps5
  go_upto_region 1 with fail
  refine wp_forget (fun Z => Blk Z w.heap.size 36 #[.int .i64 ew, .int .i64 eh, .slice A l.length c] ∧ Blk Z (w.heap.size + 1) 43 cs ∧ Below w.heap.size w Z) ⟨hX, hY, hB⟩ ?_
  clear hX hY hB
  rintro w1 ⟨hX, hY, hB⟩
  have c2 : w1.cell? ⟨w.heap.size, 2, none⟩ = some (.slice A l.length c) := hX.cell 2
  have f2 : w1.frozen? ⟨w.heap.size, 2, none⟩ = false := hX.free 2
  rcases hk2 with ⟨hgt, rfl⟩ | ⟨hle, rfl⟩
  ·
    have d1 : decide ((l.length : Int) > (300 : Int)) = true := decide_eq_true (by omega)
    have d2 : decide ((300 : Int) < (l.length : Int)) = true := decide_eq_true (by omega)
    have d3 : ¬ (c < 300) := by omega
    go_upto_region 3 with fail
    refine wp_forget (fun Z => Blk Z w.heap.size 36 #[.int .i64 ew, .int .i64 eh, .slice A (300) c] ∧ Blk Z (w.heap.size + 1) 43 cs ∧ Below w.heap.size w Z) ⟨hX.put 2 _, hY.far (by simp) _, hB.setCell (by simp) _⟩ ?_
    clear hX hY hB c2 f2 d1 d2 d3
    rintro w2 ⟨hX, hY, hB⟩
    have c2 : w2.cell? ⟨w.heap.size, 2, none⟩ = some (.slice A (300) c) := hX.cell 2
    go_wp2_with fail
    refine (keep_Few s 300 w2 hs).mono ?_
    rintro e w3 ⟨rfl, rfl⟩
    generalize fewS s 300 = s2
    go_wp2_with fail
    refine (roomy_n L _ A c (-7) w2 HK.out (by omega) ((hT.below hB).more hB.size)).mono ?_
    rintro e w3 ⟨rfl, hb, hG⟩
    replace hX := hX.below hb hX.lt
    replace hY := hY.below hb hY.lt
    replace hB := hB.trans (hb.mono hB.size)
    have hgl := hG.lt
    clear hb c2
    generalize w2.heap.size = g at *
    have c2 : w3.cell? ⟨w.heap.size, 2, none⟩ = some (.slice A (300) c) := hX.cell 2
    go_upto_region 6 with fail
    have hI : WI w (w3.alloc (.cells #[.int .i64 0, .int .i64 0, .slice (some ⟨g, 0, none⟩) 300 380] 36)) g w3.heap.size #[.int .i64 ew, .int .i64 eh, .slice A (300) c] cs L #[.int .i64 0, .int .i64 0, .slice (some ⟨g, 0, none⟩) 300 380] := ⟨hX.alloc _, hY.alloc _, hG.alloc _, Blk.new _ _ _, hB.alloc hB.size _⟩
    clear hX hY hB hG c2 hgl
    generalize w3.alloc _ = W at *
    generalize w3.heap.size = q at *
    have hS : ∀ W, (WI w W g q #[.int .i64 ew, .int .i64 eh, .slice A (300) c] cs L #[.int .i64 0, .int .i64 0, .slice (some ⟨g, 0, none⟩) 300 380]) → (fun W => (WI w W g q #[.int .i64 ew, .int .i64 eh, .slice A (300) c] cs L #[.int .i64 0, .int .i64 0, .slice (some ⟨g, 0, none⟩) 300 380]) ∧ W.cell? ⟨w.heap.size, 2, none⟩ = some (.slice A (300) c)) W := fun W h => ⟨h, h.env.cell 2⟩
    refine wp_region_noPanic ?_
    refine Ord.region_ord (S := fun W => (WI w W g q #[.int .i64 ew, .int .i64 eh, .slice A (300) c] cs L #[.int .i64 0, .int .i64 0, .slice (some ⟨g, 0, none⟩) 300 380]) ∧ W.cell? ⟨w.heap.size, 2, none⟩ = some (.slice A (300) c)) [(0, true), (1, true), (2, true), (4, true), (5, true), (6, true), (3, false), (7, false), (8, true), (9, true), (10, true), (11, true), (12, true), (14, true), (15, true), (16, true), (13, false), (17, false), (18, true), (19, true), (20, true), (21, true), (23, true), (22, false), (24, false), (25, true), (26, true), (27, true), (28, true), (29, true), (30, true), (31, false), (32, true), (33, true), (34, false), (35, true), (36, true)] (by kernel_rfl) (by kernel_rfl) (by kernel_rfl) (by decide) (fun _ _ _ _ _ h => h) (hS _ hI.drew) (fun hS0 => ?_)
    simp only [Ord.lay, List.getElem?_cons_zero, List.getElem?_cons_succ]
    (refine Ord.take (yieldsIf_load_mid rfl _ _ rfl q 0 rfl _ _ (fun w' h => h.1.env2.range) Try.underlying36 rfl (by kernel_rfl)) ?_; (try simp only [Act.put, List.setIfInBounds_toArray, List.set_cons_zero, List.set_cons_succ]))
    (refine Ord.take (v := ?_) (Or.inl ⟨rfl, ?_⟩) ?_; rotate_left; (intro w hSw; (try dsimp only at hSw); go_simp; try (with_reducible rfl)); (try simp only [Act.put, List.setIfInBounds_toArray, List.set_cons_zero, List.set_cons_succ]))
    (refine Ord.take (v := ?_) (Or.inl ⟨rfl, ?_⟩) ?_; rotate_left; (intro w hSw; (try dsimp only at hSw); go_simp; try (with_reducible rfl)); (try simp only [Act.put, List.setIfInBounds_toArray, List.set_cons_zero, List.set_cons_succ]))
    (refine Ord.take (yieldsIf_load_mid rfl _ _ rfl (w.heap.size) 0 rfl _ _ (fun w' h => h.1.env.range) Try.underlying36 rfl (by kernel_rfl)) ?_; (try simp only [Act.put, List.setIfInBounds_toArray, List.set_cons_zero, List.set_cons_succ]))
    (refine Ord.take (v := ?_) (Or.inl ⟨rfl, ?_⟩) ?_; rotate_left; (intro w hSw; (try dsimp only at hSw); go_simp; try (with_reducible rfl)); (try simp only [Act.put, List.setIfInBounds_toArray, List.set_cons_zero, List.set_cons_succ]))
    (refine Ord.take (v := ?_) (Or.inl ⟨rfl, ?_⟩) ?_; rotate_left; (intro w hSw; (try dsimp only at hSw); go_simp; try (with_reducible rfl)); (try simp only [Act.put, List.setIfInBounds_toArray, List.set_cons_zero, List.set_cons_succ]))
    refine Ord.alone' rfl rfl (fun K hK => ?_)
    go_simp
    refine (textAdv_n 0 0 L _ _ _ r size _ HK.out (by omega) hr1 hr2 (hS0.1.ints2)).mono ?_
    rintro e u1 ⟨rfl, hbq⟩
    have hS1 := hS u1 (hS0.1.on hbq)
    clear hbq
    go_wp2_with fail
    refine hK.out _ _ (hS1) (fun _ => ?_)
    clear hK K
    (try simp only [Act.put, List.setIfInBounds_toArray, List.set_cons_zero, List.set_cons_succ])
    refine Ord.alone' rfl rfl (fun K hK => ?_)
    go_simp
    refine (refAdv_n ew eh L _ A c r size _ HK.out (by omega) hr1 hr2 (hS1.1.ints hT)).mono ?_
    rintro e u2 ⟨rfl, hbq⟩
    have hS2 := hS u2 (hS1.1.on hbq)
    clear hbq
    go_wp2_with fail
    refine hK.out _ _ (hS2) (fun _ => ?_)
    clear hK K
    (try simp only [Act.put, List.setIfInBounds_toArray, List.set_cons_zero, List.set_cons_succ])
    (refine Ord.take (v := ?_) (Or.inl ⟨rfl, ?_⟩) ?_; rotate_left; (intro w hSw; (try dsimp only at hSw); go_simp; try (with_reducible rfl)); (try simp only [Act.put, List.setIfInBounds_toArray, List.set_cons_zero, List.set_cons_succ]))
    (refine Ord.take (v := ?_) (Or.inl ⟨rfl, ?_⟩) ?_; rotate_left; (intro w hSw; (try dsimp only at hSw); go_simp; try (with_reducible rfl)); (try simp only [Act.put, List.setIfInBounds_toArray, List.set_cons_zero, List.set_cons_succ]))
    (refine Ord.take (yieldsIf_load_mid rfl _ _ rfl q 0 rfl _ _ (fun w' h => h.1.env2.range) Try.underlying36 rfl (by kernel_rfl)) ?_; (try simp only [Act.put, List.setIfInBounds_toArray, List.set_cons_zero, List.set_cons_succ]))
    (refine Ord.take (v := ?_) (Or.inl ⟨rfl, ?_⟩) ?_; rotate_left; (intro w hSw; (try dsimp only at hSw); go_simp; try (with_reducible rfl)); (try simp only [Act.put, List.setIfInBounds_toArray, List.set_cons_zero, List.set_cons_succ]))
    (refine Ord.take (v := ?_) (Or.inl ⟨rfl, ?_⟩) ?_; rotate_left; (intro w hSw; (try dsimp only at hSw); go_simp; try (with_reducible rfl)); (try simp only [Act.put, List.setIfInBounds_toArray, List.set_cons_zero, List.set_cons_succ]))
    (refine Ord.take (yieldsIf_load_mid rfl _ _ rfl (w.heap.size) 0 rfl _ _ (fun w' h => h.1.env.range) Try.underlying36 rfl (by kernel_rfl)) ?_; (try simp only [Act.put, List.setIfInBounds_toArray, List.set_cons_zero, List.set_cons_succ]))
    (refine Ord.take (v := ?_) (Or.inl ⟨rfl, ?_⟩) ?_; rotate_left; (intro w hSw; (try dsimp only at hSw); go_simp; try (with_reducible rfl)); (try simp only [Act.put, List.setIfInBounds_toArray, List.set_cons_zero, List.set_cons_succ]))
    (refine Ord.take (v := ?_) (Or.inl ⟨rfl, ?_⟩) ?_; rotate_left; (intro w hSw; (try dsimp only at hSw); go_simp; try (with_reducible rfl)); (try simp only [Act.put, List.setIfInBounds_toArray, List.set_cons_zero, List.set_cons_succ]))
    refine Ord.alone' rfl rfl (fun K hK => ?_)
    go_simp
    refine (textWidth_n 0 0 L _ _ _ s2 size _ HK.out (by omega) (hS2.1.ints2)).mono ?_
    rintro e u3 ⟨rfl, hbq⟩
    have hS3 := hS u3 (hS2.1.on hbq)
    clear hbq
    go_wp2_with fail
    refine hK.out _ _ (hS3) (fun _ => ?_)
    clear hK K
    (try simp only [Act.put, List.setIfInBounds_toArray, List.set_cons_zero, List.set_cons_succ])
    refine Ord.alone' rfl rfl (fun K hK => ?_)
    go_simp
    refine (refWidth_n ew eh L _ A c s2 size _ HK.out (by omega) (hS3.1.ints hT)).mono ?_
    rintro e u4 ⟨rfl, hbq⟩
    have hS4 := hS u4 (hS3.1.on hbq)
    clear hbq
    go_wp2_with fail
    refine hK.out _ _ (hS4) (fun _ => ?_)
    clear hK K
    (try simp only [Act.put, List.setIfInBounds_toArray, List.set_cons_zero, List.set_cons_succ])
    (refine Ord.take (v := ?_) (Or.inl ⟨rfl, ?_⟩) ?_; rotate_left; (intro w hSw; (try dsimp only at hSw); go_simp; try (with_reducible rfl)); (try simp only [Act.put, List.setIfInBounds_toArray, List.set_cons_zero, List.set_cons_succ]))
    (refine Ord.take (v := ?_) (Or.inl ⟨rfl, ?_⟩) ?_; rotate_left; (intro w hSw; (try dsimp only at hSw); go_simp; try (with_reducible rfl)); (try simp only [Act.put, List.setIfInBounds_toArray, List.set_cons_zero, List.set_cons_succ]))
    (refine Ord.take (v := ?_) (Or.inl ⟨rfl, ?_⟩) ?_; rotate_left; (intro w hSw; (try dsimp only at hSw); go_simp; try (with_reducible rfl)); (try simp only [Act.put, List.setIfInBounds_toArray, List.set_cons_zero, List.set_cons_succ]))
    (refine Ord.take (yieldsIf_load_mid rfl _ _ rfl (w.heap.size + 1) 0 rfl _ _ (fun w' h => h.1.sty.range) Try.underlying43 rfl (by rw [Array.length_toList, hst.size]; exact info_sti)) ?_; (try simp only [Act.put, List.setIfInBounds_toArray, List.set_cons_zero, List.set_cons_succ]))
    (refine Ord.take (yieldsIf_load_mid rfl _ _ rfl (w.heap.size + 1) 0 rfl _ _ (fun w' h => h.1.sty.range) Try.underlying43 rfl (by rw [Array.length_toList, hst.size]; exact info_sti)) ?_; (try simp only [Act.put, List.setIfInBounds_toArray, List.set_cons_zero, List.set_cons_succ]))
    refine Ord.alone' rfl rfl (fun K hK => ?_)
    go_simp
    refine (text_HeightX cs sz ln _ hst).mono ?_
    rintro e u5 ⟨rfl, hbq⟩
    have hS5 := hS u5 (hS4.1.on hbq)
    clear hbq
    go_wp2_with fail
    refine hK.out _ _ (hS5) (fun _ => ?_)
    clear hK K
    (try simp only [Act.put, List.setIfInBounds_toArray, List.set_cons_zero, List.set_cons_succ])
    refine Ord.alone' rfl rfl (fun K hK => ?_)
    go_simp
    refine (ref14_Height cs sz ln _ hst).mono ?_
    rintro e u6 ⟨rfl, hbq⟩
    have hS6 := hS u6 (hS5.1.on hbq)
    clear hbq
    go_wp2_with fail
    refine hK.out _ _ (hS6) (fun _ => ?_)
    clear hK K
    (try simp only [Act.put, List.setIfInBounds_toArray, List.set_cons_zero, List.set_cons_succ])
    (refine Ord.take (v := ?_) (Or.inl ⟨rfl, ?_⟩) ?_; rotate_left; (intro w hSw; (try dsimp only at hSw); go_simp; try (with_reducible rfl)); (try simp only [Act.put, List.setIfInBounds_toArray, List.set_cons_zero, List.set_cons_succ]))
    (refine Ord.take (v := ?_) (Or.inl ⟨rfl, ?_⟩) ?_; rotate_left; (intro w hSw; (try dsimp only at hSw); go_simp; try (with_reducible rfl)); (try simp only [Act.put, List.setIfInBounds_toArray, List.set_cons_zero, List.set_cons_succ]))
    (refine Ord.take (v := ?_) (Or.inl ⟨rfl, ?_⟩) ?_; rotate_left; (intro w hSw; (try dsimp only at hSw); go_simp; try (with_reducible rfl)); (try simp only [Act.put, List.setIfInBounds_toArray, List.set_cons_zero, List.set_cons_succ]))
    (refine Ord.take (v := ?_) (Or.inl ⟨rfl, ?_⟩) ?_; rotate_left; (intro w hSw; (try dsimp only at hSw); go_simp; try (with_reducible rfl)); (try simp only [Act.put, List.setIfInBounds_toArray, List.set_cons_zero, List.set_cons_succ]))
    (refine Ord.take (v := ?_) (Or.inl ⟨rfl, ?_⟩) ?_; rotate_left; (intro w hSw; (try dsimp only at hSw); go_simp; try (with_reducible rfl)); (try simp only [Act.put, List.setIfInBounds_toArray, List.set_cons_zero, List.set_cons_succ]))
    (refine Ord.take (v := ?_) (Or.inl ⟨rfl, ?_⟩) ?_; rotate_left; (intro w hSw; (try dsimp only at hSw); go_simp; try (with_reducible rfl)); (try simp only [Act.put, List.setIfInBounds_toArray, List.set_cons_zero, List.set_cons_succ]))
    refine Ord.alone' rfl rfl (fun K hK => ?_)
    go_simp
    refine (intact_n L _ _ _ A _ c _ _ (-7) _ HK.out rfl (by omega) (by omega) hS6.1.ints3 (hS6.1.ints hT)).mono ?_
    rintro e u7 ⟨rfl, hbq⟩
    have hS7 := hS u7 (hS6.1.on (hbq.below _))
    clear hbq
    go_wp2_with fail
    refine hK.out _ _ (hS7) (fun _ => ?_)
    clear hK K
    (try simp only [Act.put, List.setIfInBounds_toArray, List.set_cons_zero, List.set_cons_succ])
    (refine Ord.take (v := ?_) (Or.inl ⟨rfl, ?_⟩) ?_; rotate_left; (intro w hSw; (try dsimp only at hSw); go_simp; try (with_reducible rfl)); (try simp only [Act.put, List.setIfInBounds_toArray, List.set_cons_zero, List.set_cons_succ]))
    (refine Ord.take (v := ?_) (Or.inl ⟨rfl, ?_⟩) ?_; rotate_left; (intro w hSw; (try dsimp only at hSw); go_simp; try (with_reducible rfl)); (try simp only [Act.put, List.setIfInBounds_toArray, List.set_cons_zero, List.set_cons_succ]))
    refine Ord.alone' rfl rfl (fun K hK => ?_)
    go_simp
    refine (known14 _).mono ?_
    rintro e u8 ⟨rfl, hbq⟩
    have hS8 := hS u8 (hS7.1.on hbq)
    clear hbq
    go_wp2_with fail
    refine hK.out _ _ (hS8) (fun _ => ?_)
    clear hK K
    (try simp only [Act.put, List.setIfInBounds_toArray, List.set_cons_zero, List.set_cons_succ])
    (refine Ord.take (v := ?_) (Or.inl ⟨rfl, ?_⟩) ?_; rotate_left; (intro w hSw; (try dsimp only at hSw); go_simp; try (with_reducible rfl)); (try simp only [Act.put, List.setIfInBounds_toArray, List.set_cons_zero, List.set_cons_succ]))
    (refine Ord.take (v := ?_) (Or.inl ⟨rfl, ?_⟩) ?_; rotate_left; (intro w hSw; (try dsimp only at hSw); go_simp; try (with_reducible rfl)); (try simp only [Act.put, List.setIfInBounds_toArray, List.set_cons_zero, List.set_cons_succ]))
    refine Ord.done (NoPanic.normal ?_)
    clear hS
    go_wp2_with fail
    go_ret
    exact ⟨rfl, hS8.1.below⟩
  ·
    have d1 : decide ((l.length : Int) > (300 : Int)) = false := decide_eq_false (by omega)
    have d2 : decide ((300 : Int) < (l.length : Int)) = false := decide_eq_false (by omega)
    go_upto_region 3 with fail
    refine wp_forget (fun Z => Blk Z w.heap.size 36 #[.int .i64 ew, .int .i64 eh, .slice A (l.length) c] ∧ Blk Z (w.heap.size + 1) 43 cs ∧ Below w.heap.size w Z) ⟨hX, hY, hB⟩ ?_
    clear hX hY hB c2 f2 d1 d2
    rintro w2 ⟨hX, hY, hB⟩
    have c2 : w2.cell? ⟨w.heap.size, 2, none⟩ = some (.slice A (l.length) c) := hX.cell 2
    go_wp2_with fail
    refine (keep_Few s 300 w2 hs).mono ?_
    rintro e w3 ⟨rfl, rfl⟩
    generalize fewS s 300 = s2
    go_wp2_with fail
    refine (roomy_n L _ A c (-7) w2 HK.out (by omega) ((hT.below hB).more hB.size)).mono ?_
    rintro e w3 ⟨rfl, hb, hG⟩
    replace hX := hX.below hb hX.lt
    replace hY := hY.below hb hY.lt
    replace hB := hB.trans (hb.mono hB.size)
    have hgl := hG.lt
    clear hb c2
    generalize w2.heap.size = g at *
    have c2 : w3.cell? ⟨w.heap.size, 2, none⟩ = some (.slice A (l.length) c) := hX.cell 2
    go_upto_region 6 with fail
    have hI : WI w (w3.alloc (.cells #[.int .i64 0, .int .i64 0, .slice (some ⟨g, 0, none⟩) l.length (l.length + 80)] 36)) g w3.heap.size #[.int .i64 ew, .int .i64 eh, .slice A (l.length) c] cs L #[.int .i64 0, .int .i64 0, .slice (some ⟨g, 0, none⟩) l.length (l.length + 80)] := ⟨hX.alloc _, hY.alloc _, hG.alloc _, Blk.new _ _ _, hB.alloc hB.size _⟩
    clear hX hY hB hG c2 hgl
    generalize w3.alloc _ = W at *
    generalize w3.heap.size = q at *
    have hS : ∀ W, (WI w W g q #[.int .i64 ew, .int .i64 eh, .slice A (l.length) c] cs L #[.int .i64 0, .int .i64 0, .slice (some ⟨g, 0, none⟩) l.length (l.length + 80)]) → (fun W => (WI w W g q #[.int .i64 ew, .int .i64 eh, .slice A (l.length) c] cs L #[.int .i64 0, .int .i64 0, .slice (some ⟨g, 0, none⟩) l.length (l.length + 80)]) ∧ W.cell? ⟨w.heap.size, 2, none⟩ = some (.slice A (l.length) c)) W := fun W h => ⟨h, h.env.cell 2⟩
    refine wp_region_noPanic ?_
    refine Ord.region_ord (S := fun W => (WI w W g q #[.int .i64 ew, .int .i64 eh, .slice A (l.length) c] cs L #[.int .i64 0, .int .i64 0, .slice (some ⟨g, 0, none⟩) l.length (l.length + 80)]) ∧ W.cell? ⟨w.heap.size, 2, none⟩ = some (.slice A (l.length) c)) [(0, true), (1, true), (2, true), (4, true), (5, true), (6, true), (3, false), (7, false), (8, true), (9, true), (10, true), (11, true), (12, true), (14, true), (15, true), (16, true), (13, false), (17, false), (18, true), (19, true), (20, true), (21, true), (23, true), (22, false), (24, false), (25, true), (26, true), (27, true), (28, true), (29, true), (30, true), (31, false), (32, true), (33, true), (34, false), (35, true), (36, true)] (by kernel_rfl) (by kernel_rfl) (by kernel_rfl) (by decide) (fun _ _ _ _ _ h => h) (hS _ hI.drew) (fun hS0 => ?_)
    simp only [Ord.lay, List.getElem?_cons_zero, List.getElem?_cons_succ]
    (refine Ord.take (yieldsIf_load_mid rfl _ _ rfl q 0 rfl _ _ (fun w' h => h.1.env2.range) Try.underlying36 rfl (by kernel_rfl)) ?_; (try simp only [Act.put, List.setIfInBounds_toArray, List.set_cons_zero, List.set_cons_succ]))
    (refine Ord.take (v := ?_) (Or.inl ⟨rfl, ?_⟩) ?_; rotate_left; (intro w hSw; (try dsimp only at hSw); go_simp; try (with_reducible rfl)); (try simp only [Act.put, List.setIfInBounds_toArray, List.set_cons_zero, List.set_cons_succ]))
    (refine Ord.take (v := ?_) (Or.inl ⟨rfl, ?_⟩) ?_; rotate_left; (intro w hSw; (try dsimp only at hSw); go_simp; try (with_reducible rfl)); (try simp only [Act.put, List.setIfInBounds_toArray, List.set_cons_zero, List.set_cons_succ]))
    (refine Ord.take (yieldsIf_load_mid rfl _ _ rfl (w.heap.size) 0 rfl _ _ (fun w' h => h.1.env.range) Try.underlying36 rfl (by kernel_rfl)) ?_; (try simp only [Act.put, List.setIfInBounds_toArray, List.set_cons_zero, List.set_cons_succ]))
    (refine Ord.take (v := ?_) (Or.inl ⟨rfl, ?_⟩) ?_; rotate_left; (intro w hSw; (try dsimp only at hSw); go_simp; try (with_reducible rfl)); (try simp only [Act.put, List.setIfInBounds_toArray, List.set_cons_zero, List.set_cons_succ]))
    (refine Ord.take (v := ?_) (Or.inl ⟨rfl, ?_⟩) ?_; rotate_left; (intro w hSw; (try dsimp only at hSw); go_simp; try (with_reducible rfl)); (try simp only [Act.put, List.setIfInBounds_toArray, List.set_cons_zero, List.set_cons_succ]))
    refine Ord.alone' rfl rfl (fun K hK => ?_)
    go_simp
    refine (textAdv_n 0 0 L _ _ _ r size _ HK.out (by omega) hr1 hr2 (hS0.1.ints2)).mono ?_
    rintro e u1 ⟨rfl, hbq⟩
    have hS1 := hS u1 (hS0.1.on hbq)
    clear hbq
    go_wp2_with fail
    refine hK.out _ _ (hS1) (fun _ => ?_)
    clear hK K
    (try simp only [Act.put, List.setIfInBounds_toArray, List.set_cons_zero, List.set_cons_succ])
    refine Ord.alone' rfl rfl (fun K hK => ?_)
    go_simp
    refine (refAdv_n ew eh L _ A c r size _ HK.out (by omega) hr1 hr2 (hS1.1.ints hT)).mono ?_
    rintro e u2 ⟨rfl, hbq⟩
    have hS2 := hS u2 (hS1.1.on hbq)
    clear hbq
    go_wp2_with fail
    refine hK.out _ _ (hS2) (fun _ => ?_)
    clear hK K
    (try simp only [Act.put, List.setIfInBounds_toArray, List.set_cons_zero, List.set_cons_succ])
    (refine Ord.take (v := ?_) (Or.inl ⟨rfl, ?_⟩) ?_; rotate_left; (intro w hSw; (try dsimp only at hSw); go_simp; try (with_reducible rfl)); (try simp only [Act.put, List.setIfInBounds_toArray, List.set_cons_zero, List.set_cons_succ]))
    (refine Ord.take (v := ?_) (Or.inl ⟨rfl, ?_⟩) ?_; rotate_left; (intro w hSw; (try dsimp only at hSw); go_simp; try (with_reducible rfl)); (try simp only [Act.put, List.setIfInBounds_toArray, List.set_cons_zero, List.set_cons_succ]))
    (refine Ord.take (yieldsIf_load_mid rfl _ _ rfl q 0 rfl _ _ (fun w' h => h.1.env2.range) Try.underlying36 rfl (by kernel_rfl)) ?_; (try simp only [Act.put, List.setIfInBounds_toArray, List.set_cons_zero, List.set_cons_succ]))
    (refine Ord.take (v := ?_) (Or.inl ⟨rfl, ?_⟩) ?_; rotate_left; (intro w hSw; (try dsimp only at hSw); go_simp; try (with_reducible rfl)); (try simp only [Act.put, List.setIfInBounds_toArray, List.set_cons_zero, List.set_cons_succ]))
    (refine Ord.take (v := ?_) (Or.inl ⟨rfl, ?_⟩) ?_; rotate_left; (intro w hSw; (try dsimp only at hSw); go_simp; try (with_reducible rfl)); (try simp only [Act.put, List.setIfInBounds_toArray, List.set_cons_zero, List.set_cons_succ]))
    (refine Ord.take (yieldsIf_load_mid rfl _ _ rfl (w.heap.size) 0 rfl _ _ (fun w' h => h.1.env.range) Try.underlying36 rfl (by kernel_rfl)) ?_; (try simp only [Act.put, List.setIfInBounds_toArray, List.set_cons_zero, List.set_cons_succ]))
    (refine Ord.take (v := ?_) (Or.inl ⟨rfl, ?_⟩) ?_; rotate_left; (intro w hSw; (try dsimp only at hSw); go_simp; try (with_reducible rfl)); (try simp only [Act.put, List.setIfInBounds_toArray, List.set_cons_zero, List.set_cons_succ]))
    (refine Ord.take (v := ?_) (Or.inl ⟨rfl, ?_⟩) ?_; rotate_left; (intro w hSw; (try dsimp only at hSw); go_simp; try (with_reducible rfl)); (try simp only [Act.put, List.setIfInBounds_toArray, List.set_cons_zero, List.set_cons_succ]))
    refine Ord.alone' rfl rfl (fun K hK => ?_)
    go_simp
    refine (textWidth_n 0 0 L _ _ _ s2 size _ HK.out (by omega) (hS2.1.ints2)).mono ?_
    rintro e u3 ⟨rfl, hbq⟩
    have hS3 := hS u3 (hS2.1.on hbq)
    clear hbq
    go_wp2_with fail
    refine hK.out _ _ (hS3) (fun _ => ?_)
    clear hK K
    (try simp only [Act.put, List.setIfInBounds_toArray, List.set_cons_zero, List.set_cons_succ])
    refine Ord.alone' rfl rfl (fun K hK => ?_)
    go_simp
    refine (refWidth_n ew eh L _ A c s2 size _ HK.out (by omega) (hS3.1.ints hT)).mono ?_
    rintro e u4 ⟨rfl, hbq⟩
    have hS4 := hS u4 (hS3.1.on hbq)
    clear hbq
    go_wp2_with fail
    refine hK.out _ _ (hS4) (fun _ => ?_)
    clear hK K
    (try simp only [Act.put, List.setIfInBounds_toArray, List.set_cons_zero, List.set_cons_succ])
    (refine Ord.take (v := ?_) (Or.inl ⟨rfl, ?_⟩) ?_; rotate_left; (intro w hSw; (try dsimp only at hSw); go_simp; try (with_reducible rfl)); (try simp only [Act.put, List.setIfInBounds_toArray, List.set_cons_zero, List.set_cons_succ]))
    (refine Ord.take (v := ?_) (Or.inl ⟨rfl, ?_⟩) ?_; rotate_left; (intro w hSw; (try dsimp only at hSw); go_simp; try (with_reducible rfl)); (try simp only [Act.put, List.setIfInBounds_toArray, List.set_cons_zero, List.set_cons_succ]))
    (refine Ord.take (v := ?_) (Or.inl ⟨rfl, ?_⟩) ?_; rotate_left; (intro w hSw; (try dsimp only at hSw); go_simp; try (with_reducible rfl)); (try simp only [Act.put, List.setIfInBounds_toArray, List.set_cons_zero, List.set_cons_succ]))
    (refine Ord.take (yieldsIf_load_mid rfl _ _ rfl (w.heap.size + 1) 0 rfl _ _ (fun w' h => h.1.sty.range) Try.underlying43 rfl (by rw [Array.length_toList, hst.size]; exact info_sti)) ?_; (try simp only [Act.put, List.setIfInBounds_toArray, List.set_cons_zero, List.set_cons_succ]))
    (refine Ord.take (yieldsIf_load_mid rfl _ _ rfl (w.heap.size + 1) 0 rfl _ _ (fun w' h => h.1.sty.range) Try.underlying43 rfl (by rw [Array.length_toList, hst.size]; exact info_sti)) ?_; (try simp only [Act.put, List.setIfInBounds_toArray, List.set_cons_zero, List.set_cons_succ]))
    refine Ord.alone' rfl rfl (fun K hK => ?_)
    go_simp
    refine (text_HeightX cs sz ln _ hst).mono ?_
    rintro e u5 ⟨rfl, hbq⟩
    have hS5 := hS u5 (hS4.1.on hbq)
    clear hbq
    go_wp2_with fail
    refine hK.out _ _ (hS5) (fun _ => ?_)
    clear hK K
    (try simp only [Act.put, List.setIfInBounds_toArray, List.set_cons_zero, List.set_cons_succ])
    refine Ord.alone' rfl rfl (fun K hK => ?_)
    go_simp
    refine (ref14_Height cs sz ln _ hst).mono ?_
    rintro e u6 ⟨rfl, hbq⟩
    have hS6 := hS u6 (hS5.1.on hbq)
    clear hbq
    go_wp2_with fail
    refine hK.out _ _ (hS6) (fun _ => ?_)
    clear hK K
    (try simp only [Act.put, List.setIfInBounds_toArray, List.set_cons_zero, List.set_cons_succ])
    (refine Ord.take (v := ?_) (Or.inl ⟨rfl, ?_⟩) ?_; rotate_left; (intro w hSw; (try dsimp only at hSw); go_simp; try (with_reducible rfl)); (try simp only [Act.put, List.setIfInBounds_toArray, List.set_cons_zero, List.set_cons_succ]))
    (refine Ord.take (v := ?_) (Or.inl ⟨rfl, ?_⟩) ?_; rotate_left; (intro w hSw; (try dsimp only at hSw); go_simp; try (with_reducible rfl)); (try simp only [Act.put, List.setIfInBounds_toArray, List.set_cons_zero, List.set_cons_succ]))
    (refine Ord.take (v := ?_) (Or.inl ⟨rfl, ?_⟩) ?_; rotate_left; (intro w hSw; (try dsimp only at hSw); go_simp; try (with_reducible rfl)); (try simp only [Act.put, List.setIfInBounds_toArray, List.set_cons_zero, List.set_cons_succ]))
    (refine Ord.take (v := ?_) (Or.inl ⟨rfl, ?_⟩) ?_; rotate_left; (intro w hSw; (try dsimp only at hSw); go_simp; try (with_reducible rfl)); (try simp only [Act.put, List.setIfInBounds_toArray, List.set_cons_zero, List.set_cons_succ]))
    (refine Ord.take (v := ?_) (Or.inl ⟨rfl, ?_⟩) ?_; rotate_left; (intro w hSw; (try dsimp only at hSw); go_simp; try (with_reducible rfl)); (try simp only [Act.put, List.setIfInBounds_toArray, List.set_cons_zero, List.set_cons_succ]))
    (refine Ord.take (v := ?_) (Or.inl ⟨rfl, ?_⟩) ?_; rotate_left; (intro w hSw; (try dsimp only at hSw); go_simp; try (with_reducible rfl)); (try simp only [Act.put, List.setIfInBounds_toArray, List.set_cons_zero, List.set_cons_succ]))
    refine Ord.alone' rfl rfl (fun K hK => ?_)
    go_simp
    refine (intact_n L _ _ _ A _ c _ _ (-7) _ HK.out rfl (by omega) (by omega) hS6.1.ints3 (hS6.1.ints hT)).mono ?_
    rintro e u7 ⟨rfl, hbq⟩
    have hS7 := hS u7 (hS6.1.on (hbq.below _))
    clear hbq
    go_wp2_with fail
    refine hK.out _ _ (hS7) (fun _ => ?_)
    clear hK K
    (try simp only [Act.put, List.setIfInBounds_toArray, List.set_cons_zero, List.set_cons_succ])
    (refine Ord.take (v := ?_) (Or.inl ⟨rfl, ?_⟩) ?_; rotate_left; (intro w hSw; (try dsimp only at hSw); go_simp; try (with_reducible rfl)); (try simp only [Act.put, List.setIfInBounds_toArray, List.set_cons_zero, List.set_cons_succ]))
    (refine Ord.take (v := ?_) (Or.inl ⟨rfl, ?_⟩) ?_; rotate_left; (intro w hSw; (try dsimp only at hSw); go_simp; try (with_reducible rfl)); (try simp only [Act.put, List.setIfInBounds_toArray, List.set_cons_zero, List.set_cons_succ]))
    refine Ord.alone' rfl rfl (fun K hK => ?_)
    go_simp
    refine (known14 _).mono ?_
    rintro e u8 ⟨rfl, hbq⟩
    have hS8 := hS u8 (hS7.1.on hbq)
    clear hbq
    go_wp2_with fail
    refine hK.out _ _ (hS8) (fun _ => ?_)
    clear hK K
    (try simp only [Act.put, List.setIfInBounds_toArray, List.set_cons_zero, List.set_cons_succ])
    (refine Ord.take (v := ?_) (Or.inl ⟨rfl, ?_⟩) ?_; rotate_left; (intro w hSw; (try dsimp only at hSw); go_simp; try (with_reducible rfl)); (try simp only [Act.put, List.setIfInBounds_toArray, List.set_cons_zero, List.set_cons_succ]))
    (refine Ord.take (v := ?_) (Or.inl ⟨rfl, ?_⟩) ?_; rotate_left; (intro w hSw; (try dsimp only at hSw); go_simp; try (with_reducible rfl)); (try simp only [Act.put, List.setIfInBounds_toArray, List.set_cons_zero, List.set_cons_succ]))
    refine Ord.done (NoPanic.normal ?_)
    clear hS
    go_wp2_with fail
    go_ret
    exact ⟨rfl, hS8.1.below⟩
end Go.Proofs.Yteghacdpfhohoaa
