/-
  The walk of lines.Set.
-/
import Derived.Test.YtebolanengnpfaaKnown15
namespace Go.Proofs.Ytebolanengnpfaa
open Go.RowKit Num Mem Opn
set_option linter.unusedVariables false
set_option linter.unusedSimpArgs false
namespace Num
def Rn.cells (r : Rn) : List Value := [.int .i64 r.piece, .int .i64 r.x, .int .i64 r.y, .int .i64 r.w, .int .i64 r.h]
def rect4 (x y w h : Int) : Array Value := #[.int .i64 x, .int .i64 y, .int .i64 w, .int .i64 h]
theorem runs_step {bottom : Int} {P : List Pc} {k z : Nat} {p : Pc} {n : Int} (h : k < z) (hz : z ≤ P.length) (hp : P[k]? = some p) :
    runs bottom (cut P k z) k n = if p.kind = 3 then runs bottom (cut P (k + 1) z) (k + 1) n else ⟨k, n, sub bottom p.height, p.width, p.height⟩ :: runs bottom (cut P (k + 1) z) (k + 1) (add n p.width) := by
  obtain ⟨q, hq, hc⟩ := cut_cons P h hz
  rw [hp] at hq
  obtain rfl := Option.some.inj hq
  rw [hc, runs]
end Num
theorem rn_length (x : Rn) : x.cells.length = 5 := rfl
theorem info_run5 : (Try.prog.info? 61).map (fun i => (i.zero, i.size, i.bytes)) = some (some (.agg #[.int .i64 0, .int .i64 0, .int .i64 0, .int .i64 0, .int .i64 0]), 5, 40) := by kernel_rfl
set_option maxRecDepth 100000 in
set_option maxHeartbeats 4000000 in
theorem lines_Set (l : List Pc) (A : Option Addr) (c i j : Nat) (wd ht X Y W H align : Int) (w : World) (hij : i ≤ j) (hj : j ≤ l.length) (hl : l.length ≤ 1000) (hA : Pcs w w.heap.size A l) :
    Calls Try.prog 21 #[.slice A l.length c, .agg (Ln.arr ⟨i, j, wd, ht⟩), .agg (rect4 X Y W H), .int .i64 align] w fun e w' =>
      ∃ v, e = .returned v ∧ w'.ownsRow w.heap.size 61 5 v (runsOf l i j wd ht X Y W align).length ((runsOf l i j wd ht X Y W align).flatMap Rn.cells) ∧ Below w.heap.size w w' := by
  obtain ⟨i0, hi, hz0, hz1, hz2⟩ := info_parts info_run5
  have hX : Blk ((w.alloc (.cells (Ln.arr ⟨i, j, wd, ht⟩) 43)).alloc (.cells (rect4 X Y W H) 59)) w.heap.size 43 (Ln.arr ⟨i, j, wd, ht⟩) := (Blk.new _ _ _).alloc _
  have hR : Blk ((w.alloc (.cells (Ln.arr ⟨i, j, wd, ht⟩) 43)).alloc (.cells (rect4 X Y W H) 59)) (w.heap.size + 1) 59 (rect4 X Y W H) := Blk.newAt _ _ _ (by simp)
  have hB : Below w.heap.size w ((w.alloc (.cells (Ln.arr ⟨i, j, wd, ht⟩) 43)).alloc (.cells (rect4 X Y W H) 59)) := by go_grown
  have d1 : decide ((i : Int) < 0) = false := by simp
  have d2 : decide (l.length < j) = false := by simp; omega
  have d3 : decide (j < i) = false := by simp; omega
  obtain ⟨Rl, hRl⟩ : ∃ Rl, runsOf l i j wd ht X Y W align = Rl := ⟨_, rfl⟩
  obtain ⟨lf, hlf⟩ : ∃ lf, begin_ X W wd align = lf := ⟨_, rfl⟩
  have HL : Hid (begin_ X W wd align = lf) := hid hlf
  have HR : Hid (runs (add Y ht) (cut l (wideA l i j) (wideB l i j)) (wideA l i j) lf = Rl) := hid (by rw [← hRl, ← hlf]; rfl)
  rw [hRl]
  clear hRl hlf
  go_enter Try.func21, Try.ntmps21
  go_upto_region 1 with fail
  refine wp_forget (fun Z => Blk Z w.heap.size 43 (Ln.arr ⟨i, j, wd, ht⟩) ∧ Blk Z (w.heap.size + 1) 59 (rect4 X Y W H) ∧ Below w.heap.size w Z) ⟨hX, hR, hB⟩ ?_
  clear hX hR hB
  rintro w0 ⟨hX, hR, hB⟩
  have x0 : w0.cell? ⟨w.heap.size, 0, none⟩ = some (.int .i64 i) := hX.cell 0
  have x1 : w0.cell? ⟨w.heap.size, 1, none⟩ = some (.int .i64 j) := hX.cell 1
  have x2 : w0.cell? ⟨w.heap.size, 2, none⟩ = some (.int .i64 wd) := hX.cell 2
  have x3 : w0.cell? ⟨w.heap.size, 3, none⟩ = some (.int .i64 ht) := hX.cell 3
  have r0 : w0.cell? ⟨w.heap.size + 1, 0, none⟩ = some (.int .i64 X) := hR.cell 0
  have r1 : w0.cell? ⟨w.heap.size + 1, 1, none⟩ = some (.int .i64 Y) := hR.cell 1
  have r2 : w0.cell? ⟨w.heap.size + 1, 2, none⟩ = some (.int .i64 W) := hR.cell 2
  go_upto_region 4 with (go_at_call 38; refine (fixed_Sub _ _ _).mono ?_; rintro e w' ⟨rfl, rfl⟩)
  go_upto_block 0 with (go_at_call 39; refine (fixed_Sat _ _).mono ?_; rintro e w' ⟨rfl, rfl⟩)
  go_cut [10] (fun s10 wx => s10 = .int .i64 lf ∧ w0 = wx)
  case first =>
    by_cases a1 : align = 1
    · have g1 : (align == 1) = true := by simpa using a1
      have HZ : Hid (add (sat X) (max (sub W wd) 0) = lf) := hid (by rw [← HL.out]; unfold begin_; rw [if_pos a1])
      clear a1
      go_wp2_with (go_at_call 31; refine (fixed_Add _ _ _).mono ?_; rintro e w' ⟨rfl, rfl⟩)
      go_meet
      exact ⟨by rw [HZ.out], rfl⟩
    · have g1 : (align == 1) = false := by simpa using a1
      by_cases a2 : align = 2
      · have g2 : (align == 2) = true := by simpa using a2
        have HZ : Hid (add (sat X) (prt (max (sub W wd) 0) 1 2) = lf) := hid (by rw [← HL.out]; unfold begin_; rw [if_neg a1, if_pos a2])
        clear a1 a2
        go_wp2_with (first | (go_at_call 40; refine (fixed_Part _ _ _ _).mono ?_; rintro e w' ⟨rfl, rfl⟩) | (go_at_call 31; refine (fixed_Add _ _ _).mono ?_; rintro e w' ⟨rfl, rfl⟩))
        go_meet
        exact ⟨by rw [HZ.out], rfl⟩
      · have g2 : (align == 2) = false := by simpa using a2
        have HZ : Hid (sat X = lf) := hid (by rw [← HL.out]; unfold begin_; rw [if_neg a1, if_neg a2])
        clear a1 a2
        go_wp2_with fail
        go_meet
        exact ⟨by rw [HZ.out], rfl⟩
  case rest =>
  obtain ⟨rfl, rfl⟩ := hcut
  go_wp2_with fail
  refine (fixed_Add _ _ _).mono ?_
  rintro e w' ⟨rfl, rfl⟩
  have ha1 := wideA_ge l i j
  have ha2 := wideA_le l hij hj
  have ha3 := wideB_ge l hij hj
  have ha4 := wideB_le l i j
  go_wp2_with fail
  refine (lines_wide l _ c i j _ hij hj hl ((hA.below hB).more hB.size)).mono ?_
  rintro e w3 ⟨rfl, hb3⟩
  replace hB := hB.trans (hb3.mono hB.size)
  clear hb3 hX hR x0 x1 x2 x3 r0 r1 r2 HL
  generalize wideA l i j = a at *
  generalize wideB l i j = z at *
  generalize add Y ht = bt at *
  go_wp2_with fail
  go_loopg [10, 12, 15] (z - a) (fun g s10 s12 s15 wr => ∃ (k : Nat) (n : Int) (D : List Rn), g = z - k ∧ a ≤ k ∧ k ≤ z ∧ s15 = .int .i64 k ∧ s10 = .int .i64 n ∧ D.length ≤ k ∧ Hid (D ++ runs bt (cut l k z) k n = Rl) ∧ wr.ownsRow w.heap.size 61 5 s12 D.length (D.flatMap Rn.cells) ∧ Below w.heap.size w wr)
  case atStart => exact ⟨a, lf, [], rfl, Nat.le_refl _, ha3, rfl, rfl, Nat.zero_le _, HR, own_nil _ _ _ _, hB⟩
  case round =>
    clear hB HR
    obtain ⟨k, n, D, rfl, hak, hkz, rfl, rfl, hD, HD, ho, hB⟩ := hrel
    have hsz := hB.size
    by_cases hlt : k < z
    · obtain ⟨b, off, p, rfl, hb, hp, hr⟩ := Pcs.get (hA.below hB) (k := k) (by omega)
      have hkl : k < l.length := by omega
      have HD1 : Hid (D ++ (if p.kind = 3 then runs bt (cut l (k + 1) z) (k + 1) n else ⟨k, n, sub bt p.height, p.width, p.height⟩ :: runs bt (cut l (k + 1) z) (k + 1) (add n p.width)) = Rl) := hid (by
        have := HD.out
        rw [runs_step hlt (by omega) hp.out] at this
        exact this)
      go_wp2_with (first | refine stop_load 36 _ rfl rfl ?_ | refine stop_store 36 _ _ rfl rfl ?_)
      refine ⟨?_⟩
      refine wl_load_at rfl 36 _ rfl b _ rfl p.arr _ hr rfl rfl info_piece ?_
      (try simp only [Act.put, List.setIfInBounds_toArray, List.set_cons_zero, List.set_cons_succ])
      go_wp2_with (first | refine stop_load 36 _ rfl rfl ?_ | refine stop_store 36 _ _ rfl rfl ?_)
      refine ⟨?_⟩
      refine wl_store rfl 36 _ _ rfl wr.heap.size p.arr rfl rfl 36 _ (Blk.new _ _ _) rfl info_piece p.one ?_
      intro w1 hP hC
      have hB1 : Below wr.heap.size wr w1 := ((Below.refl _ _).alloc (Nat.le_refl _) _).trans (hC.below (Nat.le_refl _))
      replace ho := own_below ho hB1
      replace hB := hB.trans (hB1.mono hsz)
      have hgl := hP.lt
      have hgs : w.heap.size ≤ wr.heap.size := hsz
      clear hr hC hB1 HD hsz
      (try simp only [Act.put, List.setIfInBounds_toArray, List.set_cons_zero, List.set_cons_succ])
      generalize wr.heap.size = gs at *
      obtain ⟨kd, hkd⟩ : ∃ kd, p.kind = kd := ⟨_, rfl⟩
      obtain ⟨pw, hpw⟩ : ∃ pw, p.width = pw := ⟨_, rfl⟩
      obtain ⟨ph, hph⟩ : ∃ ph, p.height = ph := ⟨_, rfl⟩
      rw [hkd, hpw, hph] at HD1
      have c0 : w1.cell? ⟨gs, 0, none⟩ = some (.int .i64 kd) := by rw [← hkd]; exact hP.cell 0
      have hcs : ∀ W, Blk W gs 36 p.arr → W.cell? ⟨gs, 3, none⟩ = some (.int .i64 pw) ∧ W.cell? ⟨gs, 4, none⟩ = some (.int .i64 ph) := fun W h => ⟨by rw [← hpw]; exact h.cell 3, by rw [← hph]; exact h.cell 4⟩
      have HCS := hid hcs
      clear hkd hpw hph hcs
      by_cases h3 : kd = 3
      · have g3 : (kd == 3) = true := by simpa using h3
        have HD2 : Hid (D ++ runs bt (cut l (k + 1) z) (k + 1) n = Rl) := hid (by have := HD1.out; rw [if_pos h3] at this; exact this)
        clear h3
        go_wp2_with fail
        go_roundg (z - (k + 1))
        case rel => exact ⟨k + 1, n, D, rfl, by omega, by omega, by go_num, rfl, by omega, HD2, ho, hB⟩
        case measure => omega
      · have g3 : (kd == 3) = false := by simpa using h3
        have HD2 : Hid ((D ++ [(⟨k, n, sub bt ph, pw, ph⟩ : Rn)]) ++ runs bt (cut l (k + 1) z) (k + 1) (add n pw) = Rl) := hid (by have := HD1.out; rw [if_neg h3] at this; simpa using this)
        have hlen := ho.1
        clear h3 HD1
        go_upto_region 18 with fail
        have hS : ∀ W, (Below w.heap.size w W ∧ Blk W gs 36 p.arr) → (fun W => (Below w.heap.size w W ∧ Blk W gs 36 p.arr) ∧ W.cell? ⟨gs, 3, none⟩ = some (.int .i64 pw) ∧ W.cell? ⟨gs, 4, none⟩ = some (.int .i64 ph)) W := fun W h => ⟨h, (HCS.out W h.2).1, (HCS.out W h.2).2⟩
        refine wp_region_noPanic ?_
        refine Ord.region_ord (S := fun W => (Below w.heap.size w W ∧ Blk W gs 36 p.arr) ∧ W.cell? ⟨gs, 3, none⟩ = some (.int .i64 pw) ∧ W.cell? ⟨gs, 4, none⟩ = some (.int .i64 ph)) [(0, true), (1, true), (2, true), (3, true), (4, true), (5, true), (7, true), (8, true), (9, true), (10, true), (6, false), (11, true), (12, true), (13, false), (14, false), (15, true)] (by kernel_rfl) (by kernel_rfl) (by kernel_rfl) (by decide) (fun _ _ _ _ _ h => h) (hS _ ⟨hB.drew, hP.drew⟩) (fun hS0 => ?_)
        simp only [Ord.lay, List.getElem?_cons_zero, List.getElem?_cons_succ]
        (refine Ord.take (v := ?_) (Or.inl ⟨rfl, ?_⟩) ?_; rotate_left; (intro w hSw; (try dsimp only at hSw); go_simp; try (with_reducible rfl)); (try simp only [Act.put, List.setIfInBounds_toArray, List.set_cons_zero, List.set_cons_succ]))
        (refine Ord.take (v := ?_) (Or.inl ⟨rfl, ?_⟩) ?_; rotate_left; (intro w hSw; (try dsimp only at hSw); go_simp; try (with_reducible rfl)); (try simp only [Act.put, List.setIfInBounds_toArray, List.set_cons_zero, List.set_cons_succ]))
        (refine Ord.take (v := ?_) (Or.inl ⟨rfl, ?_⟩) ?_; rotate_left; (intro w hSw; (try dsimp only at hSw); go_simp; try (with_reducible rfl)); (try simp only [Act.put, List.setIfInBounds_toArray, List.set_cons_zero, List.set_cons_succ]))
        (refine Ord.take (v := ?_) (Or.inl ⟨rfl, ?_⟩) ?_; rotate_left; (intro w hSw; (try dsimp only at hSw); go_simp; try (with_reducible rfl)); (try simp only [Act.put, List.setIfInBounds_toArray, List.set_cons_zero, List.set_cons_succ]))
        (refine Ord.take (v := ?_) (Or.inl ⟨rfl, ?_⟩) ?_; rotate_left; (intro w hSw; (try dsimp only at hSw); go_simp; try (with_reducible rfl)); (try simp only [Act.put, List.setIfInBounds_toArray, List.set_cons_zero, List.set_cons_succ]))
        (refine Ord.take (v := ?_) (Or.inl ⟨rfl, ?_⟩) ?_; rotate_left; (intro w hSw; (try dsimp only at hSw); go_simp; try (with_reducible rfl)); (try simp only [Act.put, List.setIfInBounds_toArray, List.set_cons_zero, List.set_cons_succ]))
        (refine Ord.take (v := ?_) (Or.inl ⟨rfl, ?_⟩) ?_; rotate_left; (intro w hSw; (try dsimp only at hSw); go_simp; try (with_reducible rfl)); (try simp only [Act.put, List.setIfInBounds_toArray, List.set_cons_zero, List.set_cons_succ]))
        (refine Ord.take (v := ?_) (Or.inl ⟨rfl, ?_⟩) ?_; rotate_left; (intro w hSw; (try dsimp only at hSw); go_simp; try (with_reducible rfl)); (try simp only [Act.put, List.setIfInBounds_toArray, List.set_cons_zero, List.set_cons_succ]))
        (refine Ord.take (v := ?_) (Or.inl ⟨rfl, ?_⟩) ?_; rotate_left; (intro w hSw; (try dsimp only at hSw); go_simp; try (with_reducible rfl)); (try simp only [Act.put, List.setIfInBounds_toArray, List.set_cons_zero, List.set_cons_succ]))
        (refine Ord.take (v := ?_) (Or.inl ⟨rfl, ?_⟩) ?_; rotate_left; (intro w hSw; (try dsimp only at hSw); go_simp; try (with_reducible rfl)); (try simp only [Act.put, List.setIfInBounds_toArray, List.set_cons_zero, List.set_cons_succ]))
        refine Ord.alone rfl (fun K hK => ?_)
        go_simp
        refine (fixed_Sub _ _ _).mono ?_
        rintro e w' ⟨rfl, rfl⟩
        go_wp2_with fail
        refine hK.out _ _ (hS0) (fun _ => ?_)
        clear hK K
        (try simp only [Act.put, List.setIfInBounds_toArray, List.set_cons_zero, List.set_cons_succ])
        (refine Ord.take (v := ?_) (Or.inl ⟨rfl, ?_⟩) ?_; rotate_left; (intro w hSw; (try dsimp only at hSw); go_simp; try (with_reducible rfl)); (try simp only [Act.put, List.setIfInBounds_toArray, List.set_cons_zero, List.set_cons_succ]))
        (refine Ord.take (v := ?_) (Or.inl ⟨rfl, ?_⟩) ?_; rotate_left; (intro w hSw; (try dsimp only at hSw); go_simp; try (with_reducible rfl)); (try simp only [Act.put, List.setIfInBounds_toArray, List.set_cons_zero, List.set_cons_succ]))
        refine Ord.alone rfl (fun K hK => ?_)
        go_simp
        have hS1 := hS (w1.alloc (.cells #[.int .i64 k, .int .i64 n, .int .i64 (sub bt ph), .int .i64 pw, .int .i64 ph] 61)).drew ⟨(hB.alloc (by omega) _).drew, (hP.alloc _).drew⟩
        refine hK.out _ _ (hS1) (fun _ => ?_)
        clear hK K
        (try simp only [Act.put, List.setIfInBounds_toArray, List.set_cons_zero, List.set_cons_succ])
        refine Ord.alone' rfl rfl (fun K hK => ?_)
        have hown := own_drew (ho.alloc (.cells #[.int .i64 k, .int .i64 n, .int .i64 (sub bt ph), .int .i64 pw, .int .i64 ph] 61))
        refine wp_append_own _ _ _ 56 rfl w.heap.size 61 i0 (.agg #[.int .i64 0, .int .i64 0, .int .i64 0, .int .i64 0, .int .i64 0]) 5 40 Try.underlying56 hi hz0 hz1 hz2 rfl (by decide) u12 _ _ rfl hown ⟨w1.heap.size, 0, none⟩ 1 1 [.int .i64 k, .int .i64 n, .int .i64 (sub bt ph), .int .i64 pw, .int .i64 ph] rfl rfl (news_at (Blk.new w1 61 #[.int .i64 k, .int .i64 n, .int .i64 (sub bt ph), .int .i64 pw, .int .i64 ph]).drew rfl) (by simp [Value.oneCell']) (by unfold maxLen; omega) (by omega) (by simp; omega) ?_
        intro v2 w4 ho2 hg2 _
        have hS2 := hS w4 ⟨hS1.1.1.trans (own_belowB hown hg2 (by simp; omega)), hS1.1.2.grown hown hg2 (by decide)⟩
        (try simp only [Act.put, List.setIfInBounds_toArray, List.set_cons_zero, List.set_cons_succ])
        refine hK.out _ _ hS2 (fun _ => ?_)
        clear hK K hS1 hS0 hown hg2
        (refine Ord.take (v := ?_) (Or.inl ⟨rfl, ?_⟩) ?_; rotate_left; (intro w hSw; (try dsimp only at hSw); go_simp; try (with_reducible rfl)); (try simp only [Act.put, List.setIfInBounds_toArray, List.set_cons_zero, List.set_cons_succ]))
        refine Ord.done (NoPanic.normal ?_)
        have hfin := hS2.1
        clear hS hS2 ho hB hP
        have ho3 : w4.ownsRow w.heap.size 61 5 v2 (D ++ [(⟨k, n, sub bt ph, pw, ph⟩ : Rn)]).length ((D ++ [(⟨k, n, sub bt ph, pw, ph⟩ : Rn)]).flatMap Rn.cells) := by simpa [Rn.cells] using ho2
        have c3 := (HCS.out w4 hfin.2).1
        go_wp2_with fail
        refine (fixed_Add _ _ _).mono ?_
        rintro e w' ⟨rfl, rfl⟩
        go_wp2_with fail
        go_roundg (z - (k + 1))
        case rel => exact ⟨k + 1, _, _, rfl, by omega, by omega, by go_num, rfl, by simp; omega, HD2, ho3, hfin.1⟩
        case measure => omega
    · obtain rfl : k = z := by omega
      have HZ : Hid (D = Rl) := hid (by have := HD.out; rw [cut_nil l (Nat.le_refl _)] at this; simpa [runs] using this)
      go_wp2_with fail
      go_ret
      rw [← HZ.out]
      exact ⟨_, rfl, ho, hB⟩
end Go.Proofs.Ytebolanengnpfaa
