/-
  The walk of the reference's Set.
-/
import Derived.Test.YtebolanengnpfaaSet
namespace Go.Proofs.Ytebolanengnpfaa
open Go.RowKit Num Mem Opn
set_option linter.unusedVariables false
set_option linter.unusedSimpArgs false
namespace Num
theorem add_sat (a b : Int) : add (sat a) b = add a b := by unfold add; rw [sat_sat]
theorem add_zero_sat (a : Int) : add a 0 = sat a := by unfold add; rw [sat_id (show (-70368744177664 : Int) ≤ 0 by omega) (by omega), Int.add_zero, sat_sat]
theorem begin_ref (X f align : Int) : add X (if align = 2 then prt (if (decide (f < 0) || (align != 1 && align != 2)) = true then 0 else f) 1 2 else if (decide (f < 0) || (align != 1 && align != 2)) = true then 0 else f) = (if align = 1 then add (sat X) (max f 0) else if align = 2 then add (sat X) (prt (max f 0) 1 2) else sat X) := by
  by_cases h0 : f < 0
  · have hm : max f 0 = 0 := by omega
    by_cases a1 : align = 1
    · simp [h0, a1, add_sat, hm]
    · by_cases a2 : align = 2
      · simp [h0, a2, add_sat, hm]
      · simp [h0, a1, a2, add_zero_sat]
  · have hm : max f 0 = f := by omega
    by_cases a1 : align = 1
    · simp [h0, a1, add_sat, hm]
    · by_cases a2 : align = 2
      · simp [h0, a2, add_sat, hm]
      · simp [h0, a1, a2, add_zero_sat]
theorem prt_zero : prt 0 1 2 = 0 := by decide
end Num
theorem info_rrun5 : (Try.prog.info? 64).map (fun i => (i.zero, i.size, i.bytes)) = some (some (.agg #[.int .i64 0, .int .i64 0, .int .i64 0, .int .i64 0, .int .i64 0]), 5, 40) := by kernel_rfl
set_option maxRecDepth 100000 in
set_option maxHeartbeats 4000000 in
theorem ref_Set (l : List Pc) (A : Option Addr) (c i j : Nat) (wd ht X Y W H align : Int) (w : World) (hij : i ≤ j) (hj : j ≤ l.length) (hl : l.length ≤ 1000) (hA : Pcs w w.heap.size A l) :
    Calls Try.prog 22 #[.slice A l.length c, .agg (Ln.arr ⟨i, j, wd, ht⟩), .agg (rect4 X Y W H), .int .i64 align] w fun e w' =>
      ∃ v, e = .returned v ∧ w'.ownsRow w.heap.size 64 5 v (runsOf l i j wd ht X Y W align).length ((runsOf l i j wd ht X Y W align).flatMap Rn.cells) ∧ Below w.heap.size w w' := by
  obtain ⟨i0, hi, hz0, hz1, hz2⟩ := info_parts info_rrun5
  have hX : Blk ((w.alloc (.cells (Ln.arr ⟨i, j, wd, ht⟩) 45)).alloc (.cells (rect4 X Y W H) 59)) w.heap.size 45 (Ln.arr ⟨i, j, wd, ht⟩) := (Blk.new _ _ _).alloc _
  have hR : Blk ((w.alloc (.cells (Ln.arr ⟨i, j, wd, ht⟩) 45)).alloc (.cells (rect4 X Y W H) 59)) (w.heap.size + 1) 59 (rect4 X Y W H) := Blk.newAt _ _ _ (by simp)
  have hB : Below w.heap.size w ((w.alloc (.cells (Ln.arr ⟨i, j, wd, ht⟩) 45)).alloc (.cells (rect4 X Y W H) 59)) := by go_grown
  obtain ⟨Rl, hRl⟩ : ∃ Rl, runsOf l i j wd ht X Y W align = Rl := ⟨_, rfl⟩
  obtain ⟨lf, hlf⟩ : ∃ lf, begin_ X W wd align = lf := ⟨_, rfl⟩
  have HL : Hid (begin_ X W wd align = lf) := hid hlf
  have HR : Hid (runs (add Y ht) (cut l (wideA l i j) (wideB l i j)) (wideA l i j) lf = Rl) := hid (by rw [← hRl, ← hlf]; rfl)
  rw [hRl]
  clear hRl hlf
  have ha1 := wideA_ge l i j
  have ha2 := wideA_le l hij hj
  have ha3 := wideB_ge l hij hj
  have ha4 := wideB_le l i j
  go_enter Try.func22, Try.ntmps22
  go_upto_region 1 with fail
  refine wp_forget (fun Z => Blk Z w.heap.size 45 (Ln.arr ⟨i, j, wd, ht⟩) ∧ Blk Z (w.heap.size + 1) 59 (rect4 X Y W H) ∧ Below w.heap.size w Z) ⟨hX, hR, hB⟩ ?_
  clear hX hR hB
  rintro w0 ⟨hX, hR, hB⟩
  have x0 : w0.cell? ⟨w.heap.size, 0, none⟩ = some (.int .i64 i) := hX.cell 0
  have x1 : w0.cell? ⟨w.heap.size, 1, none⟩ = some (.int .i64 j) := hX.cell 1
  go_wp2_with fail
  refine (ref_edges l _ c i j _ hij hj hl ((hA.below hB).more hB.size)).mono ?_
  rintro e w3 ⟨rfl, hb3⟩
  replace hX := hX.below hb3 hX.lt
  replace hR := hR.below hb3 hR.lt
  replace hB := hB.trans (hb3.mono hB.size)
  clear hb3 x0 x1
  have x2 : w3.cell? ⟨w.heap.size, 2, none⟩ = some (.int .i64 wd) := hX.cell 2
  have r0 : w3.cell? ⟨w.heap.size + 1, 0, none⟩ = some (.int .i64 X) := hR.cell 0
  have r2 : w3.cell? ⟨w.heap.size + 1, 2, none⟩ = some (.int .i64 W) := hR.cell 2
  generalize wideA l i j = a at *
  generalize wideB l i j = z at *
  go_wp2_with fail
  refine (ref_Sub _ _ _).mono ?_
  rintro e w' ⟨rfl, rfl⟩
  obtain ⟨f, hf⟩ : ∃ f, sub W wd = f := ⟨_, rfl⟩
  have HF := hid hf
  rw [hf]
  clear hf
  obtain ⟨q, hq⟩ : ∃ q, (decide (f < 0) || (align != 1 && align != 2)) = q := ⟨_, rfl⟩
  obtain ⟨f1, hf1⟩ : ∃ f1, (if q = true then 0 else f) = f1 := ⟨_, rfl⟩
  obtain ⟨f2, hf2⟩ : ∃ f2, (if align = 2 then prt f1 1 2 else f1) = f2 := ⟨_, rfl⟩
  have HQ := hid hq
  have HF1 := hid hf1
  have HF2 := hid hf2
  have HLF : Hid (add X f2 = lf) := hid (by
    rw [← HL.out, ← hf2, ← hf1, ← hq]
    unfold begin_
    rw [HF.out]
    exact begin_ref X f align)
  clear hq hf1 hf2 HL HF
  go_upto_region 4 with fail
  go_cut [39] (fun s39 wx => s39 = .bool q ∧ w3 = wx)
  case first =>
    by_cases h0 : f < 0
    · have g0 : decide (f < 0) = true := by simpa using h0
      have HZ : Hid (q = true) := hid (by rw [← HQ.out, g0]; rfl)
      go_wp2_with fail
      go_meet
      exact ⟨by rw [HZ.out], rfl⟩
    · have g0 : decide (f < 0) = false := by simpa using h0
      by_cases a1 : align = 1
      · have g1 : (align != 1) = false := by rw [bne_eq_false_iff_eq]; exact a1
        have HZ : Hid (q = false) := hid (by rw [← HQ.out, g0, g1]; rfl)
        clear a1
        go_wp2_with fail
        go_meet
        exact ⟨by rw [HZ.out], rfl⟩
      · have g1 : (align != 1) = true := by rw [bne_iff_ne]; exact a1
        have HZ : Hid (q = (align != 2)) := hid (by rw [← HQ.out, g0, g1]; rfl)
        clear a1
        go_wp2_with fail
        go_meet
        exact ⟨by rw [HZ.out], rfl⟩
  case rest =>
  obtain ⟨rfl, rfl⟩ := hcut
  go_upto_if 39 with fail
  go_cut [12] (fun s12 wx => s12 = .int .i64 f1 ∧ w3 = wx)
  case first =>
    cases q
    · have HZ : Hid (f = f1) := hid (by rw [← HF1.out]; rfl)
      go_wp2_with fail
      go_meet
      exact ⟨by rw [HZ.out], rfl⟩
    · have HZ : Hid (0 = f1) := hid (by rw [← HF1.out]; rfl)
      go_wp2_with fail
      go_meet
      exact ⟨by rw [← HZ.out], rfl⟩
  case rest =>
  obtain ⟨rfl, rfl⟩ := hcut
  clear HQ HF1
  go_upto_if 41 with fail
  go_cut [12] (fun s12 wx => s12 = .int .i64 f2 ∧ w3 = wx)
  case first =>
    by_cases a2 : align = 2
    · have g2 : (align == 2) = true := by simpa using a2
      have HZ : Hid (prt f1 1 2 = f2) := hid (by rw [← HF2.out, if_pos a2])
      clear a2
      go_wp2_with fail
      refine (ref_Part _ _ _ _).mono ?_
      rintro e w' ⟨rfl, rfl⟩
      go_wp2_with fail
      go_meet
      exact ⟨by rw [HZ.out], rfl⟩
    · have g2 : (align == 2) = false := by simpa using a2
      have HZ : Hid (f1 = f2) := hid (by rw [← HF2.out, if_neg a2])
      clear a2
      go_wp2_with fail
      go_meet
      exact ⟨by rw [HZ.out], rfl⟩
  case rest =>
  obtain ⟨rfl, rfl⟩ := hcut
  clear HF2
  go_wp2_with fail
  refine (ref_Add _ _ _).mono ?_
  rintro e w' ⟨rfl, rfl⟩
  rw [HLF.out]
  clear x2 r0 r2 HLF
  go_wp2_with fail
  go_loopg [9, 13, 14] (z - a) (fun g s9 s13 s14 wr => ∃ (k : Nat) (n : Int) (D : List Rn), g = z - k ∧ a ≤ k ∧ k ≤ z ∧ s14 = .int .i64 k ∧ s13 = .int .i64 n ∧ D.length ≤ k ∧ Hid (D ++ runs (add Y ht) (cut l k z) k n = Rl) ∧ wr.ownsRow w.heap.size 64 5 s9 D.length (D.flatMap Rn.cells) ∧ Below w.heap.size w wr ∧ Blk wr w.heap.size 45 (Ln.arr ⟨i, j, wd, ht⟩) ∧ Blk wr (w.heap.size + 1) 59 (rect4 X Y W H))
  case atStart => exact ⟨a, lf, [], rfl, Nat.le_refl _, ha3, rfl, rfl, Nat.zero_le _, HR, own_nil _ _ _ _, hB, hX, hR⟩
  case round =>
    clear hB HR hX hR
    obtain ⟨k, n, D, rfl, hak, hkz, rfl, rfl, hD, HD, ho, hB, hX, hR⟩ := hrel
    have hsz := hB.size
    by_cases hlt : k < z
    · obtain ⟨b, off, p, rfl, hb, hp, hr⟩ := Pcs.get (hA.below hB) (k := k) (by omega)
      have hkl : k < l.length := by omega
      have HD1 : Hid (D ++ (if p.kind = 3 then runs (add Y ht) (cut l (k + 1) z) (k + 1) n else ⟨k, n, sub (add Y ht) p.height, p.width, p.height⟩ :: runs (add Y ht) (cut l (k + 1) z) (k + 1) (add n p.width)) = Rl) := hid (by
        have := HD.out
        rw [runs_step hlt (by omega) hp.out] at this
        exact this)
      have c0 := piece_kind hr
      have HCP : Hid (∀ W, Below w.heap.size w W → W.cell? ⟨b, off + k * 57 + 3, none⟩ = some (.int .i64 p.width) ∧ W.cell? ⟨b, off + k * 57 + 4, none⟩ = some (.int .i64 p.height)) := hid (fun W h => by
        obtain ⟨p', _, hp', hr'⟩ := Pcs.here (hA.below h) (k := k) hkl
        obtain rfl : p = p' := Option.some.inj (hp.out.symm.trans hp'.out)
        exact ⟨piece_width hr', piece_height hr'⟩)
      obtain ⟨kd, hkd⟩ : ∃ kd, p.kind = kd := ⟨_, rfl⟩
      obtain ⟨pw, hpw⟩ : ∃ pw, p.width = pw := ⟨_, rfl⟩
      obtain ⟨ph, hph⟩ : ∃ ph, p.height = ph := ⟨_, rfl⟩
      rw [hkd, hpw, hph] at HD1
      rw [hpw, hph] at HCP
      rw [hkd] at c0
      clear hkd hpw hph hr HD
      by_cases h3 : kd = 3
      · have g3 : (kd == 3) = true := by simpa using h3
        have HD2 : Hid (D ++ runs (add Y ht) (cut l (k + 1) z) (k + 1) n = Rl) := hid (by have := HD1.out; rw [if_pos h3] at this; exact this)
        clear h3
        go_wp2_with fail
        go_roundg (z - (k + 1))
        case rel => exact ⟨k + 1, n, D, rfl, by omega, by omega, by go_num, rfl, by omega, HD2, ho, hB, hX, hR⟩
        case measure => omega
      · have g3 : (kd == 3) = false := by simpa using h3
        have HD2 : Hid ((D ++ [(⟨k, n, sub (add Y ht) ph, pw, ph⟩ : Rn)]) ++ runs (add Y ht) (cut l (k + 1) z) (k + 1) (add n pw) = Rl) := hid (by have := HD1.out; rw [if_neg h3] at this; simpa using this)
        have hlen := ho.1
        clear h3 HD1
        go_upto_region 13 with fail

        go_cut [15] (fun s15 wx => s15 = .int .i64 (sub (add Y ht) ph) ∧ wx = wr.drew)
        case first =>
          have hS : ∀ Z, (Below w.heap.size w Z ∧ Blk Z w.heap.size 45 (Ln.arr ⟨i, j, wd, ht⟩) ∧ Blk Z (w.heap.size + 1) 59 (rect4 X Y W H)) → (fun Z => (Below w.heap.size w Z ∧ Blk Z w.heap.size 45 (Ln.arr ⟨i, j, wd, ht⟩) ∧ Blk Z (w.heap.size + 1) 59 (rect4 X Y W H)) ∧ Z.cell? ⟨w.heap.size, 3, none⟩ = some (.int .i64 ht) ∧ Z.cell? ⟨w.heap.size + 1, 1, none⟩ = some (.int .i64 Y) ∧ Z.cell? ⟨b, off + k * 57 + 4, none⟩ = some (.int .i64 ph)) Z := fun Z h => ⟨h, h.2.1.cell 3, h.2.2.cell 1, (HCP.out Z h.1).2⟩
          refine wp_region_noPanic ?_
          refine Ord.region_ord (S := fun Z => (Below w.heap.size w Z ∧ Blk Z w.heap.size 45 (Ln.arr ⟨i, j, wd, ht⟩) ∧ Blk Z (w.heap.size + 1) 59 (rect4 X Y W H)) ∧ Z.cell? ⟨w.heap.size, 3, none⟩ = some (.int .i64 ht) ∧ Z.cell? ⟨w.heap.size + 1, 1, none⟩ = some (.int .i64 Y) ∧ Z.cell? ⟨b, off + k * 57 + 4, none⟩ = some (.int .i64 ph)) [(0, true), (1, true), (2, true), (3, true), (5, true), (6, true), (7, true), (8, true), (9, true), (4, false), (10, false), (11, true)] (by kernel_rfl) (by kernel_rfl) (by kernel_rfl) (by decide) (fun _ _ _ _ _ h => h) (hS _ ⟨hB.drew, hX.drew, hR.drew⟩) (fun hS0 => ?_)
          simp only [Ord.lay, List.getElem?_cons_zero, List.getElem?_cons_succ]
          (refine Ord.take (v := ?_) (Or.inl ⟨rfl, ?_⟩) ?_; rotate_left; (intro w hSw; (try dsimp only at hSw); go_simp; try (with_reducible rfl)); (try simp only [Act.put, List.setIfInBounds_toArray, List.set_cons_zero, List.set_cons_succ]))
          (refine Ord.take (v := ?_) (Or.inl ⟨rfl, ?_⟩) ?_; rotate_left; (intro w hSw; (try dsimp only at hSw); go_simp; try (with_reducible rfl)); (try simp only [Act.put, List.setIfInBounds_toArray, List.set_cons_zero, List.set_cons_succ]))
          (refine Ord.take (v := ?_) (Or.inl ⟨rfl, ?_⟩) ?_; rotate_left; (intro w hSw; (try dsimp only at hSw); go_simp; try (with_reducible rfl)); (try simp only [Act.put, List.setIfInBounds_toArray, List.set_cons_zero, List.set_cons_succ]))
          (refine Ord.take (v := ?_) (Or.inl ⟨rfl, ?_⟩) ?_; rotate_left; (intro w hSw; (try dsimp only at hSw); go_simp; try (with_reducible rfl)); (try simp only [Act.put, List.setIfInBounds_toArray, List.set_cons_zero, List.set_cons_succ]))
          (refine Ord.take (v := ?_) (Or.inl ⟨rfl, ?_⟩) ?_; rotate_left; (intro w hSw; (try dsimp only at hSw); go_simp; try (with_reducible rfl)); (try simp only [Act.put, List.setIfInBounds_toArray, List.set_cons_zero, List.set_cons_succ]))
          (refine Ord.take (v := ?_) (Or.inl ⟨rfl, ?_⟩) ?_; rotate_left; (intro w hSw; (try dsimp only at hSw); go_simp; try (with_reducible rfl)); (try simp only [Act.put, List.setIfInBounds_toArray, List.set_cons_zero, List.set_cons_succ]))
          (refine Ord.take (v := ?_) (Or.inl ⟨rfl, ?_⟩) ?_; rotate_left; (intro w hSw; (try dsimp only at hSw); go_simp; try (with_reducible rfl)); (try simp only [Act.put, List.setIfInBounds_toArray, List.set_cons_zero, List.set_cons_succ]))
          (refine Ord.take (v := ?_) (Or.inl ⟨rfl, ?_⟩) ?_; rotate_left; (intro w hSw; (try dsimp only at hSw); go_simp; try (with_reducible rfl)); (try simp only [Act.put, List.setIfInBounds_toArray, List.set_cons_zero, List.set_cons_succ]))
          (refine Ord.take (v := ?_) (Or.inl ⟨rfl, ?_⟩) ?_; rotate_left; (intro w hSw; (try dsimp only at hSw); go_simp; try (with_reducible rfl)); (try simp only [Act.put, List.setIfInBounds_toArray, List.set_cons_zero, List.set_cons_succ]))
          refine Ord.alone rfl (fun K hK => ?_)
          go_simp
          refine (ref_Add _ _ _).mono ?_
          rintro e w' ⟨rfl, rfl⟩
          go_wp2_with fail
          refine hK.out _ _ (hS0) (fun _ => ?_)
          clear hK K
          (try simp only [Act.put, List.setIfInBounds_toArray, List.set_cons_zero, List.set_cons_succ])
          refine Ord.alone rfl (fun K hK => ?_)
          go_simp
          refine (ref_Sub _ _ _).mono ?_
          rintro e w' ⟨rfl, rfl⟩
          go_wp2_with fail
          refine hK.out _ _ (hS0) (fun _ => ?_)
          clear hK K
          (try simp only [Act.put, List.setIfInBounds_toArray, List.set_cons_zero, List.set_cons_succ])
          (refine Ord.take (v := ?_) (Or.inl ⟨rfl, ?_⟩) ?_; rotate_left; (intro w hSw; (try dsimp only at hSw); go_simp; try (with_reducible rfl)); (try simp only [Act.put, List.setIfInBounds_toArray, List.set_cons_zero, List.set_cons_succ]))
          refine Ord.done (NoPanic.normal ?_)
          clear hS
          go_wp2_with fail
          go_meet
          exact ⟨rfl, rfl⟩
        case rest =>
        obtain ⟨rfl, rfl⟩ := hcut
        replace ho := own_drew ho
        replace hB := hB.drew
        replace hX := hX.drew
        replace hR := hR.drew
        have hsz : w.heap.size ≤ wr.drew.heap.size := hB.size
        obtain ⟨wq, hwq⟩ : ∃ wq, wr.drew = wq := ⟨_, rfl⟩
        rw [hwq] at ho hB hX hR hsz ⊢
        clear hwq
        go_upto_region 14 with fail
        have hS : ∀ Z, (Below w.heap.size w Z ∧ Blk Z w.heap.size 45 (Ln.arr ⟨i, j, wd, ht⟩) ∧ Blk Z (w.heap.size + 1) 59 (rect4 X Y W H)) → (fun Z => (Below w.heap.size w Z ∧ Blk Z w.heap.size 45 (Ln.arr ⟨i, j, wd, ht⟩) ∧ Blk Z (w.heap.size + 1) 59 (rect4 X Y W H)) ∧ Z.cell? ⟨b, off + k * 57 + 3, none⟩ = some (.int .i64 pw) ∧ Z.cell? ⟨b, off + k * 57 + 4, none⟩ = some (.int .i64 ph)) Z := fun Z h => ⟨h, (HCP.out Z h.1).1, (HCP.out Z h.1).2⟩
        refine wp_region_noPanic ?_
        refine Ord.region_ord (S := fun Z => (Below w.heap.size w Z ∧ Blk Z w.heap.size 45 (Ln.arr ⟨i, j, wd, ht⟩) ∧ Blk Z (w.heap.size + 1) 59 (rect4 X Y W H)) ∧ Z.cell? ⟨b, off + k * 57 + 3, none⟩ = some (.int .i64 pw) ∧ Z.cell? ⟨b, off + k * 57 + 4, none⟩ = some (.int .i64 ph)) [(0, true), (1, true), (2, true), (3, true), (4, true), (5, true), (6, true), (7, true), (8, true), (9, true), (10, true), (11, true), (12, true), (13, true), (14, true), (15, true), (16, false), (17, false), (18, true)] (by kernel_rfl) (by kernel_rfl) (by kernel_rfl) (by decide) (fun _ _ _ _ _ h => h) (hS _ ⟨hB.drew, hX.drew, hR.drew⟩) (fun hS0 => ?_)
        simp only [Ord.lay, List.getElem?_cons_zero, List.getElem?_cons_succ]
        (refine Ord.take (v := ?_) (Or.inl ⟨rfl, ?_⟩) ?_; rotate_left; (intro w hSw; (try dsimp only at hSw); go_simp; try (with_reducible rfl)); (try simp only [Act.put, List.setIfInBounds_toArray, List.set_cons_zero, List.set_cons_succ]))
        (refine Ord.take (v := ?_) (Or.inl ⟨rfl, ?_⟩) ?_; rotate_left; (intro w hSw; (try dsimp only at hSw); go_simp; try (with_reducible rfl)); (try simp only [Act.put, List.setIfInBounds_toArray, List.set_cons_zero, List.set_cons_succ]))
        (refine Ord.take (v := ?_) (Or.inl ⟨rfl, ?_⟩) ?_; rotate_left; (intro w hSw; (try dsimp only at hSw); go_simp; try (with_reducible rfl)); (try simp only [Act.put, List.setIfInBounds_toArray, List.set_cons_zero, List.set_cons_succ]))
        (refine Ord.take (v := ?_) (Or.inl ⟨rfl, ?_⟩) ?_; rotate_left; (intro w hSw; (try dsimp only at hSw); go_simp; try (with_reducible rfl)); (try simp only [Act.put, List.setIfInBounds_toArray, List.set_cons_zero, List.set_cons_succ]))
        (refine Ord.take (v := ?_) (Or.inl ⟨rfl, ?_⟩) ?_; rotate_left; (intro w hSw; (try dsimp only at hSw); go_simp; try (with_reducible rfl)); (try simp only [Act.put, List.setIfInBounds_toArray, List.set_cons_zero, List.set_cons_succ]))
        (refine Ord.take (v := ?_) (Or.inl ⟨rfl, ?_⟩) ?_; rotate_left; (intro w hSw; (try dsimp only at hSw); go_simp; try (with_reducible rfl)); (try simp only [Act.put, List.setIfInBounds_toArray, List.set_cons_zero, List.set_cons_succ]))
        (refine Ord.take (v := ?_) (Or.inl ⟨rfl, ?_⟩) ?_; rotate_left; (intro w hSw; (try dsimp only at hSw); go_simp; try (with_reducible rfl)); (try simp only [Act.put, List.setIfInBounds_toArray, List.set_cons_zero, List.set_cons_succ]))
        (refine Ord.take (v := ?_) (Or.inl ⟨rfl, ?_⟩) ?_; rotate_left; (intro w hSw; (try dsimp only at hSw); go_simp; try (with_reducible rfl)); (try simp only [Act.put, List.setIfInBounds_toArray, List.set_cons_zero, List.set_cons_succ]))
        (refine Ord.take (v := ?_) (Or.inl ⟨rfl, ?_⟩) ?_; rotate_left; (intro w hSw; (try dsimp only at hSw); go_simp; try (with_reducible rfl)); (try simp only [Act.put, List.setIfInBounds_toArray, List.set_cons_zero, List.set_cons_succ]))
        (refine Ord.take (v := ?_) (Or.inl ⟨rfl, ?_⟩) ?_; rotate_left; (intro w hSw; (try dsimp only at hSw); go_simp; try (with_reducible rfl)); (try simp only [Act.put, List.setIfInBounds_toArray, List.set_cons_zero, List.set_cons_succ]))
        (refine Ord.take (v := ?_) (Or.inl ⟨rfl, ?_⟩) ?_; rotate_left; (intro w hSw; (try dsimp only at hSw); go_simp; try (with_reducible rfl)); (try simp only [Act.put, List.setIfInBounds_toArray, List.set_cons_zero, List.set_cons_succ]))
        (refine Ord.take (v := ?_) (Or.inl ⟨rfl, ?_⟩) ?_; rotate_left; (intro w hSw; (try dsimp only at hSw); go_simp; try (with_reducible rfl)); (try simp only [Act.put, List.setIfInBounds_toArray, List.set_cons_zero, List.set_cons_succ]))
        (refine Ord.take (v := ?_) (Or.inl ⟨rfl, ?_⟩) ?_; rotate_left; (intro w hSw; (try dsimp only at hSw); go_simp; try (with_reducible rfl)); (try simp only [Act.put, List.setIfInBounds_toArray, List.set_cons_zero, List.set_cons_succ]))
        (refine Ord.take (v := ?_) (Or.inl ⟨rfl, ?_⟩) ?_; rotate_left; (intro w hSw; (try dsimp only at hSw); go_simp; try (with_reducible rfl)); (try simp only [Act.put, List.setIfInBounds_toArray, List.set_cons_zero, List.set_cons_succ]))
        (refine Ord.take (v := ?_) (Or.inl ⟨rfl, ?_⟩) ?_; rotate_left; (intro w hSw; (try dsimp only at hSw); go_simp; try (with_reducible rfl)); (try simp only [Act.put, List.setIfInBounds_toArray, List.set_cons_zero, List.set_cons_succ]))
        (refine Ord.take (v := ?_) (Or.inl ⟨rfl, ?_⟩) ?_; rotate_left; (intro w hSw; (try dsimp only at hSw); go_simp; try (with_reducible rfl)); (try simp only [Act.put, List.setIfInBounds_toArray, List.set_cons_zero, List.set_cons_succ]))
        refine Ord.alone rfl (fun K hK => ?_)
        go_simp
        have hS1 := hS (wq.alloc (.cells #[.int .i64 k, .int .i64 n, .int .i64 (sub (add Y ht) ph), .int .i64 pw, .int .i64 ph] 64)).drew ⟨(hB.alloc hsz _).drew, (hX.alloc _).drew, (hR.alloc _).drew⟩
        refine hK.out _ _ (hS1) (fun _ => ?_)
        clear hK K
        (try simp only [Act.put, List.setIfInBounds_toArray, List.set_cons_zero, List.set_cons_succ])
        refine Ord.alone' rfl rfl (fun K hK => ?_)
        have hown := own_drew (ho.alloc (.cells #[.int .i64 k, .int .i64 n, .int .i64 (sub (add Y ht) ph), .int .i64 pw, .int .i64 ph] 64))
        refine wp_append_own _ _ _ 62 rfl w.heap.size 64 i0 (.agg #[.int .i64 0, .int .i64 0, .int .i64 0, .int .i64 0, .int .i64 0]) 5 40 Try.underlying62 hi hz0 hz1 hz2 rfl (by decide) _ _ _ rfl hown ⟨wq.heap.size, 0, none⟩ 1 1 [.int .i64 k, .int .i64 n, .int .i64 (sub (add Y ht) ph), .int .i64 pw, .int .i64 ph] rfl rfl (news_at (Blk.new wq 64 #[.int .i64 k, .int .i64 n, .int .i64 (sub (add Y ht) ph), .int .i64 pw, .int .i64 ph]).drew rfl) (by simp [Value.oneCell']) (by unfold maxLen; omega) (by omega) (by simp; omega) ?_
        intro v2 w4 ho2 hg2 _
        have hS2 := hS w4 ⟨hS1.1.1.trans (own_belowB hown hg2 (by simp; omega)), hS1.1.2.1.grown hown hg2 (by decide), hS1.1.2.2.grown hown hg2 (by decide)⟩
        (try simp only [Act.put, List.setIfInBounds_toArray, List.set_cons_zero, List.set_cons_succ])
        refine hK.out _ _ hS2 (fun _ => ?_)
        clear hK K hS1 hS0 hown hg2
        (refine Ord.take (v := ?_) (Or.inl ⟨rfl, ?_⟩) ?_; rotate_left; (intro w hSw; (try dsimp only at hSw); go_simp; try (with_reducible rfl)); (try simp only [Act.put, List.setIfInBounds_toArray, List.set_cons_zero, List.set_cons_succ]))
        refine Ord.done (NoPanic.normal ?_)
        have hfin := hS2.1
        clear hS hS2 ho hB hX hR
        have ho3 : w4.ownsRow w.heap.size 64 5 v2 (D ++ [(⟨k, n, sub (add Y ht) ph, pw, ph⟩ : Rn)]).length ((D ++ [(⟨k, n, sub (add Y ht) ph, pw, ph⟩ : Rn)]).flatMap Rn.cells) := by simpa [Rn.cells] using ho2
        have c3 := (HCP.out w4 hfin.1).1
        go_wp2_with fail
        refine (ref_Add _ _ _).mono ?_
        rintro e w' ⟨rfl, rfl⟩
        go_wp2_with fail
        go_roundg (z - (k + 1))
        case rel => exact ⟨k + 1, _, _, rfl, by omega, by omega, by go_num, rfl, by simp; omega, HD2, ho3, hfin.1, hfin.2.1, hfin.2.2⟩
        case measure => omega
    · obtain rfl : k = z := by omega
      have HZ : Hid (D = Rl) := hid (by have := HD.out; rw [cut_nil l (Nat.le_refl _)] at this; simpa [runs] using this)
      go_wp2_with fail
      go_ret
      rw [← HZ.out]
      exact ⟨_, rfl, ho, hB⟩
end Go.Proofs.Ytebolanengnpfaa
