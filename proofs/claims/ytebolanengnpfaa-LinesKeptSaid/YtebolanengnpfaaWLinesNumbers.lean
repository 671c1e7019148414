/-
  The walk of LinesNumbers.
-/
import Derived.Test.YtebolanengnpfaaSetRef
import Derived.Test.YtebolanengnpfaaWLinesBreak
namespace Go.Proofs.Ytebolanengnpfaa
open Go.RowKit Num Mem Opn
set_option linter.unusedVariables false
set_option linter.unusedSimpArgs false
theorem set_n (l : List Pc) (n : Nat) (A : Option Addr) (c i j : Nat) (wd ht X Y W H align : Int) (w : World) (hn : l.length = n) (hij : i ≤ j) (hj : j ≤ n) (hl : n ≤ 1000) (hA : Pcs w w.heap.size A l) :
    Calls Try.prog 21 #[.slice A n c, .agg (Ln.arr ⟨i, j, wd, ht⟩), .agg (rect4 X Y W H), .int .i64 align] w fun e w' =>
      ∃ v, e = .returned v ∧ w'.ownsRow w.heap.size 61 5 v (runsOf l i j wd ht X Y W align).length ((runsOf l i j wd ht X Y W align).flatMap Rn.cells) ∧ Below w.heap.size w w' := by
  subst hn
  exact lines_Set l A c i j wd ht X Y W H align w hij hj hl hA
theorem ref_set_n (l : List Pc) (n : Nat) (A : Option Addr) (c i j : Nat) (wd ht X Y W H align : Int) (w : World) (hn : l.length = n) (hij : i ≤ j) (hj : j ≤ n) (hl : n ≤ 1000) (hA : Pcs w w.heap.size A l) :
    Calls Try.prog 22 #[.slice A n c, .agg (Ln.arr ⟨i, j, wd, ht⟩), .agg (rect4 X Y W H), .int .i64 align] w fun e w' =>
      ∃ v, e = .returned v ∧ w'.ownsRow w.heap.size 64 5 v (runsOf l i j wd ht X Y W align).length ((runsOf l i j wd ht X Y W align).flatMap Rn.cells) ∧ Below w.heap.size w w' := by
  subst hn
  exact ref_Set l A c i j wd ht X Y W H align w hij hj hl hA
abbrev Rns (w : World) (B : Nat) (A : Option Addr) (l : List Rn) : Prop := Recs w B A 5 Rn.cells l
theorem own_rns {w : World} {base : Nat} {T : TypeId} {v : Value} {n : Nat} {L : List Rn} (h : w.ownsRow base T 5 v n (L.flatMap Rn.cells)) : ∃ A c, v = .slice A n c ∧ n ≤ c ∧ Rns w w.heap.size A L := by
  obtain ⟨A, c, rfl, hc⟩ := own_some h
  exact ⟨A, c, rfl, hc, Recs.of_own rn_length (by decide) h⟩
theorem runs_at {w : World} {B b off : Nat} {l : List Rn} (h : Rns w B (some ⟨b, off, none⟩) l) {k : Nat} {x : Rn} (hx : l[k]? = some x) :
    w.cell? ⟨b, off + k * 5, none⟩ = some (.int .i64 x.piece) ∧ w.cell? ⟨b, off + k * 5 + 1, none⟩ = some (.int .i64 x.x) ∧ w.cell? ⟨b, off + k * 5 + 2, none⟩ = some (.int .i64 x.y) ∧ w.cell? ⟨b, off + k * 5 + 3, none⟩ = some (.int .i64 x.w) ∧ w.cell? ⟨b, off + k * 5 + 4, none⟩ = some (.int .i64 x.h) := by
  obtain ⟨b', off', e, _, hc⟩ := h (by rintro rfl; simp at hx)
  injection e with e
  injection e with e1 e2 e3
  subst e1 e2
  exact ⟨hc k x hx 0 _ rfl, hc k x hx 1 _ rfl, hc k x hx 2 _ rfl, hc k x hx 3 _ rfl, hc k x hx 4 _ rfl⟩
namespace Num
def B3 : List Bt := [⟨1, 512, 1280, false⟩, ⟨3, 0, 1280, false⟩, ⟨1, 512, 1280, false⟩]
def P3 : List Pc := [⟨1, 0, 512, 1280, false⟩, ⟨3, 1, 0, 1280, false⟩, ⟨1, 2, 512, 1280, false⟩]
def P1 : List Pc := [⟨1, 0, 512, 1280, false⟩]
def M3 : List Ln := [⟨0, 2, 512, 1280⟩, ⟨2, 3, 512, 1280⟩]
theorem three_eq : pcs 0 (B3.take 80) = P3 := by simp [pcs, pcOf, B3, P3, kindOf1, kindOf3, lit24]
theorem lns3 : lns 9999 0 P3 = M3 := by decide
theorem lns0 : lns 1 1 [] = [] := by decide
theorem first9 : firstAny 9 0 P1 0 = ⟨0, 1, 512, 1280⟩ := by decide
theorem first3 : firstAny 1 1 P3 3 = ⟨0, 0, 0, 0⟩ := by decide
theorem firstm : firstAny 1 1 P3 (-1) = ⟨0, 0, 0, 0⟩ := by decide
theorem first5 : firstAny 0 5000 P1 0 = ⟨0, 1, 512, 5000⟩ := by decide
theorem set1 : runsOf P1 0 1 512 1280 0 0 2048 2 = [⟨0, 768, 0, 512, 1280⟩] := by decide
end Num
set_option maxRecDepth 100000 in
set_option maxHeartbeats 4000000 in
theorem walk_LinesNumbers (w : World) : Calls Try.prog 7 #[] w fun e w' => e = .returned (.bool true) ∧ Below w.heap.size w w' := by
  go_enter Try.func7, Try.ntmps7
  go_wp2_with fail
  refine (some_n B3 3 _ _ _ rfl (Recs.ofBlk bt_length (Blk.new w _ _) rfl (by simp)) (by omega) (by simp [B3, I64])).mono ?_
  rintro e w1 ⟨v, v', rfl, hb, ho, ho'⟩
  rw [three_eq] at ho ho'
  have hB : Below w.heap.size w w1 := ((Below.refl _ _).alloc (Nat.le_refl _) _).trans (hb.mono (by simp))
  obtain ⟨A1, c1, rfl, hc1, hP⟩ := own_pcs ho
  clear hb ho ho'
  go_wp2_with fail
  refine (break_n P3 3 A1 c1 9999 0 _ rfl (by omega) hc1 hP).mono ?_
  rintro e w2 ⟨v, rfl, hom, hb⟩
  rw [lns3] at hom
  replace hP := (hP.below hb).more hb.size
  replace hB := hB.trans (hb.mono hB.size)
  clear hb
  obtain ⟨A2, c2, rfl, hc2, hM⟩ := own_lns hom
  clear hom
  obtain ⟨b1, o1, p1, rfl, -, -, -⟩ := hP.at_ (k := 0) (by decide)
  obtain ⟨b2, o2, p2, rfl, -, -, -⟩ := hM.at_ (k := 0) (by decide)
  clear p1 p2
  have hc1' : 3 ≤ c1 := hc1
  have hc2' : 2 ≤ c2 := hc2
  have hT : ∀ W, Pcs W W.heap.size (some ⟨b1, o1, none⟩) P3 → Pcs W W.heap.size (some ⟨b1, o1, none⟩) P1 := fun W h => h.take 1
  go_wp2_with fail
  refine wp_region_noPanic ?_
  refine Ord.region_ord (S := fun W => Below w.heap.size w W ∧ Pcs W W.heap.size (some ⟨b1, o1, none⟩) P3 ∧ Lns W W.heap.size (some ⟨b2, o2, none⟩) M3) [(0, true), (1, true), (2, true), (3, true), (5, true), (4, false), (6, false), (7, true)] (by kernel_rfl) (by kernel_rfl) (by kernel_rfl) (by decide) (fun _ _ _ _ _ h => h) (⟨hB.drew, hP, hM⟩) (fun hS0 => ?_)
  simp only [Ord.lay, List.getElem?_cons_zero, List.getElem?_cons_succ]
  (refine Ord.take (v := ?_) (Or.inl ⟨rfl, ?_⟩) ?_; rotate_left; (intro w hSw; (try dsimp only at hSw); go_simp; try (with_reducible rfl)); (try simp only [Act.put, List.setIfInBounds_toArray, List.set_cons_zero, List.set_cons_succ]))
  (refine Ord.take (v := .slice (some ⟨b1, o1, none⟩) 1 c1) (Or.inl ⟨rfl, fun w hSw => by go_simp; omega⟩) ?_; (try simp only [Act.put, List.setIfInBounds_toArray, List.set_cons_zero, List.set_cons_succ]))
  (refine Ord.take (v := ?_) (Or.inl ⟨rfl, ?_⟩) ?_; rotate_left; (intro w hSw; (try dsimp only at hSw); go_simp; try (with_reducible rfl)); (try simp only [Act.put, List.setIfInBounds_toArray, List.set_cons_zero, List.set_cons_succ]))
  (refine Ord.take (v := .slice (some ⟨b1, o1, none⟩) 1 c1) (Or.inl ⟨rfl, fun w hSw => by go_simp; omega⟩) ?_; (try simp only [Act.put, List.setIfInBounds_toArray, List.set_cons_zero, List.set_cons_succ]))
  (refine Ord.take (v := ?_) (Or.inl ⟨rfl, ?_⟩) ?_; rotate_left; (intro w hSw; (try dsimp only at hSw); go_simp; try (with_reducible rfl)); (try simp only [Act.put, List.setIfInBounds_toArray, List.set_cons_zero, List.set_cons_succ]))
  refine Ord.alone rfl (fun K hK => ?_)
  go_simp
  refine (first_any P1 1 _ _ 0 9 0 _ rfl (by omega) (by omega) (hT _ hS0.2.1)).mono ?_
  rintro e w9 ⟨rfl, hb9⟩
  rw [first9]
  have hS1 : (fun W => Below w.heap.size w W ∧ Pcs W W.heap.size (some ⟨b1, o1, none⟩) P3 ∧ Lns W W.heap.size (some ⟨b2, o2, none⟩) M3) w9 := ⟨hS0.1.trans (hb9.mono hS0.1.size), (hS0.2.1.below hb9).more hb9.size, (hS0.2.2.below hb9).more hb9.size⟩
  go_wp2_with fail
  refine hK.out _ _ (hS1) (fun _ => ?_)
  clear hK K
  (try simp only [Act.put, List.setIfInBounds_toArray, List.set_cons_zero, List.set_cons_succ])
  refine Ord.alone rfl (fun K hK => ?_)
  go_simp
  refine (set_n P1 1 _ _ 0 1 512 1280 0 0 2048 0 2 _ rfl (by omega) (by omega) (by omega) (hT _ hS1.2.1)).mono ?_
  rintro e w10 ⟨v, rfl, hor, hb9⟩
  rw [set1] at hor
  have hS2 : Below w.heap.size w w10 ∧ Pcs w10 w10.heap.size (some ⟨b1, o1, none⟩) P3 ∧ Lns w10 w10.heap.size (some ⟨b2, o2, none⟩) M3 ∧ ∃ A c, v = .slice A 1 c ∧ 1 ≤ c ∧ Rns w10 w10.heap.size A [⟨0, 768, 0, 512, 1280⟩] := ⟨hS1.1.trans (hb9.mono hS1.1.size), (hS1.2.1.below hb9).more hb9.size, (hS1.2.2.below hb9).more hb9.size, own_rns hor⟩
  go_wp2_with fail
  refine hK.out _ _ (⟨hS2.1, hS2.2.1, hS2.2.2.1⟩) (fun _ => ?_)
  clear hK K
  (try simp only [Act.put, List.setIfInBounds_toArray, List.set_cons_zero, List.set_cons_succ])
  (refine Ord.take (v := ?_) (Or.inl ⟨rfl, ?_⟩) ?_; rotate_left; (intro w hSw; (try dsimp only at hSw); go_simp; try (with_reducible rfl)); (try simp only [Act.put, List.setIfInBounds_toArray, List.set_cons_zero, List.set_cons_succ]))
  refine Ord.done (NoPanic.normal ?_)
  obtain ⟨hB, hP, hM, hR⟩ := hS2
  clear hS0 hS1
  obtain ⟨p0, p1, p2, p3⟩ := lines_at hM (k := 0) (x := ⟨0, 2, 512, 1280⟩) rfl
  obtain ⟨q0, q1, q2, q3⟩ := lines_at hM (k := 1) (x := ⟨2, 3, 512, 1280⟩) rfl
  simp only [Nat.zero_mul, Nat.one_mul, Nat.add_zero] at p0 p1 p2 p3 q0 q1 q2 q3
  obtain ⟨A3, c3, rfl, hc3, hR⟩ := hR
  obtain ⟨b3, o3, x3, rfl, -, -, -⟩ := hR.at_ (k := 0) (by simp)
  clear x3
  go_wp2_with fail
  refine (break_n [] 0 none 0 1 1 _ rfl (by omega) (by omega) (Recs.nil _ _ _ _ _)).mono ?_
  rintro e w8 ⟨v, rfl, ho, hb⟩
  rw [lns0] at ho
  obtain ⟨A4, c4, rfl, hc4, -⟩ := own_lns ho
  replace hP := (hP.below hb).more hb.size
  replace hR := (hR.below hb).more hb.size
  replace hB := hB.trans (hb.mono hB.size)
  clear hb ho hM p0 p1 p2 p3 q0 q1 q2 q3
  obtain ⟨r0, r1, r2, r3, r4⟩ := runs_at hR (k := 0) rfl
  simp only [Nat.zero_mul, Nat.add_zero] at r0 r1 r2 r3 r4
  go_wp2_with fail
  refine (first_any P3 3 _ _ 3 1 1 _ rfl (by omega) hc1 hP).mono ?_
  rintro e w9 ⟨rfl, hb⟩
  rw [first3]
  simp only [Ln.arr]
  replace hP := (hP.below hb).more hb.size
  replace hB := hB.trans (hb.mono hB.size)
  clear hb hR r0 r1 r2 r3 r4
  go_wp2_with fail
  refine (first_any P3 3 _ _ (-1) 1 1 _ rfl (by omega) hc1 hP).mono ?_
  rintro e w10 ⟨rfl, hb⟩
  rw [firstm]
  simp only [Ln.arr]
  replace hP := (hP.below hb).more hb.size
  replace hB := hB.trans (hb.mono hB.size)
  clear hb
  go_wp2_with fail
  refine (first_any P1 1 _ _ 0 0 5000 _ rfl (by omega) (by omega) (hT _ hP)).mono ?_
  rintro e w11 ⟨rfl, hb⟩
  rw [first5]
  simp only [Ln.arr]
  replace hB := hB.trans (hb.mono hB.size)
  clear hb hP
  have hfd : ∀ w, (Instr.field 43 (.agg #[.int .i64 0, .int .i64 1, .int .i64 512, .int .i64 5000]) 3).run Try.prog w = .ok (.int .i64 5000) w := fun _ => by kernel_rfl
  go_wp2_with fail
  refine (known15 _).mono ?_
  rintro e w12 ⟨rfl, hb⟩
  go_wp2_with fail
  go_ret
  exact ⟨rfl, hB.trans (hb.mono hB.size)⟩
end Go.Proofs.Ytebolanengnpfaa
