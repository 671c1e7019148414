/-
  The walk of FloatsClears.
-/
import Derived.Test.YtkoanijiihnioaaFloatG
import Derived.Test.YtkoanijiihnioaaOpenAsks
namespace Go.Proofs.Ytkoanijiihnioaa
open Go.RowKit Num Mem Opn
set_option linter.unusedVariables false
set_option linter.unusedSimpArgs false
namespace Num
theorem clear_ge (which : Int) (l : List Fl) : ∀ y, y ≤ clear_ which l y := by
  induction l with
  | nil => intro y; exact Int.le_refl _
  | cons f t ih =>
    intro y
    rw [clear_]
    split
    · have := ih (max y f.bot); omega
    · exact ih y
theorem clear_max (which : Int) (l : List Fl) (z : Int) : ∀ y, clear_ which l (max y z) = max (clear_ which l y) z := by
  induction l with
  | nil => intro y; rfl
  | cons f t ih =>
    intro y
    rw [clear_, clear_]
    split
    · rw [show max (max y z) f.bot = max (max y f.bot) z by omega]; exact ih _
    · exact ih y
theorem clear_both (l : List Fl) : ∀ y, clear_ 3 l y = max (clear_ 1 l y) (clear_ 2 l y) := by
  induction l with
  | nil => intro y; simp [clear_]
  | cons f t ih =>
    intro y
    have h1 := clear_max 1 t f.bot y
    have h2 := clear_max 2 t f.bot y
    have h3 := ih (max y f.bot)
    have g1 := clear_ge 1 t y
    have g2 := clear_ge 2 t y
    cases hr : f.right <;> simp [clear_, hr] <;> omega
theorem clear_none (l : List Fl) : ∀ y, clear_ 0 l y = y := by
  induction l with
  | nil => intro y; rfl
  | cons f t ih => intro y; simp [clear_, ih]
theorem clear_again (which : Int) (l : List Fl) (y : Int) : clear_ which l (clear_ which l y) = clear_ which l y := by
  have h := clear_max which l (clear_ which l y) y
  have g := clear_ge which l y
  rw [show max y (clear_ which l y) = clear_ which l y by omega] at h
  omega
theorem clear_low (which : Int) (l : List Fl) {y z : Int} (h : z ≤ y) : max (clear_ which l z) y = clear_ which l y := by
  rw [← clear_max, show max z y = y by omega]
end Num
theorem cellD {w Z : World} (h : Drawn w Z) (a : Addr) : Z.cell? a = w.cell? a := by simp [World.cell?, h.heap]
set_option maxRecDepth 100000 in
set_option maxHeartbeats 4000000 in
theorem walk_FloatsClears (left width : Int) (A : Option Addr) (l : List Ak) (c : Nat) (y : Int) (w : World) (il : I64 left) (iw : I64 width) (hr : RowA w A l c) (iy : I64 y) :
    Calls Try.prog 3 #[.int .i64 left, .int .i64 width, .slice A l.length c, .int .i64 y] w fun e w' => e = .returned (.bool true) ∧ Below w.heap.size w w' := by
  obtain ⟨hA, hlc, hcp, hx⟩ := hr
  have hy1 := few_lo y
  have hy2 := few_hi y
  go_enter Try.func3, Try.ntmps3
  go_wp2_with fail
  refine (small_any _ _ il).mono ?_
  rintro e w' ⟨rfl, rfl⟩
  go_wp2_with fail
  refine (small_any _ _ iw).mono ?_
  rintro e w' ⟨rfl, rfl⟩
  go_wp2_with fail
  refine (room_New _ _ _).mono ?_
  rintro e w1 ⟨rfl, hB, hs, hR⟩
  have he : (binOp .eql 23 (.pointer (some ⟨w.heap.size, 0, none⟩)) (.pointer none)).run Try.prog w1 = .ok (.bool false) w1 := by kernel_rfl
  generalize sat (few left) = L at *
  generalize add L (max (few width) 0) = R at *
  have hs1 : w.heap.size + 1 ≤ w1.heap.size := by omega
  go_wp2_with fail
  go_loopg [10] l.length (fun g' s10 wr => ∃ (k : Nat) (D : List Fl) (v : Value), g' = l.length - k ∧ k ≤ l.length ∧ k ≤ 30 ∧ s10 = .int .i64 k ∧ D.length = k ∧ RoomAt wr w.heap.size (w.heap.size + 1) L R D v ∧ w.heap.size + 1 ≤ wr.heap.size ∧ Below w.heap.size w wr)
  case atStart => exact ⟨0, [], _, rfl, Nat.zero_le _, by omega, rfl, rfl, hR, hs1, hB⟩
  case round =>
    clear hR hs1 hB hs he
    obtain ⟨k, D, v, rfl, hk, hk30, rfl, hD, hR, hs1, hB⟩ := hrel
    obtain ⟨q, hq⟩ : ∃ q, (decide (k < l.length) && decide (k < 30)) = q := ⟨_, rfl⟩
    have HQ := hid hq
    clear hq
    go_upto_region 5 with fail
    go_cut [30] (fun s30 wx => s30 = .bool q ∧ wr = wx)
    case first =>
      by_cases h1 : k < l.length
      · by_cases h2 : k < 30
        · have HZ : Hid (q = true) := hid (by rw [← HQ.out]; simp [h1, h2])
          have g2 : decide ((k : Int) < 30) = true := by simp; omega
          go_wp2_with fail
          go_meet
          exact ⟨by rw [HZ.out], rfl⟩
        · have HZ : Hid (q = false) := hid (by rw [← HQ.out]; simp [h2])
          have g2 : decide ((k : Int) < 30) = false := by simp; omega
          go_wp2_with fail
          go_meet
          exact ⟨by rw [HZ.out], rfl⟩
      · have HZ : Hid (q = false) := hid (by rw [← HQ.out]; simp [h1])
        go_wp2_with fail
        go_meet
        exact ⟨by rw [HZ.out], rfl⟩
    case rest =>
    obtain ⟨rfl, rfl⟩ := hcut
    cases q
    · clear hA hx HQ
      go_wp2_with fail
      refine (small_any _ _ iy).mono ?_
      rintro e w' ⟨rfl, rfl⟩
      generalize few y = Y at *
      go_wp2_with fail
      refine (room_Clear _ _ L R D v Y 1 _ (by omega) hR).mono ?_
      rintro e w2 ⟨rfl, hb⟩
      replace hR := hR.below hb
      replace hB := hB.trans (hb.mono hB.size)
      clear hb
      go_wp2_with fail
      refine (room_Clear _ _ L R D v Y 2 _ (by omega) hR).mono ?_
      rintro e w3 ⟨rfl, hb⟩
      replace hR := hR.below hb
      replace hB := hB.trans (hb.mono hB.size)
      clear hb
      go_wp2_with fail
      refine (room_Clear _ _ L R D v Y 3 _ (by omega) hR).mono ?_
      rintro e w4 ⟨rfl, hb⟩
      replace hR := hR.below hb
      replace hB := hB.trans (hb.mono hB.size)
      clear hb
      have HA := hid (clear_ge 1 D Y)
      have HB := hid (clear_ge 2 D Y)
      have HC := hid (clear_both D Y)
      have HM := hid (clear_low 3 D (show -70368744177664 ≤ Y by omega))
      have HG := hid (clear_again 3 D Y)
      obtain ⟨a, ha⟩ : ∃ a, clear_ 1 D Y = a := ⟨_, rfl⟩
      obtain ⟨b, hb⟩ : ∃ b, clear_ 2 D Y = b := ⟨_, rfl⟩
      obtain ⟨cc, hc⟩ : ∃ cc, clear_ 3 D Y = cc := ⟨_, rfl⟩
      rw [ha] at HA HC ⊢
      rw [hb] at HB HC ⊢
      rw [hc] at HC HM HG ⊢
      clear ha hb hc
      go_upto_if 72 with fail
      go_cut [14] (fun s14 wx => s14 = .int .i64 cc ∧ w4 = wx)
      case first =>
        by_cases h1 : a < b
        · have HZ : Hid (b = cc) := hid (by have := HC.out; omega)
          have g1 : decide (a < b) = true := by simpa using h1
          go_wp2_with fail
          go_meet
          exact ⟨by rw [HZ.out], rfl⟩
        · have HZ : Hid (a = cc) := hid (by have := HC.out; omega)
          have g1 : decide (a < b) = false := by simpa using h1
          go_wp2_with fail
          go_meet
          exact ⟨by rw [HZ.out], rfl⟩
      case rest =>
      obtain ⟨rfl, rfl⟩ := hcut
      go_wp2_with fail
      refine (room_Bottom _ _ L R D v _ (by omega) hR).mono ?_
      rintro e w5 ⟨rfl, hb⟩
      replace hR := hR.below hb
      replace hB := hB.trans (hb.mono hB.size)
      clear hb
      generalize clear_ 3 D (-70368744177664) = m at *
      go_upto_if 78 with fail
      go_cut [15] (fun s15 wx => s15 = .int .i64 cc ∧ w5 = wx)
      case first =>
        by_cases h1 : m < Y
        · have HZ : Hid (Y = cc) := hid (by have := HM.out; omega)
          have g1 : decide (m < Y) = true := by simpa using h1
          go_wp2_with fail
          go_meet
          exact ⟨by rw [HZ.out], rfl⟩
        · have HZ : Hid (m = cc) := hid (by have := HM.out; omega)
          have g1 : decide (m < Y) = false := by simpa using h1
          go_wp2_with fail
          go_meet
          exact ⟨by rw [HZ.out], rfl⟩
      case rest =>
      obtain ⟨rfl, rfl⟩ := hcut
      have d1 : decide (Y ≤ a) = true := by simpa using HA.out
      have d2 : decide (Y ≤ b) = true := by simpa using HB.out
      have HN := hid (clear_none D Y)
      go_wp2_with fail
      refine (room_Clear _ _ L R D v cc 3 _ (by omega) hR).mono ?_
      rintro e w6 ⟨rfl, hb⟩
      rw [HG.out]
      replace hR := hR.below hb
      replace hB := hB.trans (hb.mono hB.size)
      clear hb
      go_wp2_with fail
      refine (room_Clear _ _ L R D v Y 0 _ (by omega) hR).mono ?_
      rintro e w7 ⟨rfl, hb⟩
      rw [HN.out]
      replace hB := hB.trans (hb.mono hB.size)
      clear hb hR
      go_wp2_with fail
      refine (known17 _).mono ?_
      rintro e w8 ⟨rfl, hb⟩
      go_wp2_with fail
      go_ret
      exact ⟨rfl, hB.trans (hb.mono hB.size)⟩
    · have hlt : k < l.length := by have := HQ.out; simp at this; exact this.1
      have hk29 : k < 30 := by have := HQ.out; simp at this; exact this.2
      clear HQ
      obtain ⟨bq, oq, a, rfl, hbq, hax, q0, q1, q2, q3⟩ := ask_at (hA.below hB) hlt
      obtain ⟨ia1, ia2, ia3⟩ := hx a (List.mem_of_getElem? hax.out)
      have hSQ : ∀ Z, Below w.heap.size wr Z → (fun Z => Z.cell? ⟨bq, oq + k * 4, none⟩ = some (.bool a.right) ∧ Z.cell? ⟨bq, oq + k * 4 + 1, none⟩ = some (.int .i64 a.w) ∧ Z.cell? ⟨bq, oq + k * 4 + 2, none⟩ = some (.int .i64 a.h) ∧ Z.cell? ⟨bq, oq + k * 4 + 3, none⟩ = some (.int .i64 a.from_)) Z := fun Z h => ⟨(h.cell hbq).trans q0, (h.cell hbq).trans q1, (h.cell hbq).trans q2, (h.cell hbq).trans q3⟩
      have hdb : Below w.heap.size wr wr.drew := (Drawn.refl wr).drew.below _
      go_upto_region 7 with fail
      refine wp_region_noPanic ?_
      refine Ord.region_ord (S := fun Z => Z.cell? ⟨bq, oq + k * 4, none⟩ = some (.bool a.right) ∧ Z.cell? ⟨bq, oq + k * 4 + 1, none⟩ = some (.int .i64 a.w) ∧ Z.cell? ⟨bq, oq + k * 4 + 2, none⟩ = some (.int .i64 a.h) ∧ Z.cell? ⟨bq, oq + k * 4 + 3, none⟩ = some (.int .i64 a.from_)) [(0, true), (1, true), (2, true), (3, true), (4, true), (5, true), (6, true), (7, true), (8, true), (9, true), (10, true), (12, true), (13, true), (14, true), (15, true), (16, true), (18, true), (19, true), (20, true), (21, true), (22, true), (11, false), (17, false), (23, false), (24, false)] (by kernel_rfl) (by kernel_rfl) (by kernel_rfl) (by decide) (fun _ _ _ _ _ h => h) (hSQ _ hdb) (fun hS0 => ?_)
      simp only [Ord.lay, List.getElem?_cons_zero, List.getElem?_cons_succ]
      (refine Ord.take (v := ?_) (Or.inl ⟨rfl, ?_⟩) ?_; rotate_left; (intro w hSw; (try dsimp only at hSw); go_simp; try (with_reducible rfl)); (try simp only [Act.put, List.setIfInBounds_toArray, List.set_cons_zero, List.set_cons_succ]))
      (refine Ord.take (v := ?_) (Or.inl ⟨rfl, ?_⟩) ?_; rotate_left; (intro w hSw; (try dsimp only at hSw); go_simp; try (with_reducible rfl)); (try simp only [Act.put, List.setIfInBounds_toArray, List.set_cons_zero, List.set_cons_succ]))
      (refine Ord.take (v := ?_) (Or.inl ⟨rfl, ?_⟩) ?_; rotate_left; (intro w hSw; (try dsimp only at hSw); go_simp; try (with_reducible rfl)); (try simp only [Act.put, List.setIfInBounds_toArray, List.set_cons_zero, List.set_cons_succ]))
      (refine Ord.take (v := ?_) (Or.inl ⟨rfl, ?_⟩) ?_; rotate_left; (intro w hSw; (try dsimp only at hSw); go_simp; try (with_reducible rfl)); (try simp only [Act.put, List.setIfInBounds_toArray, List.set_cons_zero, List.set_cons_succ]))
      (refine Ord.take (v := ?_) (Or.inl ⟨rfl, ?_⟩) ?_; rotate_left; (intro w hSw; (try dsimp only at hSw); go_simp; try (with_reducible rfl)); (try simp only [Act.put, List.setIfInBounds_toArray, List.set_cons_zero, List.set_cons_succ]))
      (refine Ord.take (v := ?_) (Or.inl ⟨rfl, ?_⟩) ?_; rotate_left; (intro w hSw; (try dsimp only at hSw); go_simp; try (with_reducible rfl)); (try simp only [Act.put, List.setIfInBounds_toArray, List.set_cons_zero, List.set_cons_succ]))
      (refine Ord.take (v := ?_) (Or.inl ⟨rfl, ?_⟩) ?_; rotate_left; (intro w hSw; (try dsimp only at hSw); go_simp; try (with_reducible rfl)); (try simp only [Act.put, List.setIfInBounds_toArray, List.set_cons_zero, List.set_cons_succ]))
      (refine Ord.take (v := ?_) (Or.inl ⟨rfl, ?_⟩) ?_; rotate_left; (intro w hSw; (try dsimp only at hSw); go_simp; try (with_reducible rfl)); (try simp only [Act.put, List.setIfInBounds_toArray, List.set_cons_zero, List.set_cons_succ]))
      (refine Ord.take (v := ?_) (Or.inl ⟨rfl, ?_⟩) ?_; rotate_left; (intro w hSw; (try dsimp only at hSw); go_simp; try (with_reducible rfl)); (try simp only [Act.put, List.setIfInBounds_toArray, List.set_cons_zero, List.set_cons_succ]))
      (refine Ord.take (v := ?_) (Or.inl ⟨rfl, ?_⟩) ?_; rotate_left; (intro w hSw; (try dsimp only at hSw); go_simp; try (with_reducible rfl)); (try simp only [Act.put, List.setIfInBounds_toArray, List.set_cons_zero, List.set_cons_succ]))
      (refine Ord.take (v := ?_) (Or.inl ⟨rfl, ?_⟩) ?_; rotate_left; (intro w hSw; (try dsimp only at hSw); go_simp; try (with_reducible rfl)); (try simp only [Act.put, List.setIfInBounds_toArray, List.set_cons_zero, List.set_cons_succ]))
      (refine Ord.take (v := ?_) (Or.inl ⟨rfl, ?_⟩) ?_; rotate_left; (intro w hSw; (try dsimp only at hSw); go_simp; try (with_reducible rfl)); (try simp only [Act.put, List.setIfInBounds_toArray, List.set_cons_zero, List.set_cons_succ]))
      (refine Ord.take (v := ?_) (Or.inl ⟨rfl, ?_⟩) ?_; rotate_left; (intro w hSw; (try dsimp only at hSw); go_simp; try (with_reducible rfl)); (try simp only [Act.put, List.setIfInBounds_toArray, List.set_cons_zero, List.set_cons_succ]))
      (refine Ord.take (v := ?_) (Or.inl ⟨rfl, ?_⟩) ?_; rotate_left; (intro w hSw; (try dsimp only at hSw); go_simp; try (with_reducible rfl)); (try simp only [Act.put, List.setIfInBounds_toArray, List.set_cons_zero, List.set_cons_succ]))
      (refine Ord.take (v := ?_) (Or.inl ⟨rfl, ?_⟩) ?_; rotate_left; (intro w hSw; (try dsimp only at hSw); go_simp; try (with_reducible rfl)); (try simp only [Act.put, List.setIfInBounds_toArray, List.set_cons_zero, List.set_cons_succ]))
      (refine Ord.take (v := ?_) (Or.inl ⟨rfl, ?_⟩) ?_; rotate_left; (intro w hSw; (try dsimp only at hSw); go_simp; try (with_reducible rfl)); (try simp only [Act.put, List.setIfInBounds_toArray, List.set_cons_zero, List.set_cons_succ]))
      (refine Ord.take (v := ?_) (Or.inl ⟨rfl, ?_⟩) ?_; rotate_left; (intro w hSw; (try dsimp only at hSw); go_simp; try (with_reducible rfl)); (try simp only [Act.put, List.setIfInBounds_toArray, List.set_cons_zero, List.set_cons_succ]))
      (refine Ord.take (v := ?_) (Or.inl ⟨rfl, ?_⟩) ?_; rotate_left; (intro w hSw; (try dsimp only at hSw); go_simp; try (with_reducible rfl)); (try simp only [Act.put, List.setIfInBounds_toArray, List.set_cons_zero, List.set_cons_succ]))
      (refine Ord.take (v := ?_) (Or.inl ⟨rfl, ?_⟩) ?_; rotate_left; (intro w hSw; (try dsimp only at hSw); go_simp; try (with_reducible rfl)); (try simp only [Act.put, List.setIfInBounds_toArray, List.set_cons_zero, List.set_cons_succ]))
      (refine Ord.take (v := ?_) (Or.inl ⟨rfl, ?_⟩) ?_; rotate_left; (intro w hSw; (try dsimp only at hSw); go_simp; try (with_reducible rfl)); (try simp only [Act.put, List.setIfInBounds_toArray, List.set_cons_zero, List.set_cons_succ]))
      (refine Ord.take (v := ?_) (Or.inl ⟨rfl, ?_⟩) ?_; rotate_left; (intro w hSw; (try dsimp only at hSw); go_simp; try (with_reducible rfl)); (try simp only [Act.put, List.setIfInBounds_toArray, List.set_cons_zero, List.set_cons_succ]))
      refine Ord.alone rfl (fun K hK => ?_)
      go_simp
      refine (small_any _ _ ia1).mono ?_
      rintro e w9 ⟨rfl, rfl⟩
      go_wp2_with fail
      refine hK.out _ _ (hS0) (fun _ => ?_)
      clear hK K
      (try simp only [Act.put, List.setIfInBounds_toArray, List.set_cons_zero, List.set_cons_succ])
      refine Ord.alone rfl (fun K hK => ?_)
      go_simp
      refine (small_any _ _ ia2).mono ?_
      rintro e w9 ⟨rfl, rfl⟩
      go_wp2_with fail
      refine hK.out _ _ (hS0) (fun _ => ?_)
      clear hK K
      (try simp only [Act.put, List.setIfInBounds_toArray, List.set_cons_zero, List.set_cons_succ])
      refine Ord.alone rfl (fun K hK => ?_)
      go_simp
      refine (small_any _ _ ia3).mono ?_
      rintro e w9 ⟨rfl, rfl⟩
      go_wp2_with fail
      refine hK.out _ _ (hS0) (fun _ => ?_)
      clear hK K
      (try simp only [Act.put, List.setIfInBounds_toArray, List.set_cons_zero, List.set_cons_succ])
      refine Ord.alone rfl (fun K hK => ?_)
      go_simp
      refine (room_Put w.heap.size (w.heap.size + 1) L R D _ a.right (few a.w) (few a.h) (few a.from_) wr.drew (by omega) hs1 (hR.drawn (Drawn.refl wr).drew)).mono ?_
      rintro e w3 ⟨rfl, ⟨v2, hr2⟩, hk2⟩
      have hb3 := hdb.trans (hk2.below _ (Nat.le_refl _) (by omega) hB.size)
      go_wp2_with fail
      refine hK.out _ _ (hSQ _ hb3) (fun _ => ?_)
      clear hK K
      (try simp only [Act.put, List.setIfInBounds_toArray, List.set_cons_zero, List.set_cons_succ])
      refine Ord.done (NoPanic.normal ?_)
      have hB3 := hB.trans hb3
      have hs3 : w.heap.size + 1 ≤ w3.heap.size := by have := hk2.size; simp at this; omega
      clear hk2 hS0 hSQ hR hB hs1 hdb hb3
      go_wp2_with fail
      go_roundg (l.length - (k + 1))
      case rel => exact ⟨k + 1, _, _, rfl, by omega, by omega, by go_num, by simp [hD], hr2, hs3, hB3⟩
      case measure => omega
end Go.Proofs.Ytkoanijiihnioaa
