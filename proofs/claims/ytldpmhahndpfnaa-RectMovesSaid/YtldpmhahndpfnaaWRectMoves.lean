/-
  The walk of RectMoves, and its plain law.
-/
import Derived.Test.YtldpmhahndpfnaaRect3
import Derived.Test.YtldpmhahndpfnaaOpen
namespace Go.Proofs.Ytldpmhahndpfnaa
open Go.RowKit Num Mem Opn

theorem small_n (l : List Int) (n : Nat) (A : Option Addr) (c B : Nat) (w : World) (hn : l.length = n) (hl : n ≤ 1048576) (hA : Ints w B A l) :
    Calls Try.prog 14 #[.slice A n c] w fun e w' => e = .returned (.bool (smalls l)) ∧ w = w' := by
  subst hn
  exact law2_small l A c B w hl hA
/-- the box is as it was. -/
theorem one_box {w' : World} {g : Nat} {t : TypeId} {a0 a1 a2 a3 : Value} (ha : Blk w' g t #[a0, a1, a2, a3]) :
    Blk w' g t #[a0, a1, a2, a3] ∧ w'.cell? ⟨g, 0, none⟩ = some a0 ∧ w'.cell? ⟨g, 1, none⟩ = some a1 ∧ w'.cell? ⟨g, 2, none⟩ = some a2 ∧ w'.cell? ⟨g, 3, none⟩ = some a3 := ⟨ha, ha.four⟩
theorem smalls7 {a b c d e f g : Int} (h : smalls [a, b, c, d, e, f, g] = true) : (-1099511627776 ≤ a ∧ a ≤ 1099511627776) ∧ (-1099511627776 ≤ b ∧ b ≤ 1099511627776) ∧ (-1099511627776 ≤ c ∧ c ≤ 1099511627776) ∧ (-1099511627776 ≤ d ∧ d ≤ 1099511627776) ∧ (-1099511627776 ≤ e ∧ e ≤ 1099511627776) ∧ (-1099511627776 ≤ f ∧ f ≤ 1099511627776) ∧ (-1099511627776 ≤ g ∧ g ≤ 1099511627776) := by
  simp only [smalls, List.all_cons, List.all_nil, Bool.and_true, Bool.and_eq_true, decide_eq_true_eq] at h
  exact h

set_option maxHeartbeats 4000000 in
theorem walk_RectMoves (ax ay aw ah x y n : Int) (w : World) (_ : I64 ax) (_ : I64 ay) (_ : I64 aw) (_ : I64 ah) (_ : I64 x) (_ : I64 y) (_ : I64 n) :
    Calls Try.prog 3 #[.agg #[.int .i64 ax, .int .i64 ay, .int .i64 aw, .int .i64 ah], .int .i64 x, .int .i64 y, .int .i64 n] w fun e w' => e = .returned (.bool true) ∧ Below w.heap.size w w' := by
  have HB : Ints ((w.alloc (.cells #[.int .i64 ax, .int .i64 ay, .int .i64 aw, .int .i64 ah] 23)).alloc (.cells (ints [ax, ay, aw, ah, x, y, n]) 2)) (w.heap.size + 2) (some ⟨w.heap.size + 1, 0, none⟩) [ax, ay, aw, ah, x, y, n] :=
    Ints.ofBlk (Blk.newAt _ _ _ (by simp)) (by omega)
  cases hs : smalls [ax, ay, aw, ah, x, y, n]
  · have HS := hid hs
    clear hs
    go_enter Try.func3, Try.ntmps3
    go_wp2_with fail
    refine (small_n [ax, ay, aw, ah, x, y, n] 7 _ _ _ _ rfl (by omega) HB).mono ?_
    rw [HS.out]
    rintro e w1 ⟨rfl, rfl⟩
    go_wp2_with fail
    refine (known2 _).mono ?_
    rintro e w1 ⟨rfl, hb⟩
    go_wp2
    go_ret
    exact ⟨rfl, ((((Below.refl _ _).alloc (Nat.le_refl _) _).alloc (by simp) _).trans (hb.mono (by simp; omega)))⟩
  · obtain ⟨⟨a1, a2⟩, ⟨b1, b2⟩, ⟨c1, c2⟩, ⟨d1, d2⟩, ⟨e1, e2⟩, ⟨f1, f2⟩, ⟨g1, g2⟩⟩ := smalls7 hs
    have HS := hid hs
    clear hs
    by_cases hp : 0 ≤ aw ∧ 0 ≤ ah
    · obtain ⟨p1, p2⟩ := hp
      have M1 : Hid (add ax x = ax + x) := by show _ = _; unfold add sat; omega
      have M2 : Hid (add ay y = ay + y) := by show _ = _; unfold add sat; omega
      have M3 : Hid (sat aw = aw) := by show _ = _; unfold sat; omega
      have M4 : Hid (sat ah = ah) := by show _ = _; unfold sat; omega
      have M5 : Hid (add (ax + x) (-x) = ax) := by show _ = _; unfold add sat; omega
      have M6 : Hid (add (ay + y) (-y) = ay) := by show _ = _; unfold add sat; omega
      have X1 : Hid (IntKind.i64.wrap (-x) = -x) := IntWalk.i64_in _ (by omega)
      have X2 : Hid (IntKind.i64.wrap (-y) = -y) := IntWalk.i64_in _ (by omega)
      by_cases hq : 0 ≤ n ∧ n ≤ aw / 2 ∧ n ≤ ah / 2
      · obtain ⟨q1, q2, q3⟩ := hq
        have N1 : Hid (add ax n = ax + n) := by show _ = _; unfold add sat; omega
        have N2 : Hid (add ay n = ay + n) := by show _ = _; unfold add sat; omega
        have N3 : Hid (max (sub (sub aw n) n) 0 = aw - n - n) := by show _ = _; unfold sub sat; omega
        have N4 : Hid (max (sub (sub ah n) n) 0 = ah - n - n) := by show _ = _; unfold sub sat; omega
        have N5 : Hid (add (ax + n) (-n) = ax) := by show _ = _; unfold add sat; omega
        have N6 : Hid (add (ay + n) (-n) = ay) := by show _ = _; unfold add sat; omega
        have N7 : Hid (max (sub (sub (aw - n - n) (-n)) (-n)) 0 = aw) := by show _ = _; unfold sub sat; omega
        have X3 : Hid (IntKind.i64.wrap (-n) = -n) := IntWalk.i64_in _ (by omega)
        have N8 : Hid (max (sub (sub (ah - n - n) (-n)) (-n)) 0 = ah) := by show _ = _; unfold sub sat; omega
        go_enter Try.func3, Try.ntmps3
        go_wp2_with fail
        refine (small_n [ax, ay, aw, ah, x, y, n] 7 _ _ _ _ rfl (by omega) HB).mono ?_
        rw [HS.out]
        rintro e w1 ⟨rfl, rfl⟩
        go_wp2_with fail
        go_region_held3 (fun w' => Blk w' w.heap.size 23 #[.int .i64 ax, .int .i64 ay, .int .i64 aw, .int .i64 ah] ∧ w'.cell? ⟨w.heap.size, 0, none⟩ = some (.int .i64 ax) ∧ w'.cell? ⟨w.heap.size, 1, none⟩ = some (.int .i64 ay) ∧ w'.cell? ⟨w.heap.size, 2, none⟩ = some (.int .i64 aw) ∧ w'.cell? ⟨w.heap.size, 3, none⟩ = some (.int .i64 ah)) (refine one_box ?_ <;> (repeat (first | with_reducible assumption | (with_reducible refine Blk.drew ?_) | (with_reducible refine Blk.newAt _ _ _ ?_; simp; done) | (with_reducible refine Blk.alloc ?_ _))))
          (first | (go_at_call 16; refine (rect_Move _ _ _ _ _ _ _).mono ?_; rw [M1.out, M2.out, M3.out, M4.out]; rintro e w1 ⟨rfl, rfl⟩) | (go_at_call 16; refine (rect_Move _ _ _ _ _ _ _).mono ?_; rw [X1.out, X2.out, M5.out, M6.out, M3.out, M4.out]; rintro e w1 ⟨rfl, rfl⟩))
        go_wp2_with fail
        go_region_held3 (fun w' => Blk w' w.heap.size 23 #[.int .i64 ax, .int .i64 ay, .int .i64 aw, .int .i64 ah] ∧ w'.cell? ⟨w.heap.size, 0, none⟩ = some (.int .i64 ax) ∧ w'.cell? ⟨w.heap.size, 1, none⟩ = some (.int .i64 ay) ∧ w'.cell? ⟨w.heap.size, 2, none⟩ = some (.int .i64 aw) ∧ w'.cell? ⟨w.heap.size, 3, none⟩ = some (.int .i64 ah)) (first | (refine one_box (Blk.below ?_ hb ?_) <;> first | ((repeat (first | with_reducible assumption | (with_reducible refine Blk.drew ?_) | (with_reducible refine Blk.newAt _ _ _ ?_; simp; done) | (with_reducible refine Blk.alloc ?_ _))); done) | (simp; done) | (simp; omega)) | (refine one_box ?_ <;> (repeat (first | with_reducible assumption | (with_reducible refine Blk.drew ?_) | (with_reducible refine Blk.newAt _ _ _ ?_; simp; done) | (with_reducible refine Blk.alloc ?_ _)))))
          (first | (go_at_call 17; refine (rect_Inset _ _ _ _ _ _ _ _ _).mono ?_; rw [N1.out, N2.out, N3.out, N4.out]; rintro e w1 ⟨rfl, rfl⟩) | (go_at_call 17; refine (rect_Inset _ _ _ _ _ _ _ _ _).mono ?_; rw [X3.out, N5.out, N6.out, N7.out, N8.out]; rintro e w1 ⟨rfl, rfl⟩) | (go_at_call 15; refine (known2 _).mono ?_; rintro e w1 ⟨rfl, hb⟩))
        go_wp2
        go_ret
        exact ⟨rfl, Below.trans (by go_grown) (hb.mono (by simp; omega))⟩
      · have hc : n < 0 ∨ (0 ≤ n ∧ aw / 2 < n) ∨ (0 ≤ n ∧ n ≤ aw / 2 ∧ ah / 2 < n) := by omega
        clear hq
        rcases hc with h | ⟨h, h'⟩ | ⟨h, h', h''⟩
        all_goals
          go_enter Try.func3, Try.ntmps3
          go_wp2_with fail
          refine (small_n [ax, ay, aw, ah, x, y, n] 7 _ _ _ _ rfl (by omega) HB).mono ?_
          rw [HS.out]
          rintro e w1 ⟨rfl, rfl⟩
          go_wp2_with fail
          go_region_held3 (fun w' => Blk w' w.heap.size 23 #[.int .i64 ax, .int .i64 ay, .int .i64 aw, .int .i64 ah] ∧ w'.cell? ⟨w.heap.size, 0, none⟩ = some (.int .i64 ax) ∧ w'.cell? ⟨w.heap.size, 1, none⟩ = some (.int .i64 ay) ∧ w'.cell? ⟨w.heap.size, 2, none⟩ = some (.int .i64 aw) ∧ w'.cell? ⟨w.heap.size, 3, none⟩ = some (.int .i64 ah)) (refine one_box ?_ <;> (repeat (first | with_reducible assumption | (with_reducible refine Blk.drew ?_) | (with_reducible refine Blk.newAt _ _ _ ?_; simp; done) | (with_reducible refine Blk.alloc ?_ _))))
            (first | (go_at_call 16; refine (rect_Move _ _ _ _ _ _ _).mono ?_; rw [M1.out, M2.out, M3.out, M4.out]; rintro e w1 ⟨rfl, rfl⟩) | (go_at_call 16; refine (rect_Move _ _ _ _ _ _ _).mono ?_; rw [X1.out, X2.out, M5.out, M6.out, M3.out, M4.out]; rintro e w1 ⟨rfl, rfl⟩))
          go_wp2_with fail
          refine (known2 _).mono ?_
          rintro e w1 ⟨rfl, hb⟩
          go_wp2
          go_ret
          exact ⟨rfl, Below.trans (by go_grown) (hb.mono (by simp; omega))⟩
    · have hc : aw < 0 ∨ (0 ≤ aw ∧ ah < 0) := by omega
      clear hp
      rcases hc with h | ⟨h, h'⟩
      all_goals
        go_enter Try.func3, Try.ntmps3
        go_wp2_with fail
        refine (small_n [ax, ay, aw, ah, x, y, n] 7 _ _ _ _ rfl (by omega) HB).mono ?_
        rw [HS.out]
        rintro e w1 ⟨rfl, rfl⟩
        go_wp2_with fail
        refine (known2 _).mono ?_
        rintro e w1 ⟨rfl, hb⟩
        go_wp2
        go_ret
        exact ⟨rfl, Below.trans (by go_grown) (hb.mono (by simp; omega))⟩
end Go.Proofs.Ytldpmhahndpfnaa
