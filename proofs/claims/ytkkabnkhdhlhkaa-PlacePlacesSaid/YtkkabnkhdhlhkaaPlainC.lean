/-
  The plain laws of BlockFills and BlockFits: frames of small styles.
-/
import Derived.Test.YtkkabnkhdhlhkaaBlockL
namespace Go.Proofs.Ytkkabnkhdhlhkaa
open Go.RowKit Num Mem Opn
set_option linter.unusedVariables false
namespace Num
/-- within a bound. -/
def Lim (n a : Int) : Prop := -n ≤ a ∧ a ≤ n
theorem add_lim {a b : Int} (ha : Lim 1099511627776 a) (hb : Lim 1099511627776 b) : add a b = a + b := by unfold add sat Lim at *; omega
theorem sub_lim {a b : Int} (ha : Lim 1099511627776 a) (hb : Lim 1099511627776 b) : sub a b = a - b := by unfold sub sat Lim at *; omega
theorem prt_lim {a n : Int} (ha : Lim 1073741824 a) : Lim 17179869184 (prt a n 6400) := by
  unfold prt
  have hc : clip 6400 1 65536 = 6400 := by decide
  have h0 := clip_lo n 0 65536 (by omega)
  have h1 := clip_hi n 0 65536
  have hs : sat a = a := by unfold sat Lim at *; omega
  rw [hc, hs]
  generalize clip n 0 65536 = c at *
  have hm : -70368744177664 ≤ a * c ∧ a * c ≤ 70368744177664 := by
    constructor
    · calc (-70368744177664 : Int) ≤ -1073741824 * c := by omega
        _ ≤ a * c := Int.mul_le_mul_of_nonneg_right ha.1 h0
    · calc a * c ≤ 1073741824 * c := Int.mul_le_mul_of_nonneg_right ha.2 h0
        _ ≤ 70368744177664 := by omega
  generalize a * c = m at *
  unfold sat Lim
  omega
theorem len_lim {k n room : Int} (hn : Lim 1073741824 n) (hr : Lim 1073741824 room) : Lim 17179869184 (len k n room) := by
  unfold len
  split
  · unfold Lim at *; omega
  · split
    · exact prt_lim hr
    · unfold Lim; omega
theorem len_auto (n room : Int) : len 0 n room = 0 := by unfold len; simp
theorem half_lim {a : Int} (h : 0 ≤ a) (h2 : a ≤ 70368744177664) : 0 ≤ prt a 1 2 ∧ prt a 1 2 ≤ a := by
  unfold prt
  rw [show clip 2 1 65536 = 2 by decide, show clip 1 0 65536 = 1 by decide]
  have hs : sat a = a := by unfold sat; omega
  rw [hs]
  unfold sat
  omega
theorem small30_mem {l : List Int} (h : small30 l = true) {x : Int} (hx : x ∈ l) : Lim 1073741824 x := by
  unfold small30 at h
  rw [List.all_eq_true] at h
  have := h x hx
  simpa [Lim] using this
theorem kinds_mem {l : List (Int × Int)} (h : kinds l = true) {x : Int × Int} (hx : x ∈ l) : 0 ≤ x.1 ∧ x.1 ≤ 2 := by
  unfold kinds at h
  rw [List.all_eq_true] at h
  simpa using h x hx
/-- a frame's sides, all small. -/
structure Fr.Lim (f : Fr) : Prop where
  ml : Num.Lim 17179869184 f.m.l
  mr : Num.Lim 17179869184 f.m.r
  pl : 0 ≤ f.p.l ∧ f.p.l ≤ 17179869184
  pr : 0 ≤ f.p.r ∧ f.p.r ≤ 17179869184
  bl : 0 ≤ f.b.l ∧ f.b.l ≤ 17179869184
  br : 0 ≤ f.b.r ∧ f.b.r ≤ 17179869184
theorem framed_lim {s : Sty} {room : Int} (hr : Lim 1073741824 room) (h : ∀ x ∈ s.nums, Lim 1073741824 x) : (s.framed room).Lim := by
  have l0 := len_lim (k := s.m3k) (h s.m3n (by simp [Sty.nums, Sty.twelve])) hr
  have l1 := len_lim (k := s.m1k) (h s.m1n (by simp [Sty.nums, Sty.twelve])) hr
  have l2 := len_lim (k := s.p3k) (h s.p3n (by simp [Sty.nums, Sty.twelve])) hr
  have l3 := len_lim (k := s.p1k) (h s.p1n (by simp [Sty.nums, Sty.twelve])) hr
  have l4 := h s.b3 (by simp [Sty.nums, Sty.twelve])
  have l5 := h s.b1 (by simp [Sty.nums, Sty.twelve])
  unfold Num.Lim at l0 l1 l2 l3 l4 l5
  refine ⟨?_, ?_, ?_, ?_, ?_, ?_⟩ <;> simp only [Sty.framed, Sty.margin, Sty.padding, Sty.border, Num.Lim] <;> omega
theorem across_lim {f : Fr} (h : f.Lim) : f.across = f.p.l + f.p.r + (f.b.l + f.b.r) := by
  obtain ⟨⟨a1, a2⟩, ⟨b1, b2⟩, ⟨c1, c2⟩, ⟨d1, d2⟩, ⟨e1, e2⟩, ⟨g1, g2⟩⟩ := h
  unfold Fr.across
  rw [add_lim (a := f.p.l) (b := f.p.r) (by unfold Lim; omega) (by unfold Lim; omega), add_lim (a := f.b.l) (b := f.b.r) (by unfold Lim; omega) (by unfold Lim; omega), add_lim (by unfold Lim; omega) (by unfold Lim; omega)]
theorem left_lim {f : Fr} {room : Int} (hr : Lim 1073741824 room) (h : f.Lim) : f.left room = room - (f.m.l + f.m.r) - (f.p.l + f.p.r + (f.b.l + f.b.r)) := by
  have ha := across_lim h
  obtain ⟨⟨a1, a2⟩, ⟨b1, b2⟩, ⟨c1, c2⟩, ⟨d1, d2⟩, ⟨e1, e2⟩, ⟨g1, g2⟩⟩ := h
  obtain ⟨r1, r2⟩ := hr
  unfold Fr.left
  rw [ha, add_lim (by unfold Lim; omega) (by unfold Lim; omega), sub_lim (a := room) (by unfold Lim; omega) (by unfold Lim; omega), sub_lim (by unfold Lim; omega) (by unfold Lim; omega)]
/-- what BlockFills asks. -/
theorem fills_law {s : Sty} {room : Int} (hs : small30 ([room] ++ s.nums) = true) (hk : kinds s.lens = true) :
    0 ≤ (s.solve room).w ∧ Lim 1099511627776 (s.solve room).m.l ∧ Lim 1099511627776 (s.solve room).m.r ∧ Lim 1099511627776 (s.solve room).across ∧ (s.solve room).w ≤ 1099511627776 ∧
    (s.wk = 0 → (s.solve room).w = 0 ∨ (s.solve room).m.l + (s.solve room).m.r + (s.solve room).across + (s.solve room).w = room) ∧
    (s.wk ≠ 0 → s.m3k = 0 ∨ s.m1k = 0 → room ≤ (s.solve room).m.l + (s.solve room).m.r + (s.solve room).across + (s.solve room).w) := by
  have hr : Lim 1073741824 room := small30_mem hs (by simp)
  have hn : ∀ x ∈ s.nums, Lim 1073741824 x := fun x hx => small30_mem hs (by simp [hx])
  have hw := kinds_mem hk (x := (s.wk, s.wn)) (by simp [Sty.lens])
  have hF := framed_lim hr hn
  have hL := left_lim hr hF
  have hA := across_lim hF
  have hW := len_lim (k := s.wk) (hn s.wn (by simp [Sty.nums])) hr
  have m3 : s.m3k = 0 → (s.framed room).m.l = 0 := by intro h; simp [Sty.framed, Sty.margin, h, len_auto]; decide
  have m1 : s.m1k = 0 → (s.framed room).m.r = 0 := by intro h; simp [Sty.framed, Sty.margin, h, len_auto]; decide
  obtain ⟨⟨a1, a2⟩, ⟨b1, b2⟩, ⟨c1, c2⟩, ⟨d1, d2⟩, ⟨e1, e2⟩, ⟨g1, g2⟩⟩ := hF
  obtain ⟨r1, r2⟩ := hr
  obtain ⟨w1, w2⟩ := hW
  have hfree : s.free room = max ((s.framed room).left room - s.wide room) 0 := by
    unfold Sty.free
    rw [hL, sub_lim (by unfold Lim; omega) (by unfold Sty.wide Lim; omega)]
  have hwide : s.wide room = max (len s.wk s.wn room) 0 := rfl
  have hacr : ∀ m w, (Fr.mk m (s.framed room).p (s.framed room).b w).across = (s.framed room).across := fun _ _ => rfl
  unfold Sty.solve
  by_cases hg : given s.wk = true
  · have hw0 : s.wk ≠ 0 := by rintro h; rw [h] at hg; simp [given] at hg
    rw [if_pos hg]
    have hf0 : 0 ≤ s.free room := by omega
    have hf1 : s.free room ≤ 274877906944 := by omega
    have hh := half_lim hf0 (by omega)
    have hsub : sub (s.free room) (prt (s.free room) 1 2) = s.free room - prt (s.free room) 1 2 := sub_lim (by unfold Lim; omega) (by unfold Lim; omega)
    by_cases h3 : s.m3k = 0
    · rw [if_pos h3]
      have m3' := m3 h3
      by_cases h1 : s.m1k = 0
      · rw [if_pos h1]
        have m1' := m1 h1
        dsimp only
        simp only [hacr, hsub]
        refine ⟨by omega, by unfold Lim; omega, by unfold Lim; omega, by unfold Lim; omega, by omega, fun h => absurd h hw0, fun _ _ => by omega⟩
      · rw [if_neg h1]
        dsimp only
        simp only [hacr]
        refine ⟨by omega, by unfold Lim; omega, by unfold Lim; omega, by unfold Lim; omega, by omega, fun h => absurd h hw0, fun _ _ => by omega⟩
    · rw [if_neg h3]
      by_cases h1 : s.m1k = 0
      · rw [if_pos h1]
        have m1' := m1 h1
        dsimp only
        simp only [hacr]
        refine ⟨by omega, by unfold Lim; omega, by unfold Lim; omega, by unfold Lim; omega, by omega, fun h => absurd h hw0, fun _ _ => by omega⟩
      · rw [if_neg h1]
        dsimp only
        simp only [hacr]
        refine ⟨by omega, by unfold Lim; omega, by unfold Lim; omega, by unfold Lim; omega, by omega, fun h => absurd h hw0, fun _ h => by omega⟩
  · have hw0 : s.wk = 0 := by
      simp [given] at hg
      omega
    rw [if_neg hg]
    dsimp only
    simp only [hacr]
    refine ⟨by omega, by unfold Lim; omega, by unfold Lim; omega, by unfold Lim; omega, by omega, fun _ => by omega, fun h => absurd hw0 h⟩
end Num
end Go.Proofs.Ytkkabnkhdhlhkaa
