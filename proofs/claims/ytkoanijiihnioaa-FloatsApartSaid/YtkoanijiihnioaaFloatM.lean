/-
  Chapter 17's numbers: floats lie apart, where none is wider than the room.
-/
import Derived.Test.YtkoanijiihnioaaFloatL
import Derived.Test.YtkoanijiihnioaaFloatB
namespace Go.Proofs.Ytkoanijiihnioaa
set_option linter.unusedVariables false
namespace Num
theorem next_unmet (y : Int) {D : List Fl} : ∀ {n : Int} {m : Bool}, (next y D n m).2 = false → m = false ∧ ∀ f ∈ D, f.stands y = false := by
  induction D with
  | nil => intro n m h; exact ⟨h, by simp⟩
  | cons f t ih =>
    intro n m h
    simp only [next] at h
    by_cases hc : f.stands y = true ∧ (m = false ∨ f.bot < n)
    · rw [if_pos hc] at h
      have := (ih h).1
      cases this
    · rw [if_neg hc] at h
      obtain ⟨h1, h2⟩ := ih h
      refine ⟨h1, fun g hg => ?_⟩
      rcases List.mem_cons.1 hg with rfl | hg
      · cases hs : g.stands y
        · rfl
        · exact absurd ⟨hs, .inl h1⟩ hc
      · exact h2 g hg
theorem fall_ends {D : List Fl} {l r w : Int} : ∀ k y, later D y ≤ k → ¬(sub (band (fall D l r w k y) D l r).2 (band (fall D l r w k y) D l r).1 < w ∧ (next (fall D l r w k y) D 0 false).2 = true) := by
  intro k
  induction k with
  | zero =>
    intro y h
    simp only [fall]
    rintro ⟨_, hm⟩
    have := later_next hm
    omega
  | succ k ih =>
    intro y h
    simp only [fall]
    by_cases hc : sub (band y D l r).2 (band y D l r).1 < w ∧ (next y D 0 false).2 = true
    · rw [if_pos hc]
      have := (later_next hc.2).2
      exact ih _ (by omega)
    · rw [if_neg hc]
      exact hc
theorem band_in (y : Int) {D : List Fl} {R : Int} : ∀ a b, (∀ f ∈ D, f.fin ≤ R) → a ≤ R → b ≤ R → (band y D a b).1 ≤ R ∧ (band y D a b).2 ≤ R := by
  induction D with
  | nil => intro a b _ h h'; simp only [band]; omega
  | cons f t ih =>
    intro a b h ha hb
    have hf := h f (by simp)
    have ht : ∀ g ∈ t, g.fin ≤ R := fun g hg => h g (by simp [hg])
    simp only [band]
    split
    · exact ih a b ht ha hb
    · split
      · exact ih a _ ht ha (by omega)
      · exact ih _ b ht (by omega) hb
/-- what is known of the floats of a room of which none is wider. -/
structure Inn (m L R : Int) (D : List Fl) : Prop where
  bd : ∀ f ∈ D, Bd m L f
  lo : ∀ f ∈ D, L ≤ f.x
  hi : ∀ f ∈ D, f.x + f.w ≤ R
  top : ∀ f ∈ D, ∀ y, f.y ≤ from_ D y
theorem meet_apart {a b : Rc} (ha : -2000000000 ≤ a.x ∧ a.x ≤ 2000000000 ∧ -2000000000 ≤ a.y ∧ a.y ≤ 2000000000 ∧ 0 ≤ a.w ∧ a.w ≤ 16777215 ∧ 0 ≤ a.h ∧ a.h ≤ 16777215)
    (hb : -2000000000 ≤ b.x ∧ b.x ≤ 2000000000 ∧ -2000000000 ≤ b.y ∧ b.y ≤ 2000000000 ∧ 0 ≤ b.w ∧ b.w ≤ 16777215 ∧ 0 ≤ b.h ∧ b.h ≤ 16777215)
    (h : a.w ≤ 0 ∨ a.h ≤ 0 ∨ b.w ≤ 0 ∨ b.h ≤ 0 ∨ a.x + a.w ≤ b.x ∨ b.x + b.w ≤ a.x ∨ a.y + a.h ≤ b.y ∨ b.y + b.h ≤ a.y) : meet a b = nought := by
  obtain ⟨a1, a2, a3, a4, a5, a6, a7, a8⟩ := ha
  obtain ⟨b1, b2, b3, b4, b5, b6, b7, b8⟩ := hb
  unfold meet
  split
  · rfl
  · rename_i hn
    rw [if_pos]
    unfold meetE
    rw [add_fit (a := a.x) (by omega) (by omega) (by omega) (by omega), add_fit (a := a.y) (by omega) (by omega) (by omega) (by omega), add_fit (a := b.x) (by omega) (by omega) (by omega) (by omega), add_fit (a := b.y) (by omega) (by omega) (by omega) (by omega),
      show sat a.x = a.x from sat_id (by omega) (by omega), show sat a.y = a.y from sat_id (by omega) (by omega), show sat b.x = b.x from sat_id (by omega) (by omega), show sat b.y = b.y from sat_id (by omega) (by omega)]
    simp only [emp, Bool.or_eq_true, decide_eq_true_eq, not_or] at hn ⊢
    simp only [ofEdges]
    rw [sub_fit (by omega) (by omega) (by omega) (by omega), sub_fit (by omega) (by omega) (by omega) (by omega)]
    omega
theorem place_in {D : List Fl} {m L R w hh y : Int} {s : Bool} (h : Inn m L R D) (hL : -16777215 ≤ L) (hLR : L ≤ R) (hR : R ≤ 33554432) (hm0 : 33554432 ≤ m) (hm : m ≤ 1000000000) (hw0 : 0 ≤ w) (hw : w ≤ R - L) (hwm : w ≤ 16777215) (hh1 : hh ≤ 16777215) (hy : -16777215 ≤ y) (hy2 : y ≤ 16777215) :
    Inn (m + 16777216) L R (D ++ [place D L R s w hh y]) ∧ (∀ f ∈ D, meet ⟨(place D L R s w hh y).x, (place D L R s w hh y).y, (place D L R s w hh y).w, (place D L R s w hh y).h⟩ ⟨f.x, f.y, f.w, f.h⟩ = nought) ∧
    (place D L R s w hh y).w = w ∧ L ≤ (place D L R s w hh y).x ∧ (place D L R s w hh y).x + w ≤ R ∧ y ≤ (place D L R s w hh y).y ∧ (∀ f ∈ D, f.y ≤ (place D L R s w hh y).y) := by
  obtain ⟨hbd, hlo, hhi, htop⟩ := h
  obtain ⟨p1, p2, p3⟩ := place_bd (s := s) (hh := hh) (y := y) (w := w) hbd hL hLR hR hm0 hm hwm hh1 hy hy2
  have hfin : ∀ f ∈ D, f.fin ≤ R := fun f hf => by rw [(hbd f hf).fin hL (by omega)]; exact hhi f hf
  obtain ⟨t, ht⟩ : ∃ t, fall D L R w (later D (from_ D y)) (from_ D y) = t := ⟨_, rfl⟩
  have hend := fall_ends (D := D) (l := L) (r := R) (w := w) _ (from_ D y) (Nat.le_refl _)
  rw [ht] at hend
  have hmw : max w 0 = w := by omega
  have hpe : place D L R s w hh y = ⟨s, if s = true then sub (band t D L R).2 w else (band t D L R).1, t, w, max hh 0⟩ := by
    simp only [place, hmw, ht]
  have hb := band_lo t D L R
  have hi := band_in t L R hfin hLR (Int.le_refl _)
  have hcl : ∀ f ∈ D, f.stands t = true → (f.right = true → (band t D L R).2 ≤ max (band t D L R).1 f.x) ∧ (f.right = false → f.fin ≤ (band t D L R).1) := fun f hf hs => band_clear t hs L R hf
  have hfit : w ≤ (band t D L R).2 - (band t D L R).1 := by
    by_cases h1 : sub (band t D L R).2 (band t D L R).1 < w
    · have h2 : (next t D 0 false).2 = false := by
        cases hx : (next t D 0 false).2
        · rfl
        · exact absurd ⟨h1, hx⟩ hend
      rw [band_none t L R (next_unmet t h2).2]
      show w ≤ max L R - L
      omega
    · rw [sub_fit (by omega) (by omega) (by omega) (by omega)] at h1
      omega
  have hsub : sub (band t D L R).2 w = (band t D L R).2 - w := sub_fit (by omega) (by omega) (by omega) (by omega)
  rw [hsub] at hpe
  generalize band t D L R = p at *
  obtain ⟨X, hX⟩ : ∃ X, (if s = true then p.2 - w else p.1) = X := ⟨_, rfl⟩
  have hX1 : p.1 ≤ X := by rw [← hX]; split <;> omega
  have hX2 : X + w ≤ p.2 := by rw [← hX]; split <;> omega
  rw [hX] at hpe
  rw [hpe] at p1 p2 p3 ⊢
  simp only at p2 p3
  have hy' : ∀ f ∈ D, f.y ≤ t := fun f hf => Int.le_trans (htop f hf y) p3
  refine ⟨⟨?_, ?_, ?_, ?_⟩, ?_, rfl, by show L ≤ X; omega, by show X + w ≤ R; omega, p2, hy'⟩
  · intro f hf
    rcases List.mem_append.1 hf with hf | hf
    · exact (hbd f hf).more (by omega)
    · obtain rfl : f = _ := by simpa using hf
      exact p1
  · intro f hf
    rcases List.mem_append.1 hf with hf | hf
    · exact hlo f hf
    · obtain rfl : f = _ := by simpa using hf
      show L ≤ X; omega
  · intro f hf
    rcases List.mem_append.1 hf with hf | hf
    · exact hhi f hf
    · obtain rfl : f = _ := by simpa using hf
      show X + w ≤ R; omega
  · intro f hf y'
    have he : from_ (D ++ [(⟨s, X, t, w, max hh 0⟩ : Fl)]) y' = max (sat y') t := by simp [from_]
    rw [he]
    rcases List.mem_append.1 hf with hf | hf
    · have := hy' f hf; omega
    · obtain rfl : f = _ := by simpa using hf
      show t ≤ _; omega
  · intro f hf
    have q := hbd f hf
    have q1 := p1
    obtain ⟨c1, c2, c3, c4, c5, c6, c7, c8⟩ := q
    obtain ⟨d1, d2, d3, d4, d5, d6, d7, d8⟩ := q1
    simp only at d1 d2 d3 d4 d5 d6 d7 d8
    refine meet_apart ⟨by show _ ≤ X; omega, by show X ≤ _; omega, by show _ ≤ t; omega, by show t ≤ _; omega, hw0, hwm, by show 0 ≤ max hh 0; omega, by show max hh 0 ≤ _; omega⟩ ⟨by show _ ≤ f.x; omega, by show f.x ≤ _; omega, by show _ ≤ f.y; omega, by show f.y ≤ _; omega, c1, c2, c3, c4⟩ ?_
    show w ≤ 0 ∨ max hh 0 ≤ 0 ∨ f.w ≤ 0 ∨ f.h ≤ 0 ∨ X + w ≤ f.x ∨ f.x + f.w ≤ X ∨ t + max hh 0 ≤ f.y ∨ f.y + f.h ≤ t
    have hfy := hy' f hf
    have hfin' := (hbd f hf).fin hL (by omega)
    have hbot' := (hbd f hf).bot hL (by omega)
    by_cases e1 : f.w ≤ 0
    · omega
    · by_cases e2 : f.h ≤ 0
      · omega
      · by_cases e3 : f.y + f.h ≤ t
        · omega
        · have hs : f.stands t = true := by
            simp only [Fl.stands, empR, hbot', Bool.and_eq_true, Bool.not_eq_true', Bool.or_eq_false_iff, decide_eq_false_iff_not, decide_eq_true_eq]
            omega
          have := hcl f hf hs
          cases hr : f.right
          · have := this.2 hr; omega
          · have := this.1 hr; omega
end Num
end Go.Proofs.Ytkoanijiihnioaa
