/-
  Chapter 17's numbers: how far floats go, what a band leaves free.
-/
import Derived.Test.YtkoanijiihnioaaFloatA
namespace Go.Proofs.Ytkoanijiihnioaa
set_option linter.unusedVariables false
namespace Num
theorem add_fit {a b : Int} (h1 : -4000000000 ≤ a) (h2 : a ≤ 4000000000) (h3 : -4000000000 ≤ b) (h4 : b ≤ 4000000000) : add a b = a + b := by
  unfold add
  rw [show sat a = a from sat_id (by omega) (by omega), show sat b = b from sat_id (by omega) (by omega)]
  exact sat_id (by omega) (by omega)
theorem sub_fit {a b : Int} (h1 : -4000000000 ≤ a) (h2 : a ≤ 4000000000) (h3 : -4000000000 ≤ b) (h4 : b ≤ 4000000000) : sub a b = a - b := by
  unfold sub
  rw [show sat a = a from sat_id (by omega) (by omega), show sat b = b from sat_id (by omega) (by omega)]
  exact sat_id (by omega) (by omega)
theorem band_lo (y : Int) (D : List Fl) : ∀ a b, a ≤ (band y D a b).1 ∧ (band y D a b).1 ≤ (band y D a b).2 ∧ (band y D a b).2 ≤ max (band y D a b).1 b := by
  induction D with
  | nil => intro a b; simp only [band]; omega
  | cons f t ih =>
    intro a b
    simp only [band]
    split
    · exact ih a b
    · split
      · have := ih a (min b f.x); omega
      · have := ih (max a f.fin) b; omega
theorem band_clear (y : Int) {D : List Fl} {f : Fl} (hs : f.stands y = true) : ∀ a b, f ∈ D → (f.right = true → (band y D a b).2 ≤ max (band y D a b).1 f.x) ∧ (f.right = false → f.fin ≤ (band y D a b).1) := by
  induction D with
  | nil => intro a b h; simp at h
  | cons g t ih =>
    intro a b h
    rcases List.mem_cons.1 h with rfl | h
    · simp only [band, hs]
      rw [if_neg (by simp)]
      cases hr : f.right
      · have := band_lo y t (max a f.fin) b
        simp; omega
      · have := band_lo y t a (min b f.x)
        simp; omega
    · simp only [band]
      split
      · exact ih a b h
      · split
        · exact ih a _ h
        · exact ih _ b h
theorem band_none (y : Int) {D : List Fl} : ∀ a b, (∀ f ∈ D, f.stands y = false) → band y D a b = (a, max a b) := by
  induction D with
  | nil => intro a b _; rfl
  | cons f t ih =>
    intro a b h
    rw [band, if_pos (h f (by simp))]
    exact ih a b (fun g hg => h g (by simp [hg]))
theorem clear_from (which : Int) (l : List Fl) : ∀ y, y ≤ clear_ which l y := by
  induction l with
  | nil => intro y; exact Int.le_refl _
  | cons f t ih =>
    intro y
    rw [clear_]
    split
    · have := ih (max y f.bot); omega
    · exact ih y
theorem bot_clear {D : List Fl} {f : Fl} : ∀ y, f ∈ D → f.bot ≤ clear_ 3 D y := by
  induction D with
  | nil => intro y h; simp at h
  | cons g t ih =>
    intro y h
    rw [clear_, if_pos (.inl rfl)]
    rcases List.mem_cons.1 h with rfl | h
    · have := clear_from 3 t (max y f.bot); omega
    · exact ih _ h
theorem stands_none {D : List Fl} {y z : Int} (h : clear_ 3 D z ≤ y) : ∀ f ∈ D, f.stands y = false := by
  intro f hf
  have := bot_clear (D := D) z hf
  simp only [Fl.stands, Bool.and_eq_false_iff, decide_eq_false_iff_not]
  right
  omega
/-- how far a float goes. -/
structure Bd (m L : Int) (f : Fl) : Prop where
  w0 : 0 ≤ f.w
  w1 : f.w ≤ 16777215
  h0 : 0 ≤ f.h
  h1 : f.h ≤ 16777215
  y0 : -16777215 ≤ f.y
  y1 : f.y ≤ m
  x0 : L - 16777215 ≤ f.x
  x1 : f.x ≤ m
theorem Bd.fin {m L : Int} {f : Fl} (h : Bd m L f) (hL : -16777215 ≤ L) (hm : m ≤ 1073741824) : f.fin = f.x + f.w := by
  obtain ⟨h1, h2, h3, h4, h5, h6, h7, h8⟩ := h
  exact add_fit (by omega) (by omega) (by omega) (by omega)
theorem Bd.bot {m L : Int} {f : Fl} (h : Bd m L f) (hL : -16777215 ≤ L) (hm : m ≤ 1073741824) : f.bot = f.y + f.h := by
  obtain ⟨h1, h2, h3, h4, h5, h6, h7, h8⟩ := h
  exact add_fit (by omega) (by omega) (by omega) (by omega)
theorem Bd.more {m m' L : Int} {f : Fl} (h : Bd m L f) (hm : m ≤ m') : Bd m' L f := by
  obtain ⟨h1, h2, h3, h4, h5, h6, h7, h8⟩ := h
  exact ⟨h1, h2, h3, h4, h5, by omega, h7, by omega⟩
theorem band_hi (y : Int) {D : List Fl} {m L M : Int} (hL : -16777215 ≤ L) (hm : m ≤ 1073741824) (hM : m + 16777215 ≤ M) : ∀ a b, (∀ f ∈ D, Bd m L f) → a ≤ M → (band y D a b).1 ≤ M := by
  induction D with
  | nil => intro a b _ h; simpa [band] using h
  | cons f t ih =>
    intro a b h ha
    have hf := h f (by simp)
    have ht : ∀ g ∈ t, Bd m L g := fun g hg => h g (by simp [hg])
    simp only [band]
    split
    · exact ih a b ht ha
    · split
      · exact ih a _ ht ha
      · refine ih _ b ht ?_
        rw [hf.fin hL hm]
        have := hf.w1
        have := hf.x1
        omega
theorem fall_bd {D : List Fl} {m L w : Int} {l r : Int} (hL : -16777215 ≤ L) (hm : m ≤ 1073741824) (h : ∀ f ∈ D, Bd m L f) : ∀ k y, y ≤ fall D l r w k y ∧ fall D l r w k y ≤ max y (m + 16777215) := by
  intro k
  induction k with
  | zero => intro y; simp only [fall]; omega
  | succ k ih =>
    intro y
    simp only [fall]
    split
    · rename_i hc
      have h1 := ih (next y D 0 false).1
      have h2 := (later_next hc.2).1
      rcases next_met y D hc.2 with ⟨h3, _⟩ | ⟨f, hf, hs, he⟩
      · cases h3
      · have := h f hf
        have hb := this.bot hL hm
        have := this.y1
        have := (h f hf).h1
        omega
    · omega
theorem from_bd {D : List Fl} {m L y : Int} (h : ∀ f ∈ D, Bd m L f) (hy : -16777215 ≤ y) (hy2 : y ≤ 16777215) (hm : 16777215 ≤ m) : y ≤ from_ D y ∧ from_ D y ≤ m := by
  have hs : sat y = y := sat_id (by omega) (by omega)
  unfold from_
  rw [hs]
  split
  · omega
  · rename_i f hf
    have := (h f (List.mem_of_getLast? hf)).y1
    omega
theorem place_bd {D : List Fl} {m L R w hh y : Int} {s : Bool} (h : ∀ f ∈ D, Bd m L f) (hL : -16777215 ≤ L) (hLR : L ≤ R) (hR : R ≤ 33554432) (hm0 : 33554432 ≤ m) (hm : m ≤ 1000000000) (hw : w ≤ 16777215) (hh1 : hh ≤ 16777215) (hy : -16777215 ≤ y) (hy2 : y ≤ 16777215) :
    Bd (m + 16777216) L (place D L R s w hh y) ∧ y ≤ (place D L R s w hh y).y ∧ from_ D y ≤ (place D L R s w hh y).y := by
  have hf := from_bd h hy hy2 (by omega)
  have hfa := fall_bd (w := max w 0) (l := L) (r := R) hL (by omega) h (later D (from_ D y)) (from_ D y)
  simp only [place]
  generalize fall D L R (max w 0) (later D (from_ D y)) (from_ D y) = t at hfa
  have hb := band_lo t D L R
  have hi := band_hi t (M := m + 16777215) hL (by omega) (Int.le_refl _) L R h (by omega)
  generalize band t D L R = p at hb hi
  have hsub : sub p.2 (max w 0) = p.2 - max w 0 := sub_fit (by omega) (by omega) (by omega) (by omega)
  refine ⟨?_, by show y ≤ t; omega, by show from_ D y ≤ t; omega⟩
  refine ⟨by show 0 ≤ max w 0; omega, by show max w 0 ≤ _; omega, by show 0 ≤ max hh 0; omega, by show max hh 0 ≤ _; omega, by show _ ≤ t; omega, by show t ≤ _; omega, ?_, ?_⟩
  · show _ ≤ (if s = true then sub p.2 (max w 0) else p.1)
    rw [hsub]
    split <;> omega
  · show (if s = true then sub p.2 (max w 0) else p.1) ≤ _
    rw [hsub]
    split <;> omega
end Num
end Go.Proofs.Ytkoanijiihnioaa
