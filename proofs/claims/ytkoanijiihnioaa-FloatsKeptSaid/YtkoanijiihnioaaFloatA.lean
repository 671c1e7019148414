/-
  The numbers of chapter 17, with no program in sight: what Band, Next, Put and Clear compute.
-/
import Derived.Test.YtkoanijiihnioaaPlainA
namespace Go.Proofs.Ytkoanijiihnioaa
namespace Num
/-- something that floats. -/
structure Fl where
  right : Bool
  x : Int
  y : Int
  w : Int
  h : Int
deriving DecidableEq
def empR (w h : Int) : Bool := decide (w ≤ 0) || decide (h ≤ 0)
def Fl.bot (f : Fl) : Int := add f.y f.h
def Fl.fin (f : Fl) : Int := add f.x f.w
def Fl.stands (f : Fl) (y : Int) : Bool := !empR f.w f.h && decide (f.y ≤ y) && decide (y < f.bot)
/-- the room that is left at y, from (a, b) on. -/
def band (y : Int) : List Fl → Int → Int → Int × Int
  | [], a, b => (a, max a b)
  | f :: t, a, b => if f.stands y = false then band y t a b else if f.right = true then band y t a (min b f.x) else band y t (max a f.fin) b
/-- where the next one ends that stands at y. -/
def next (y : Int) : List Fl → Int → Bool → Int × Bool
  | [], n, m => (n, m)
  | f :: t, n, m => if f.stands y = true ∧ (m = false ∨ f.bot < n) then next y t f.bot true else next y t n m
/-- how many end below y. -/
def later (l : List Fl) (y : Int) : Nat := (l.filter fun f => decide (y < f.bot)).length
/-- how low something of width w is put, at y or below. -/
def fall (l : List Fl) (left right w : Int) : Nat → Int → Int
  | 0, y => y
  | k + 1, y => if sub (band y l left right).2 (band y l left right).1 < w ∧ (next y l 0 false).2 = true then fall l left right w k (next y l 0 false).1 else y
theorem next_met (y : Int) (l : List Fl) : ∀ {n : Int} {m : Bool}, (next y l n m).2 = true → (m = true ∧ (next y l n m).1 = n) ∨ ∃ f ∈ l, f.stands y = true ∧ (next y l n m).1 = f.bot := by
  induction l with
  | nil => intro n m h; exact .inl ⟨h, rfl⟩
  | cons f t ih =>
    intro n m h
    simp only [next] at h ⊢
    by_cases hc : f.stands y = true ∧ (m = false ∨ f.bot < n)
    · rw [if_pos hc] at h ⊢
      rcases ih h with ⟨_, h2⟩ | ⟨g, hg, hs, h2⟩
      · exact .inr ⟨f, by simp, hc.1, h2⟩
      · exact .inr ⟨g, by simp [hg], hs, h2⟩
    · rw [if_neg hc] at h ⊢
      rcases ih h with ⟨h1, h2⟩ | ⟨g, hg, hs, h2⟩
      · exact .inl ⟨h1, h2⟩
      · exact .inr ⟨g, by simp [hg], hs, h2⟩
theorem stands_bot {f : Fl} {y : Int} (h : f.stands y = true) : y < f.bot := by
  simp only [Fl.stands, Bool.and_eq_true, decide_eq_true_eq] at h
  exact h.2
theorem filter_le {l : List Fl} {p q : Fl → Bool} (h : ∀ f ∈ l, p f = true → q f = true) : (l.filter p).length ≤ (l.filter q).length := by
  induction l with
  | nil => simp
  | cons f t ih =>
    have := ih (fun g hg => h g (by simp [hg]))
    by_cases hp : p f = true
    · have hq := h f (by simp) hp
      simp [hp, hq]; omega
    · simp only [Bool.not_eq_true] at hp
      by_cases hq : q f = true
      · simp [hp, hq]; omega
      · simp only [Bool.not_eq_true] at hq
        simp [hp, hq]; omega
theorem filter_lt {l : List Fl} {p q : Fl → Bool} (h : ∀ f ∈ l, p f = true → q f = true) {g : Fl} (hg : g ∈ l) (h1 : p g = false) (h2 : q g = true) : (l.filter p).length < (l.filter q).length := by
  induction l with
  | nil => simp at hg
  | cons f t ih =>
    have hle := filter_le (l := t) (p := p) (q := q) (fun g hg => h g (by simp [hg]))
    rcases List.mem_cons.1 hg with rfl | hg
    · simp [h1, h2]; omega
    · have := ih (fun g hg => h g (by simp [hg])) hg
      by_cases hp : p f = true
      · have hq := h f (by simp) hp
        simp [hp, hq]; omega
      · simp only [Bool.not_eq_true] at hp
        by_cases hq : q f = true
        · simp [hp, hq]; omega
        · simp only [Bool.not_eq_true] at hq
          simp [hp, hq]; omega
/-- below the next end fewer end. -/
theorem later_next {l : List Fl} {y : Int} (h : (next y l 0 false).2 = true) : y < (next y l 0 false).1 ∧ later l (next y l 0 false).1 < later l y := by
  rcases next_met y l h with ⟨h1, _⟩ | ⟨f, hf, hs, he⟩
  · cases h1
  · have hb := stands_bot hs
    rw [he]
    refine ⟨hb, filter_lt (fun g _ hg => ?_) hf ?_ ?_⟩
    · simp only [decide_eq_true_eq] at hg ⊢; omega
    · simp
    · simpa using hb
/-- it does not matter how many rounds are allowed, where they suffice. -/
theorem fall_fuel {l : List Fl} {left right w : Int} : ∀ {k k' : Nat} {y : Int}, later l y ≤ k → later l y ≤ k' → fall l left right w k y = fall l left right w k' y := by
  intro k
  induction k with
  | zero =>
    intro k' y h h'
    cases k' with
    | zero => rfl
    | succ k' =>
      simp only [fall]
      rw [if_neg]
      rintro ⟨_, hm⟩
      have := later_next hm
      omega
  | succ k ih =>
    intro k' y h h'
    cases k' with
    | zero =>
      simp only [fall]
      rw [if_neg]
      rintro ⟨_, hm⟩
      have := later_next hm
      omega
    | succ k' =>
      simp only [fall]
      by_cases hc : sub (band y l left right).2 (band y l left right).1 < w ∧ (next y l 0 false).2 = true
      · rw [if_pos hc, if_pos hc]
        have := (later_next hc.2).2
        exact ih (by omega) (by omega)
      · rw [if_neg hc, if_neg hc]
theorem fall_step {l : List Fl} {left right w y : Int} : fall l left right w (later l y) y = if sub (band y l left right).2 (band y l left right).1 < w ∧ (next y l 0 false).2 = true then fall l left right w (later l (next y l 0 false).1) (next y l 0 false).1 else y := by
  by_cases hc : sub (band y l left right).2 (band y l left right).1 < w ∧ (next y l 0 false).2 = true
  · rw [if_pos hc]
    have h2 := (later_next hc.2).2
    obtain ⟨k, hk⟩ : ∃ k, later l y = k + 1 := ⟨later l y - 1, by omega⟩
    rw [hk]
    simp only [fall]
    rw [if_pos hc]
    exact fall_fuel (by omega) (Nat.le_refl _)
  · rw [if_neg hc]
    cases later l y with
    | zero => rfl
    | succ k => simp only [fall]; rw [if_neg hc]
/-- where the search begins. -/
def from_ (l : List Fl) (y : Int) : Int := match l.getLast? with | none => sat y | some f => max (sat y) f.y
/-- what is put. -/
def place (l : List Fl) (left right : Int) (side : Bool) (w h y : Int) : Fl :=
  let t := fall l left right (max w 0) (later l (from_ l y)) (from_ l y)
  ⟨side, if side = true then sub (band t l left right).2 (max w 0) else (band t l left right).1, t, max w 0, max h 0⟩
/-- below the floats of a side. -/
def clear_ (which : Int) : List Fl → Int → Int
  | [], y => y
  | f :: t, y => clear_ which t (if which = 3 ∨ (which = 1 ∧ f.right = false) ∨ (which = 2 ∧ f.right = true) then max y f.bot else y)
end Num
end Go.Proofs.Ytkoanijiihnioaa
