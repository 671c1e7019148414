/-
  Chapter 15's laws on lines, with no program in sight: more room makes no more lines; all in one; a word a line.
-/
import Derived.Test.YtebolanengnpfaaLinesA
namespace Go.Proofs.Ytebolanengnpfaa
namespace Num
theorem add_mono {a a' b b' : Int} (h : a ≤ a') (h' : b ≤ b') : add a b ≤ add a' b' := by unfold add sat; omega
theorem add_pos {a b : Int} (h : 0 ≤ a) (h' : 0 ≤ b) : 0 ≤ add a b := by unfold add sat; omega
theorem scan_mono {room room' : Int} (hr : room ≤ room') (s : List Pc) : ∀ {n n' : Int} {m m' : Bool}, n' ≤ n → (m' = true → m = true) → scan room s n m ≤ scan room' s n' m' := by
  induction s with
  | nil => intro n n' m m' h1 h2; simp [scan]
  | cons p t ih =>
    intro n n' m m' h1 h2
    have h3 := add_mono h1 (Int.le_refl p.width)
    simp only [scan]
    by_cases h : p.kind = 3
    · rw [if_pos h, if_pos h]; exact Nat.le_refl _
    · rw [if_neg h, if_neg h]
      by_cases hc : p.kind = 1 ∧ m = true ∧ room < add n p.width
      · rw [if_pos hc]; exact Nat.zero_le _
      · rw [if_neg hc]
        have hc' : ¬ (p.kind = 1 ∧ m' = true ∧ room' < add n' p.width) := by
          rintro ⟨x, y, z⟩
          exact hc ⟨x, h2 y, by omega⟩
        rw [if_neg hc']
        have := ih (n := add n p.width) (n' := add n' p.width) (m := m || p.kind == 1) (m' := m' || p.kind == 1) h3 (by
          intro hm
          rw [Bool.or_eq_true] at hm ⊢
          rcases hm with h | h
          · exact .inl (h2 h)
          · exact .inr h)
        omega
/-- no width is below 0. -/
def Wide0 (l : List Pc) : Prop := ∀ p ∈ l, 0 ≤ p.width
theorem thin_kind {p : Pc} (h : p.thin = true) : p.kind = 2 := by
  simp [Pc.thin] at h; exact h.1
theorem scan_lead {room room' : Int} (hr : room ≤ room') (s : List Pc) : ∀ {n : Int} {m : Bool}, 0 ≤ n → Wide0 s → scan room s n m ≤ lead s + scan room' (s.drop (lead s)) 0 false := by
  induction s with
  | nil => intro n m _ _; simp [scan]
  | cons p t ih =>
    intro n m hn hw
    by_cases hp : p.thin = true
    · have hk := thin_kind hp
      have hl : lead (p :: t) = lead t + 1 := by simp [lead, hp]
      rw [hl, List.drop_succ_cons]
      simp only [scan]
      rw [if_neg (by omega), if_neg (by omega)]
      have := ih (n := add n p.width) (m := m || p.kind == 1) (add_pos hn (hw p (by simp))) (fun q hq => hw q (by simp [hq]))
      omega
    · have hl : lead (p :: t) = 0 := by simp [lead, hp]
      rw [hl, Nat.zero_add, List.drop_zero]
      exact scan_mono hr _ hn (by simp)
theorem scan_drop {room room' : Int} (hr : room ≤ room') (s : List Pc) : ∀ {n : Int} {m : Bool} {d : Nat}, 0 ≤ n → Wide0 s → d < scan room s n m →
    scan room s n m ≤ d + (lead (s.drop d) + scan room' ((s.drop d).drop (lead (s.drop d))) 0 false) := by
  induction s with
  | nil => intro n m d _ _ h; simp [scan] at h
  | cons p t ih =>
    intro n m d hn hw h
    cases d with
    | zero =>
      have := scan_lead hr (p :: t) (m := m) hn hw
      simpa using this
    | succ d =>
      simp only [scan] at h ⊢
      by_cases h3 : p.kind = 3
      · rw [if_pos h3] at h; omega
      · rw [if_neg h3] at h ⊢
        by_cases hc : p.kind = 1 ∧ m = true ∧ room < add n p.width
        · rw [if_pos hc] at h; omega
        · rw [if_neg hc] at h ⊢
          have := ih (n := add n p.width) (m := m || p.kind == 1) (d := d) (add_pos hn (hw p (by simp))) (fun q hq => hw q (by simp [hq])) (by omega)
          rw [List.drop_succ_cons]
          omega
theorem Wide0.drop {l : List Pc} (h : Wide0 l) (n : Nat) : Wide0 (l.drop n) := fun p hp => h p (List.mem_of_mem_drop hp)
/-- inside of the leading spaces, the leading spaces end where they do. -/
theorem lead_drop (l : List Pc) : ∀ {d : Nat}, d ≤ lead l → d + lead (l.drop d) = lead l := by
  induction l with
  | nil => intro d h; simp [lead] at h ⊢; omega
  | cons p t ih =>
    intro d h
    cases d with
    | zero => simp
    | succ d =>
      by_cases hp : p.thin = true
      · have hl : lead (p :: t) = lead t + 1 := by simp [lead, hp]
        rw [hl] at h ⊢
        rw [List.drop_succ_cons]
        have := ih (d := d) (by omega)
        omega
      · have hl : lead (p :: t) = 0 := by simp [lead, hp]
        omega
/-- a line that begins later, in more room, ends no earlier. -/
theorem stop_mono {room room' : Int} (hr : room ≤ room') {l : List Pc} (hw : Wide0 l) {i i' : Nat} (h : i ≤ i') (h' : i' < stop room l i) : stop room l i ≤ stop room' l i' := by
  unfold stop at h' ⊢
  rcases Nat.lt_or_ge (i + lead (l.drop i)) i' with h1 | h1
  · obtain ⟨d, rfl⟩ : ∃ d, i' = i + lead (l.drop i) + d := ⟨i' - (i + lead (l.drop i)), by omega⟩
    have := scan_drop hr (l.drop (i + lead (l.drop i))) (n := 0) (m := false) (d := d) (Int.le_refl 0) (hw.drop _) (by omega)
    simp only [List.drop_drop] at this
    simp only [Nat.add_assoc] at this ⊢
    omega
  · obtain ⟨d, rfl⟩ : ∃ d, i' = i + d := ⟨i' - i, by omega⟩
    have := lead_drop (l.drop i) (d := d) (by omega)
    rw [List.drop_drop] at this
    have he : i + d + lead (l.drop (i + d)) = i + lead (l.drop i) := by omega
    rw [he]
    have := scan_mono hr (l.drop (i + lead (l.drop i))) (n := 0) (n' := 0) (m := false) (m' := false) (Int.le_refl 0) (fun h => h)
    omega
theorem brk_nil (room strut : Int) (l : List Pc) (f : Nat) {i : Nat} (h : l.length ≤ i) : brk room strut l f i = [] := by
  cases f with
  | zero => rfl
  | succ f => simp [brk]; omega
theorem brk_cons (room strut : Int) (l : List Pc) (f : Nat) {i : Nat} (h : i < l.length) : brk room strut l (f + 1) i = first room strut l i :: brk room strut l f (stop room l i) := by
  simp [brk, h]
theorem brk_fuel (room strut : Int) (l : List Pc) : ∀ {f f' i : Nat}, l.length ≤ f + i → l.length ≤ f' + i → brk room strut l f i = brk room strut l f' i := by
  intro f
  induction f with
  | zero => intro f' i h h'; rw [brk_nil _ _ _ _ (by omega), brk_nil _ _ _ _ (by omega)]
  | succ f ih =>
    intro f' i h h'
    rcases Nat.lt_or_ge i l.length with hi | hi
    · cases f' with
      | zero => omega
      | succ f' =>
        have := stop_gt room l hi
        rw [brk_cons _ _ _ _ hi, brk_cons _ _ _ _ hi, ih (f' := f') (by omega) (by omega)]
    · rw [brk_nil _ _ _ _ hi, brk_nil _ _ _ _ hi]
/-- more room makes no more lines. -/
theorem brk_mono {room room' : Int} (hr : room ≤ room') (strut : Int) {l : List Pc} (hw : Wide0 l) : ∀ {f f' i i' : Nat}, i ≤ i' → l.length ≤ f + i → l.length ≤ f' + i' → (brk room' strut l f' i').length ≤ (brk room strut l f i).length := by
  intro f
  induction f with
  | zero => intro f' i i' h h1 h2; rw [brk_nil _ _ _ f' (by omega)]; simp
  | succ f ih =>
    intro f' i i' h h1 h2
    rcases Nat.lt_or_ge i' l.length with hi | hi
    · cases f' with
      | zero => omega
      | succ f' =>
        have g1 := stop_gt room l (i := i) (by omega)
        have g2 := stop_gt room' l hi
        rw [brk_cons _ _ _ _ hi, brk_cons _ _ _ _ (show i < l.length by omega), List.length_cons, List.length_cons]
        have hs : stop room l i ≤ stop room' l i' := by
          rcases Nat.lt_or_ge i' (stop room l i) with g | g
          · exact stop_mono hr hw h g
          · omega
        have := ih (f' := f') (i := stop room l i) (i' := stop room' l i') hs (by omega) (by omega)
        omega
    · rw [brk_nil _ _ _ _ hi]; simp
/-- the lines of some pieces. -/
def lns (room strut : Int) (l : List Pc) : List Ln := brk room strut l l.length 0
theorem lns_mono {room room' : Int} (hr : room ≤ room') (strut : Int) {l : List Pc} (hw : Wide0 l) : (lns room' strut l).length ≤ (lns room strut l).length := brk_mono hr strut hw (Nat.le_refl 0) (by omega) (by omega)
theorem lns_length (room strut : Int) (l : List Pc) : (lns room strut l).length ≤ l.length := by
  have : ∀ f i, (brk room strut l f i).length ≤ f := by
    intro f
    induction f with
    | zero => intro i; simp [brk]
    | succ f ih => intro i; simp only [brk]; split
                   · have := ih (stop room l i); simp; omega
                   · simp
  exact this _ _
theorem lns_some (room strut : Int) {l : List Pc} (h : 0 < l.length) : ∃ r, lns room strut l = first room strut l 0 :: r := by
  unfold lns
  obtain ⟨f, hf⟩ : ∃ f, l.length = f + 1 := ⟨l.length - 1, by omega⟩
  rw [show brk room strut l l.length 0 = brk room strut l (f + 1) 0 by rw [hf]]
  exact ⟨_, brk_cons _ _ _ _ h⟩

-- all in one line
theorem add_small {a b : Int} (h1 : 0 ≤ a) (h2 : 0 ≤ b) (h3 : a + b ≤ 70368744177664) : add a b = a + b := by unfold add sat; omega
/-- widths below 2^24. -/
def Wide24 (l : List Pc) : Prop := ∀ p ∈ l, 0 ≤ p.width ∧ p.width < 16777216
theorem Wide24.wide0 {l : List Pc} (h : Wide24 l) : Wide0 l := fun p hp => (h p hp).1
theorem scan_all {room : Int} (s : List Pc) : ∀ {n : Int} {m : Bool}, 0 ≤ n → Wide24 s → (∀ p ∈ s, p.kind ≠ 3) → n + 16777216 * (s.length : Int) ≤ room → room ≤ 70368744177664 → scan room s n m = s.length := by
  induction s with
  | nil => intro n m _ _ _ _ _; simp [scan]
  | cons p t ih =>
    intro n m hn hw hk hr hr2
    have h1 := hw p (by simp)
    have h2 := hk p (by simp)
    simp only [List.length_cons, Int.natCast_add, Int.cast_ofNat_Int] at hr
    have ha : add n p.width = n + p.width := add_small hn h1.1 (by omega)
    simp only [scan]
    rw [if_neg h2, if_neg (by rw [ha]; omega), ha, ih (by omega) (fun q hq => hw q (by simp [hq])) (fun q hq => hk q (by simp [hq])) (by omega) hr2]
    simp
theorem scan_blank {room : Int} (s : List Pc) : ∀ {n : Int} {m : Bool}, (∀ p ∈ s, p.kind ≠ 3 ∧ p.kind ≠ 1) → scan room s n m = s.length := by
  induction s with
  | nil => intro n m _; simp [scan]
  | cons p t ih =>
    intro n m hk
    have h2 := hk p (by simp)
    simp only [scan]
    rw [if_neg h2.1, if_neg (by omega), ih (fun q hq => hk q (by simp [hq]))]
    simp
theorem stop_all {room : Int} {l : List Pc} {i : Nat} (hi : i ≤ l.length) (h : ∀ j, scan room (l.drop j) 0 false = (l.drop j).length) : stop room l i = l.length := by
  have := lead_le (l.drop i)
  unfold stop
  rw [h, List.length_drop]
  rw [List.length_drop] at this
  omega
theorem lns_one {room strut : Int} {l : List Pc} (h : 0 < l.length) (hs : stop room l 0 = l.length) : lns room strut l = [first room strut l 0] := by
  unfold lns
  obtain ⟨f, hf⟩ : ∃ f, l.length = f + 1 := ⟨l.length - 1, by omega⟩
  rw [show brk room strut l l.length 0 = brk room strut l (f + 1) 0 by rw [hf]]
  rw [brk_cons _ _ _ _ h, hs, brk_nil _ _ _ _ (Nat.le_refl _)]
/-- how many words there are. -/
def wc : List Pc → Nat
  | [] => 0
  | p :: t => (if p.kind = 1 then 1 else 0) + wc t
theorem wc_drop_le (s : List Pc) : ∀ n, wc (s.drop n) ≤ wc s := by
  induction s with
  | nil => intro n; simp
  | cons p t ih => intro n; cases n with
    | zero => simp
    | succ n => have := ih n; simp only [List.drop_succ_cons, wc]; omega
/-- pieces without breaks, whose words have widths. -/
def Plain (l : List Pc) : Prop := ∀ p ∈ l, p.kind ≠ 3 ∧ 0 ≤ p.width ∧ (p.kind = 1 → 1 ≤ p.width)
theorem Plain.drop {l : List Pc} (h : Plain l) (n : Nat) : Plain (l.drop n) := fun p hp => h p (List.mem_of_mem_drop hp)
theorem Plain.tail {p : Pc} {t : List Pc} (h : Plain (p :: t)) : Plain t := fun q hq => h q (by simp [hq])
theorem add_one {a b : Int} (h1 : 0 ≤ a) (h2 : 1 ≤ b) : 0 < add a b := by unfold add sat; omega
/-- behind a line that has a word, in no room: the next piece is a word, or there is none. -/
def Next (s : List Pc) : Prop := ∀ p t, s = p :: t → p.kind = 1
theorem scan_none (s : List Pc) : ∀ {n : Int}, 0 ≤ n → Plain s → wc (s.drop (scan 0 s n true)) = wc s ∧ Next (s.drop (scan 0 s n true)) := by
  induction s with
  | nil => intro n _ _; simp [scan, Next]
  | cons p t ih =>
    intro n hn hp
    obtain ⟨h1, h2, h3⟩ := hp p (by simp)
    simp only [scan]
    rw [if_neg h1]
    by_cases hk : p.kind = 1
    · rw [if_pos ⟨hk, trivial, add_one hn (h3 hk)⟩, List.drop_zero]
      exact ⟨rfl, fun q r e => by injection e with e _; rw [← e]; exact hk⟩
    · rw [if_neg (by omega), List.drop_succ_cons, Bool.true_or]
      have := ih (n := add n p.width) (add_pos hn h2) hp.tail
      simp only [wc, if_neg hk, Nat.zero_add]
      exact this
theorem scan_word (s : List Pc) : ∀ {n : Int}, 0 ≤ n → Plain s → wc (s.drop (scan 0 s n false)) = wc s - 1 ∧ Next (s.drop (scan 0 s n false)) := by
  induction s with
  | nil => intro n _ _; simp [scan, Next, wc]
  | cons p t ih =>
    intro n hn hp
    obtain ⟨h1, h2, h3⟩ := hp p (by simp)
    simp only [scan]
    rw [if_neg h1, if_neg (by simp), List.drop_succ_cons, Bool.false_or]
    by_cases hk : p.kind = 1
    · have := scan_none t (n := add n p.width) (add_pos hn h2) hp.tail
      simp only [wc, hk, beq_self_eq_true, if_true]
      rw [this.1]
      exact ⟨by omega, this.2⟩
    · have := ih (n := add n p.width) (add_pos hn h2) hp.tail
      have hb : (p.kind == 1) = false := by simpa using hk
      simp only [wc, if_neg hk, Nat.zero_add, hb]
      exact this
theorem wc_lead (s : List Pc) : wc (s.drop (lead s)) = wc s := by
  induction s with
  | nil => simp
  | cons p t ih =>
    by_cases hp : p.thin = true
    · have hk := thin_kind hp
      have hl : lead (p :: t) = lead t + 1 := by simp [lead, hp]
      rw [hl, List.drop_succ_cons, ih]
      simp [wc, hk]
    · have hl : lead (p :: t) = 0 := by simp [lead, hp]
      rw [hl, List.drop_zero]
theorem wc_next {s : List Pc} (h : Next s) (hs : s ≠ []) : 0 < wc s := by
  cases s with
  | nil => exact absurd rfl hs
  | cons p t => have := h p t rfl; simp only [wc, if_pos this]; omega
theorem stop_word {l : List Pc} (hp : Plain l) (i : Nat) : wc (l.drop (stop 0 l i)) = wc (l.drop i) - 1 ∧ Next (l.drop (stop 0 l i)) := by
  have h1 := wc_lead (l.drop i)
  have h2 := scan_word (l.drop (i + lead (l.drop i))) (n := 0) (Int.le_refl 0) (hp.drop _)
  rw [List.drop_drop] at h1 h2
  unfold stop
  rw [← h1]
  exact h2
/-- in no room each word has a line of its own. -/
theorem brk_words (strut : Int) {l : List Pc} (hp : Plain l) : ∀ {f i : Nat}, l.length ≤ f + i → 0 < wc (l.drop i) → (brk 0 strut l f i).length = wc (l.drop i) := by
  intro f
  induction f with
  | zero => intro i h h2; rw [List.drop_of_length_le (by omega)] at h2; simp [wc] at h2
  | succ f ih =>
    intro i h h2
    have hi : i < l.length := by
      rcases Nat.lt_or_ge i l.length with h3 | h3
      · exact h3
      · rw [List.drop_of_length_le h3] at h2; simp [wc] at h2
    have g := stop_gt 0 l hi
    obtain ⟨w1, w2⟩ := stop_word hp i
    rw [brk_cons _ _ _ _ hi, List.length_cons]
    rcases Nat.lt_or_ge (stop 0 l i) l.length with h3 | h3
    · have hne : l.drop (stop 0 l i) ≠ [] := by intro e; have := congrArg List.length e; simp at this; omega
      have := wc_next w2 hne
      rw [ih (by omega) this, w1]; omega
    · rw [brk_nil _ _ _ _ h3]
      rw [List.drop_of_length_le h3] at w1
      simp [wc] at w1 ⊢; omega
theorem lns_words (strut : Int) {l : List Pc} (hp : Plain l) (h : 0 < wc l) : (lns 0 strut l).length = wc l := by
  have := brk_words strut hp (f := l.length) (i := 0) (by omega) (by simpa using h)
  simpa [lns] using this
end Num
end Go.Proofs.Ytebolanengnpfaa
