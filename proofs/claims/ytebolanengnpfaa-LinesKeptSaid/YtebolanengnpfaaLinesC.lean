/-
  Chapter 15's laws on lines, with no program in sight: where lines begin; what a line holds.
-/
import Derived.Test.YtebolanengnpfaaLinesB
namespace Go.Proofs.Ytebolanengnpfaa
namespace Num
/-- where line k begins. -/
def pos (room : Int) (l : List Pc) : Nat → Nat
  | 0 => 0
  | k + 1 => stop room l (pos room l k)
theorem pos_le (room : Int) (l : List Pc) (k : Nat) : pos room l k ≤ l.length := by
  induction k with
  | zero => exact Nat.zero_le _
  | succ k ih => exact stop_le room l ih
theorem stop_end (room : Int) (l : List Pc) : stop room l l.length = l.length := by
  unfold stop
  rw [List.drop_of_length_le (Nat.le_refl _)]
  simp [lead, scan]
theorem brk_get (room strut : Int) (l : List Pc) : ∀ {f k : Nat}, l.length ≤ f + pos room l k → ∀ j,
    (j < (brk room strut l f (pos room l k)).length → (brk room strut l f (pos room l k))[j]? = some (first room strut l (pos room l (k + j))) ∧ pos room l (k + j) < l.length) ∧
    pos room l (k + (brk room strut l f (pos room l k)).length) = l.length := by
  intro f
  induction f with
  | zero =>
    intro k h j
    have := pos_le room l k
    refine ⟨fun hj => by simp [brk] at hj, ?_⟩
    simp only [brk, List.length_nil, Nat.add_zero]; omega
  | succ f ih =>
    intro k h j
    have hp := pos_le room l k
    rcases Nat.lt_or_ge (pos room l k) l.length with h1 | h1
    · rw [brk_cons _ _ _ _ h1]
      have g := stop_gt room l h1
      have ih' := ih (k := k + 1) (by simp only [pos]; omega)
      constructor
      · intro hj
        cases j with
        | zero => exact ⟨rfl, h1⟩
        | succ j =>
          have := (ih' j).1 (by simpa [pos] using hj)
          rw [show k + 1 + j = k + (j + 1) by omega] at this
          simpa [pos] using this
      · have := (ih' 0).2
        rw [List.length_cons]
        simp only [pos] at this
        rw [show k + ((brk room strut l f (stop room l (pos room l k))).length + 1) = k + 1 + (brk room strut l f (stop room l (pos room l k))).length by omega]
        exact this
    · rw [brk_nil _ _ _ _ h1]
      exact ⟨fun hj => by simp at hj, by simp; omega⟩
theorem lns_get (room strut : Int) (l : List Pc) {k : Nat} (h : k < (lns room strut l).length) : (lns room strut l)[k]? = some (first room strut l (pos room l k)) ∧ pos room l k < l.length := by
  have := (brk_get room strut l (f := l.length) (k := 0) (by omega) k).1 h
  simpa [lns, pos] using this
theorem lns_end (room strut : Int) (l : List Pc) : pos room l (lns room strut l).length = l.length := by
  have := (brk_get room strut l (f := l.length) (k := 0) (by omega) 0).2
  simpa [lns, pos] using this

theorem cut_cons (l : List Pc) {i j : Nat} (h : i < j) (hj : j ≤ l.length) : ∃ p, l[i]? = some p ∧ cut l i j = p :: cut l (i + 1) j := by
  refine ⟨l[i], List.getElem?_eq_getElem (by omega), ?_⟩
  unfold cut
  rw [List.drop_eq_getElem_cons (by simp; omega)]
  simp
theorem cut_nil (l : List Pc) {i j : Nat} (h : j ≤ i) : cut l i j = [] := by
  unfold cut; rw [List.drop_of_length_le]; simp; omega
theorem cut_drop (l : List Pc) (i n : Nat) : cut l i (i + n) = (l.drop i).take n := by
  unfold cut
  rw [List.drop_take]
  congr 1; omega
/-- the sum of a line's widths from its first word on, as the statement reckons it; m: has there been a word? -/
def sumw : List Pc → Bool → Int → Int
  | [], _, n => n
  | p :: t, m, n => sumw t (m || p.kind == 1) (if (m || p.kind == 1) = true ∨ p.kind ≠ 2 then n + p.width else n)
theorem sumw_bd (s : List Pc) : ∀ {m : Bool} {n : Int}, Wide24 s → n ≤ sumw s m n ∧ sumw s m n ≤ n + 16777216 * s.length := by
  induction s with
  | nil => intro m n _; simp [sumw]
  | cons p t ih =>
    intro m n h
    have h1 := h p (by simp)
    have := ih (m := m || p.kind == 1) (n := if (m || p.kind == 1) = true ∨ p.kind ≠ 2 then n + p.width else n) (fun q hq => h q (by simp [hq]))
    simp only [sumw, List.length_cons, Int.natCast_add, Int.cast_ofNat_Int]
    split at this <;> rename_i hc
    · rw [if_pos hc]; omega
    · rw [if_neg hc]; omega
theorem Wide24.drop {l : List Pc} (h : Wide24 l) (n : Nat) : Wide24 (l.drop n) := fun p hp => h p (List.mem_of_mem_drop hp)
theorem Wide24.take {l : List Pc} (h : Wide24 l) (n : Nat) : Wide24 (l.take n) := fun p hp => h p (List.mem_of_mem_take hp)
theorem Wide24.cut {l : List Pc} (h : Wide24 l) (i j : Nat) : Wide24 (cut l i j) := (h.take j).drop i
/-- a break ends a line. -/
theorem scan_break {room : Int} (s : List Pc) : ∀ {n : Int} {m : Bool} {j : Nat} {p : Pc}, j < scan room s n m → s[j]? = some p → p.kind = 3 → j + 1 = scan room s n m := by
  induction s with
  | nil => intro n m j p h; simp [scan] at h
  | cons q t ih =>
    intro n m j p h hp hk
    simp only [scan] at h ⊢
    by_cases h3 : q.kind = 3
    · rw [if_pos h3] at h ⊢; omega
    · rw [if_neg h3] at h ⊢
      by_cases hc : q.kind = 1 ∧ m = true ∧ room < add n q.width
      · rw [if_pos hc] at h; omega
      · rw [if_neg hc] at h ⊢
        cases j with
        | zero => simp at hp; subst hp; exact absurd hk h3
        | succ j =>
          have := ih (j := j) (p := p) (n := add n q.width) (m := m || q.kind == 1) (by omega) (by simpa using hp) hk
          omega
theorem lead_thin (s : List Pc) : ∀ {j : Nat} {p : Pc}, j < lead s → s[j]? = some p → p.thin = true := by
  induction s with
  | nil => intro j p h; simp [lead] at h
  | cons q t ih =>
    intro j p h hp
    by_cases hq : q.thin = true
    · have hl : lead (q :: t) = lead t + 1 := by simp [lead, hq]
      cases j with
      | zero => simp at hp; subst hp; exact hq
      | succ j => exact ih (j := j) (by omega) (by simpa using hp)
    · have hl : lead (q :: t) = 0 := by simp [lead, hq]
      omega
theorem stop_break {room : Int} {l : List Pc} {i j : Nat} {p : Pc} (h : i ≤ j) (h' : j < stop room l i) (hp : l[j]? = some p) (hk : p.kind = 3) : j + 1 = stop room l i := by
  unfold stop at h' ⊢
  rcases Nat.lt_or_ge j (i + lead (l.drop i)) with h1 | h1
  · obtain ⟨d, rfl⟩ : ∃ d, j = i + d := ⟨j - i, by omega⟩
    have := lead_thin (l.drop i) (j := d) (p := p) (by omega) (by simpa using hp)
    have := thin_kind this
    omega
  · obtain ⟨d, rfl⟩ : ∃ d, j = i + lead (l.drop i) + d := ⟨j - (i + lead (l.drop i)), by omega⟩
    have := scan_break (room := room) (l.drop (i + lead (l.drop i))) (n := 0) (m := false) (j := d) (p := p) (by omega) (by simpa using hp) hk
    omega
/-- where a line stops short without a break, the next piece is a word for which there is no room. -/
theorem scan_stop {room : Int} (s : List Pc) : ∀ {n : Int} {q : Pc}, 0 ≤ n → Wide24 s → n + 16777216 * (s.length : Int) ≤ 70368744177664 → s[scan room s n true]? = some q →
    (∀ j p, j + 1 = scan room s n true → s[j]? = some p → p.kind ≠ 3) → q.kind = 1 ∧ room < sumw (s.take (scan room s n true)) true n + q.width := by
  induction s with
  | nil => intro n q _ _ _ h; simp at h
  | cons p t ih =>
    intro n q hn hw hb hq hk
    have h1 := hw p (by simp)
    simp only [List.length_cons, Int.natCast_add, Int.cast_ofNat_Int] at hb
    have ha : add n p.width = n + p.width := add_small hn h1.1 (by omega)
    rw [scan] at hq hk ⊢
    by_cases h3 : p.kind = 3
    · rw [if_pos h3] at hk; exact absurd h3 (hk 0 p rfl rfl)
    · rw [if_neg h3] at hq hk ⊢
      by_cases hc : p.kind = 1 ∧ true = true ∧ room < add n p.width
      · rw [if_pos hc] at hq ⊢
        simp at hq; subst hq
        refine ⟨hc.1, ?_⟩
        have := hc.2.2
        rw [ha] at this
        simpa [sumw] using this
      · rw [if_neg hc] at hq hk ⊢
        rw [Bool.true_or] at hq hk ⊢
        rw [ha] at hq hk ⊢
        have := ih (n := n + p.width) (q := q) (by omega) (fun x hx => hw x (by simp [hx])) (by omega) (by simpa using hq) (fun j x hj hx => hk (j + 1) x (by omega) (by simpa using hx))
        rw [List.take_succ_cons]
        simpa [sumw] using this
/-- the sum of the widths up to the last word. -/
def lw : List Pc → Int
  | [] => 0
  | p :: t => if 0 < wc t then p.width + lw t else if p.kind = 1 then p.width else 0
theorem scan_fits {room : Int} (s : List Pc) : ∀ {n : Int}, 0 ≤ n → Wide24 s → n + 16777216 * (s.length : Int) ≤ 70368744177664 → 0 < wc (s.take (scan room s n true)) → n + lw (s.take (scan room s n true)) ≤ room := by
  induction s with
  | nil => intro n _ _ _ h; simp [wc] at h
  | cons p t ih =>
    intro n hn hw hb h
    have h1 := hw p (by simp)
    simp only [List.length_cons, Int.natCast_add, Int.cast_ofNat_Int] at hb
    have ha : add n p.width = n + p.width := add_small hn h1.1 (by omega)
    rw [scan] at h ⊢
    by_cases h3 : p.kind = 3
    · rw [if_pos h3] at h; simp [wc, h3] at h
    · rw [if_neg h3] at h ⊢
      by_cases hc : p.kind = 1 ∧ true = true ∧ room < add n p.width
      · rw [if_pos hc] at h; simp [wc] at h
      · rw [if_neg hc] at h ⊢
        rw [Bool.true_or, ha] at h ⊢
        rw [List.take_succ_cons] at h ⊢
        simp only [wc] at h
        simp only [lw]
        by_cases hz : 0 < wc (t.take (scan room t (n + p.width) true))
        · rw [if_pos hz]
          have := ih (n := n + p.width) (by omega) (fun x hx => hw x (by simp [hx])) (by omega) hz
          omega
        · rw [if_neg hz]
          have hk : p.kind = 1 := by
            rcases Int.decEq p.kind 1 with hk | hk
            · rw [if_neg hk] at h; omega
            · exact hk
          rw [if_pos hk]
          have : ¬ room < add n p.width := fun hr => hc ⟨hk, rfl, hr⟩
          rw [ha] at this
          omega
/-- plain widths. -/
def sumP : List Pc → Int
  | [] => 0
  | p :: t => p.width + sumP t
theorem wides_sum (s : List Pc) : ∀ {n : Int}, 0 ≤ n → Wide24 s → n + 16777216 * (s.length : Int) ≤ 70368744177664 → wides n s = n + sumP s := by
  induction s with
  | nil => intro n _ _ _; simp [wides, sumP]
  | cons p t ih =>
    intro n hn hw hb
    have h1 := hw p (by simp)
    simp only [List.length_cons, Int.natCast_add, Int.cast_ofNat_Int] at hb
    have ha : add n p.width = n + p.width := add_small hn h1.1 (by omega)
    simp only [wides, sumP]
    rw [ha, ih (by omega) (fun x hx => hw x (by simp [hx])) (by omega)]
    omega
theorem wc_snoc (s : List Pc) (p : Pc) : wc (s ++ [p]) = wc s + if p.kind = 1 then 1 else 0 := by
  induction s with
  | nil => simp [wc]
  | cons q t ih => simp only [List.cons_append, wc, ih]; omega
theorem lw_snoc_thin (s : List Pc) {p : Pc} (h : p.kind ≠ 1) : lw (s ++ [p]) = lw s := by
  induction s with
  | nil => simp [lw, wc, h]
  | cons q t ih => simp only [List.cons_append, lw, wc_snoc, if_neg h, Nat.add_zero, ih]
theorem lw_snoc_word (s : List Pc) {p : Pc} (h : p.kind = 1) : lw (s ++ [p]) = sumP (s ++ [p]) := by
  induction s with
  | nil => simp [lw, wc, h, sumP]
  | cons q t ih =>
    simp only [List.cons_append, lw, sumP, wc_snoc, if_pos h, ih]
    rw [if_pos (by omega)]
theorem cut_snoc (l : List Pc) {i j : Nat} (h : i ≤ j) {p : Pc} (hp : l[j]? = some p) : cut l i (j + 1) = cut l i j ++ [p] := by
  have hj := (List.getElem?_eq_some_iff.1 hp).1
  unfold cut
  rw [List.take_add_one, hp]
  simp only [Option.toList_some]
  rw [List.drop_append_of_le_length (by simp; omega)]
/-- words and loose spaces alone. -/
theorem back_sum {l : List Pc} {a : Nat} : ∀ {b : Nat}, a ≤ b → b ≤ l.length → (∀ j p, a ≤ j → j < b → l[j]? = some p → p.kind = 1 ∨ p.thin = true) → 0 < wc (cut l a b) → sumP (cut l a (back l a b)) = lw (cut l a b) := by
  intro b
  induction b with
  | zero => intro h _ _ hw; rw [cut_nil l (by omega)] at hw; simp [wc] at hw
  | succ b ih =>
    intro h hb hk hw
    rcases Nat.lt_or_ge b a with h1 | h1
    · rw [cut_nil l (by omega)] at hw; simp [wc] at hw
    · have hp : l[b]? = some l[b] := List.getElem?_eq_getElem (by omega)
      have hg : l.getD b ⟨0, 0, 0, 0, false⟩ = l[b] := by simp [List.getD_eq_getElem?_getD, hp]
      rw [cut_snoc l h1 hp] at hw ⊢
      simp only [back, hg]
      by_cases ht : l[b].thin = true
      · have h2 := thin_kind ht
        rw [if_pos ⟨by omega, ht⟩]
        rw [wc_snoc, if_neg (by omega), Nat.add_zero] at hw
        rw [lw_snoc_thin _ (by omega)]
        exact ih h1 (by omega) (fun j p hj hj2 hp => hk j p hj (by omega) hp) hw
      · rw [if_neg (fun hc => ht hc.2)]
        rcases hk b l[b] h1 (by omega) hp with h3 | h3
        · rw [lw_snoc_word _ h3, cut_snoc l h1 hp]
        · exact absurd h3 ht
theorem lead_take (s : List Pc) : ∀ n, lead s ≤ n → lead (s.take n) = lead s := by
  induction s with
  | nil => intro n _; simp
  | cons p t ih =>
    intro n hn
    by_cases hp : p.thin = true
    · have hl : lead (p :: t) = lead t + 1 := by simp [lead, hp]
      cases n with
      | zero => omega
      | succ n =>
        rw [List.take_succ_cons]
        simp only [lead, if_pos hp]
        rw [ih n (by omega)]
    · have hl : lead (p :: t) = 0 := by simp [lead, hp]
      rw [hl]
      cases n with
      | zero => simp [lead]
      | succ n => rw [List.take_succ_cons]; simp [lead, hp]
theorem lead_head {s t : List Pc} {p : Pc} (h : s.drop (lead s) = p :: t) : p.thin = false := by
  induction s with
  | nil => simp at h
  | cons q r ih =>
    by_cases hq : q.thin = true
    · have hl : lead (q :: r) = lead r + 1 := by simp [lead, hq]
      rw [hl, List.drop_succ_cons] at h
      exact ih h
    · have hl : lead (q :: r) = 0 := by simp [lead, hq]
      rw [hl, List.drop_zero] at h
      injection h with h _
      rw [← h]; simpa using hq
/-- the leading spaces add nothing to the statement's sum. -/
theorem sumw_lead (s : List Pc) : ∀ {n : Nat} {m : Int}, lead s ≤ n → sumw (s.take n) false m = sumw ((s.drop (lead s)).take (n - lead s)) false m := by
  induction s with
  | nil => intro n m _; simp
  | cons p t ih =>
    intro n m hn
    by_cases hp : p.thin = true
    · have hk := thin_kind hp
      have hl : lead (p :: t) = lead t + 1 := by simp [lead, hp]
      cases n with
      | zero => omega
      | succ n =>
        rw [hl, List.drop_succ_cons, List.take_succ_cons, show n + 1 - (lead t + 1) = n - lead t by omega]
        simp only [sumw, hk]
        rw [← ih (n := n) (m := m) (by omega)]
        simp
    · have hl : lead (p :: t) = 0 := by simp [lead, hp]
      rw [hl]; simp
theorem wc_take_lead (s : List Pc) : ∀ {n : Nat}, lead s ≤ n → wc (s.take n) = wc ((s.drop (lead s)).take (n - lead s)) := by
  induction s with
  | nil => intro n _; simp
  | cons p t ih =>
    intro n hn
    by_cases hp : p.thin = true
    · have hk := thin_kind hp
      have hl : lead (p :: t) = lead t + 1 := by simp [lead, hp]
      cases n with
      | zero => omega
      | succ n =>
        rw [hl, List.drop_succ_cons, List.take_succ_cons, show n + 1 - (lead t + 1) = n - lead t by omega]
        simp only [wc, hk]
        rw [← ih (n := n) (by omega)]
        simp
    · have hl : lead (p :: t) = 0 := by simp [lead, hp]
      rw [hl]; simp
/-- pieces of the kinds that there are, none pre, their widths small. -/
structure Fine (l : List Pc) : Prop where
  kind : ∀ p ∈ l, p.kind = 1 ∨ p.kind = 2 ∨ p.kind = 3
  pre : ∀ p ∈ l, p.pre = false
  wide : Wide24 l
  few : l.length ≤ 80
theorem thin_of {p : Pc} (h1 : p.kind = 2) (h2 : p.pre = false) : p.thin = true := by simp [Pc.thin, h1, h2]
/-- the last piece of a line. -/
def lastK (l : List Pc) (j : Nat) : Int := (l.getD (j - 1) ⟨0, 0, 0, 0, false⟩).kind
theorem whole_next {room : Int} {l : List Pc} (F : Fine l) {i : Nat} (hi : i < l.length) {q : Pc} (hq : l[stop room l i]? = some q) (hk : lastK l (stop room l i) ≠ 3) :
    q.kind = 1 ∧ room < sumw (cut l i (stop room l i)) false 0 + q.width := by
  have hs : stop room l i = i + (lead (l.drop i) + scan room (l.drop (i + lead (l.drop i))) 0 false) := by unfold stop; omega
  have hg := stop_gt room l hi
  have hlt := (List.getElem?_eq_some_iff.1 hq).1
  obtain ⟨D, hD⟩ : ∃ D, l.drop i = D := ⟨_, rfl⟩
  have hD2 : l.drop (i + lead D) = D.drop (lead D) := by rw [← hD, List.drop_drop]
  have hsum : sumw (cut l i (stop room l i)) false 0 = sumw ((D.drop (lead D)).take (scan room (D.drop (lead D)) 0 false)) false 0 := by
    rw [hs, hD, hD2, cut_drop, hD, sumw_lead _ (by omega)]
    rw [show lead D + scan room (D.drop (lead D)) 0 false - lead D = scan room (D.drop (lead D)) 0 false by omega]
  rw [hsum]
  have hq2 : (D.drop (lead D))[scan room (D.drop (lead D)) 0 false]? = some q := by
    rw [hs, hD, hD2] at hq
    rw [List.getElem?_drop]
    rw [← hD, List.getElem?_drop, hD]
    exact hq
  have hlast : ∀ j p, j + 1 = scan room (D.drop (lead D)) 0 false → (D.drop (lead D))[j]? = some p → p.kind ≠ 3 := by
    intro j p hj hp
    have : l[stop room l i - 1]? = some p := by
      rw [hs, hD, hD2, ← hj, show i + (lead D + (j + 1)) - 1 = i + (lead D + j) by omega]
      rw [List.getElem?_drop, ← hD, List.getElem?_drop, hD] at hp
      exact hp
    unfold lastK at hk
    rw [List.getD_eq_getElem?_getD, this] at hk
    exact hk
  have hw : Wide24 (D.drop (lead D)) := by rw [← hD]; exact (F.wide.drop i).drop _
  have hlen : (D.drop (lead D)).length ≤ 80 := by
    have := F.few
    rw [← hD]; simp; omega
  have hkin : ∀ p ∈ D.drop (lead D), p.kind = 1 ∨ p.kind = 2 ∨ p.kind = 3 := by
    intro p hp; rw [← hD] at hp; exact F.kind p (List.mem_of_mem_drop (List.mem_of_mem_drop hp))
  have hpre : ∀ p ∈ D.drop (lead D), p.pre = false := by
    intro p hp; rw [← hD] at hp; exact F.pre p (List.mem_of_mem_drop (List.mem_of_mem_drop hp))
  rcases hE : D.drop (lead D) with _ | ⟨p, t⟩
  · rw [hE] at hq2; simp at hq2
  · have hth := lead_head hE
    rw [hE] at hq2 hlast hw hlen hkin hpre
    have h1 := hw p (by simp)
    have hp3 : p.kind ≠ 3 := by
      intro h3
      have hS : scan room (p :: t) 0 false = 1 := by simp [scan, h3]
      exact hlast 0 p (by rw [hS]) rfl h3
    have hp1 : p.kind = 1 := by
      rcases hkin p (by simp) with h | h | h
      · exact h
      · rw [thin_of h (hpre p (by simp))] at hth; cases hth
      · exact absurd h hp3
    have hS : scan room (p :: t) 0 false = scan room t p.width true + 1 := by
      have h0 : add 0 p.width = p.width := by have := add_small (Int.le_refl 0) h1.1 (by omega); rw [this]; omega
      simp [scan, hp1, h0]
    rw [hS] at hq2 hlast ⊢
    have := scan_stop t (room := room) (n := p.width) (q := q) h1.1 (fun x hx => hw x (by simp [hx])) (by simp at hlen; omega) (by simpa using hq2) (fun j x hj hx => hlast (j + 1) x (by omega) (by simpa using hx))
    rw [List.take_succ_cons]
    simpa [sumw, hp1] using this
theorem whole_fits {room strut : Int} {l : List Pc} (F : Fine l) {i : Nat} (hi : i < l.length) (hk : lastK l (stop room l i) ≠ 3) (hw2 : 2 ≤ wc (cut l i (stop room l i))) :
    (first room strut l i).width ≤ room := by
  have hs : stop room l i = i + (lead (l.drop i) + scan room (l.drop (i + lead (l.drop i))) 0 false) := by unfold stop; omega
  have hg := stop_gt room l hi
  have hle := stop_le room l (Nat.le_of_lt hi)
  have hnb : ∀ j p, i ≤ j → j < stop room l i → l[j]? = some p → p.kind ≠ 3 := by
    intro j p h1 h2 hp h3
    have := stop_break h1 h2 hp h3
    unfold lastK at hk
    rw [← this, Nat.add_sub_cancel, List.getD_eq_getElem?_getD, hp] at hk
    exact hk h3
  obtain ⟨D, hD⟩ : ∃ D, l.drop i = D := ⟨_, rfl⟩
  have hD2 : l.drop (i + lead D) = D.drop (lead D) := by rw [← hD, List.drop_drop]
  have hA : wideA l i (stop room l i) = i + lead D := by
    unfold wideA
    rw [hs, cut_drop, hD, hD2, lead_take _ _ (by omega)]
  have hT : stop room l i = i + lead D + scan room (D.drop (lead D)) 0 false := by rw [hs, hD, hD2]; omega
  have hcut : cut l (i + lead D) (stop room l i) = (D.drop (lead D)).take (scan room (D.drop (lead D)) 0 false) := by
    rw [hT, cut_drop, hD2]
  have hwc : wc (cut l i (stop room l i)) = wc ((D.drop (lead D)).take (scan room (D.drop (lead D)) 0 false)) := by
    rw [hs, cut_drop, hD, hD2, wc_take_lead _ (by omega)]
    rw [show lead D + scan room (D.drop (lead D)) 0 false - lead D = scan room (D.drop (lead D)) 0 false by omega]
  have hB : wideB l i (stop room l i) = back l (i + lead D) (stop room l i) := by
    unfold wideB
    rw [hA, if_neg (fun hc => hk hc.2)]
  have hw : Wide24 (D.drop (lead D)) := by rw [← hD]; exact (F.wide.drop i).drop _
  have hlen : (D.drop (lead D)).length ≤ 80 := by
    have := F.few
    rw [← hD]; simp; omega
  have hsum : sumP (cut l (i + lead D) (back l (i + lead D) (stop room l i))) = lw (cut l (i + lead D) (stop room l i)) := by
    apply back_sum (by omega) hle
    · intro j p h1 h2 hp
      have h3 := hnb j p (by omega) h2 hp
      rcases F.kind p (List.mem_of_getElem? hp) with h | h | h
      · exact .inl h
      · exact .inr (thin_of h (F.pre p (List.mem_of_getElem? hp)))
      · exact absurd h h3
    · rw [hcut, ← hwc]; omega
  have hww : wides 0 (cut l (i + lead D) (back l (i + lead D) (stop room l i))) = sumP (cut l (i + lead D) (back l (i + lead D) (stop room l i))) := by
    have hl : (cut l (i + lead D) (back l (i + lead D) (stop room l i))).length ≤ 80 := by
      have := F.few
      unfold cut; simp; omega
    rw [wides_sum _ (Int.le_refl 0) (F.wide.cut _ _) (by omega)]; omega
  show wides 0 (cut l (wideA l i (stop room l i)) (wideB l i (stop room l i))) ≤ room
  rw [hB, hA, hww, hsum, hcut]
  rw [hwc] at hw2
  rcases hE : D.drop (lead D) with _ | ⟨p, t⟩
  · rw [hE] at hw2; simp [wc] at hw2
  · have hth := lead_head hE
    have hmem : p ∈ D.drop (lead D) := by rw [hE]; simp
    have hmem2 : p ∈ l := by rw [← hD] at hmem; exact List.mem_of_mem_drop (List.mem_of_mem_drop hmem)
    rw [hE] at hw2 hw hlen
    have h1 := hw p (by simp)
    have hp3 : p.kind ≠ 3 := by
      intro h3
      rw [show scan room (p :: t) 0 false = 1 by simp [scan, h3]] at hw2
      simp [wc, h3] at hw2
    have hp1 : p.kind = 1 := by
      rcases F.kind p hmem2 with h | h | h
      · exact h
      · rw [thin_of h (F.pre p hmem2)] at hth; cases hth
      · exact absurd h hp3
    have hS : scan room (p :: t) 0 false = scan room t p.width true + 1 := by
      have h0 : add 0 p.width = p.width := by have := add_small (Int.le_refl 0) h1.1 (by omega); rw [this]; omega
      simp [scan, hp1, h0]
    rw [hS, List.take_succ_cons] at hw2 ⊢
    simp only [wc, if_pos hp1] at hw2
    simp only [lw]
    rw [if_pos (by omega)]
    exact scan_fits t h1.1 (fun x hx => hw x (by simp [hx])) (by simp at hlen; omega) (by omega)
end Num
end Go.Proofs.Ytebolanengnpfaa
