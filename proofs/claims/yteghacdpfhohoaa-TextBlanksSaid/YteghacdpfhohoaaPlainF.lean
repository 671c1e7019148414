/-
  A row that gives way, with no program in sight: what flex.Sizes computes.
-/
import Derived.Test.YteghacdpfhohoaaFlexA
import Derived.Test.YteghacdpfhohoaaPlainM
namespace Go.Proofs.Yteghacdpfhohoaa
namespace Num
def it0 : It := ⟨0, 0, 0, 0⟩
def base0 (x : It) : Int := max (sat x.base) 0
def ob (l : List It) (i : Nat) : Int := base0 (l.getD i it0)
def og (l : List It) (i : Nat) : Int := (l.getD i it0).grow
def outs (l : List It) : List Int := upto (ob l) l.length l.length
def grws (l : List It) : List Int := upto (og l) l.length l.length
/-- what is left of the room when the first k have theirs. -/
def frees (room : Int) (l : List It) : Nat → Int
  | 0 => room
  | k + 1 => sub (sub (frees room l k) (ob l k)) (l.getD k it0).outer
/-- the weights by which those that are not frozen give way. -/
def wf (fz : List Bool) (l : List It) (i : Nat) : Int := if fz.getD i false then 0 else (l.getD i it0).shrink
def wts (fz : List Bool) (l : List It) : List Int := upto (wf fz l) l.length l.length
def anyS (fz : List Bool) (l : List It) : Nat → Bool
  | 0 => false
  | k + 1 => anyS fz l k || decide (0 < wf fz l k)
structure St where
  out : List Int
  fz : List Bool
  owed : Int
  over : Bool
/-- whoever would fall below 0 is frozen at 0. -/
def pas (parts : List Int) (s : St) : Nat → St
  | 0 => ⟨s.out, s.fz, s.owed, false⟩
  | k + 1 => if (pas parts s k).fz.getD k false = false ∧ (pas parts s k).out.getD k 0 < parts.getD k 0 then
      ⟨(pas parts s k).out.set k 0, (pas parts s k).fz.set k true, (pas parts s k).owed - (pas parts s k).out.getD k 0, true⟩
    else pas parts s k
def subs (parts : List Int) (fz : List Bool) (out : List Int) : Nat → List Int
  | 0 => out
  | k + 1 => if fz.getD k false then subs parts fz out k else (subs parts fz out k).set k ((subs parts fz out k).getD k 0 - parts.getD k 0)
def shr : Nat → List It → List Int → List Bool → Int → List Int
  | 0, _, out, _, _ => out
  | n + 1, l, out, fz, owed =>
    if owed ≤ 0 then out
    else if anyS fz l l.length = false then out
    else if (pas (share owed (wts fz l)) ⟨out, fz, owed, false⟩ l.length).over then
      shr n l (pas (share owed (wts fz l)) ⟨out, fz, owed, false⟩ l.length).out (pas (share owed (wts fz l)) ⟨out, fz, owed, false⟩ l.length).fz (pas (share owed (wts fz l)) ⟨out, fz, owed, false⟩ l.length).owed
    else subs (share owed (wts fz l)) fz (pas (share owed (wts fz l)) ⟨out, fz, owed, false⟩ l.length).out l.length
/-- how many are not frozen. -/
def loose : List Bool → Nat
  | [] => 0
  | f :: r => (if f then 0 else 1) + loose r
def sizes (room : Int) (l : List It) : List Int :=
  if 0 < frees room l l.length then zadd (outs l) (share (frees room l l.length) (grws l))
  else if frees room l l.length < 0 then shr (l.length + 1) l (outs l) (List.replicate l.length false) (-frees room l l.length)
  else outs l
theorem outs_length (l : List It) : (outs l).length = l.length := upto_length _ _ _
theorem grws_length (l : List It) : (grws l).length = l.length := upto_length _ _ _
theorem wts_length (fz : List Bool) (l : List It) : (wts fz l).length = l.length := upto_length _ _ _
theorem outs_get {l : List It} {i : Nat} (hi : i < l.length) : (outs l).getD i 0 = base0 (l.getD i it0) := upto_get _ hi
theorem wts_get {fz : List Bool} {l : List It} {i : Nat} (hi : i < l.length) : (wts fz l).getD i 0 = wf fz l i := upto_get _ hi
theorem base0_lo (x : It) : 0 ≤ base0 x := by unfold base0; omega
theorem base0_hi (x : It) : base0 x ≤ 70368744177664 := by have := sat_hi x.base; unfold base0; omega
theorem frees_bd (room : Int) (l : List It) {k : Nat} (hk : 0 < k) : -70368744177664 ≤ frees room l k ∧ frees room l k ≤ 70368744177664 := by
  obtain ⟨j, rfl⟩ : ∃ j, k = j + 1 := ⟨k - 1, by omega⟩
  exact ⟨sub_lo _ _, sub_hi _ _⟩
theorem loose_length (r : List Bool) : loose r ≤ r.length := by
  induction r with
  | nil => simp [loose]
  | cons f r ih => simp only [loose, List.length_cons]; split <;> omega
theorem loose_none (n : Nat) : loose (List.replicate n false) = n := by
  induction n with
  | zero => rfl
  | succ n ih => rw [List.replicate_succ, loose, ih]; simp; omega
theorem loose_set {r : List Bool} {i : Nat} (hi : i < r.length) (h : r.getD i false = false) : loose (r.set i true) + 1 = loose r := by
  induction r generalizing i with
  | nil => simp at hi
  | cons f r ih =>
    cases i with
    | zero =>
      have : f = false := by simpa using h
      subst this
      simp [loose]; omega
    | succ i =>
      have := ih (i := i) (by simpa using hi) (by simpa using h)
      simp only [List.set_cons_succ, loose]; omega
theorem getB_set {x : List Bool} {p i : Nat} {v : Bool} : (x.set p v).getD i false = if p = i ∧ i < x.length then v else x.getD i false := by
  simp only [List.getD_eq_getElem?_getD, List.getElem?_set]
  by_cases h : p = i
  · subst h
    by_cases h2 : p < x.length
    · simp [h2]
    · simp [h2]
  · simp [h]
/-- the lengths stay. -/
theorem pas_length (parts : List Int) (s : St) (k : Nat) : (pas parts s k).out.length = s.out.length ∧ (pas parts s k).fz.length = s.fz.length := by
  induction k with
  | zero => exact ⟨rfl, rfl⟩
  | succ k ih =>
    simp only [pas]
    split
    · simpa using ih
    · exact ih
/-- behind place k nothing has turned. -/
theorem pas_rest (parts : List Int) (s : St) {k i : Nat} (h : k ≤ i) : (pas parts s k).out.getD i 0 = s.out.getD i 0 ∧ (pas parts s k).fz.getD i false = s.fz.getD i false := by
  induction k with
  | zero => exact ⟨rfl, rfl⟩
  | succ k ih =>
    have := ih (by omega)
    simp only [pas]
    split
    · rw [getD_set, getB_set, if_neg (by omega), if_neg (by omega)]
      exact this
    · exact this
/-- those that are over are fewer loose ones. -/
theorem pas_loose (parts : List Int) (s : St) (k : Nat) (hk : k ≤ s.fz.length) : loose (pas parts s k).fz ≤ loose s.fz ∧ ((pas parts s k).over = true → loose (pas parts s k).fz < loose s.fz) := by
  induction k with
  | zero => exact ⟨Nat.le_refl _, fun h => by cases h⟩
  | succ k ih =>
    have ih := ih (by omega)
    simp only [pas]
    split
    · rename_i hc
      have hl := (pas_length parts s k).2
      have := loose_set (r := (pas parts s k).fz) (i := k) (by omega) hc.1
      exact ⟨by simp only; omega, fun _ => by simp only; omega⟩
    · exact ih
theorem pas_none (parts : List Int) (s : St) (k : Nat) (h : (pas parts s k).over = false) : (pas parts s k).out = s.out ∧ (pas parts s k).fz = s.fz ∧ (pas parts s k).owed = s.owed := by
  induction k with
  | zero => exact ⟨rfl, rfl, rfl⟩
  | succ k ih =>
    simp only [pas] at h ⊢
    split
    · rename_i hc; rw [if_pos hc] at h; cases h
    · rename_i hc; rw [if_neg hc] at h; exact ih h
/-- all sizes lie from 0 to m. -/
def Sz (m : Int) (x : List Int) : Prop := ∀ i, 0 ≤ x.getD i 0 ∧ x.getD i 0 ≤ m
theorem sz_set {m : Int} {x : List Int} (h : Sz m x) (hm : 0 ≤ m) (k : Nat) : Sz m (x.set k 0) := by
  intro i
  have := h i
  rw [getD_set]
  split <;> omega
theorem pas_sz {m : Int} (hm : 0 ≤ m) (parts : List Int) (s : St) (h : Sz m s.out) (k : Nat) : Sz m (pas parts s k).out := by
  induction k with
  | zero => exact h
  | succ k ih =>
    simp only [pas]
    split
    · exact sz_set ih hm k
    · exact ih
theorem sz_outs (l : List It) : Sz 70368744177664 (outs l) := by
  intro i
  rcases Nat.lt_or_ge i l.length with h | h
  · rw [outs_get h]; exact ⟨base0_lo _, base0_hi _⟩
  · rw [getD_out (by rw [outs_length]; exact h)]; omega
/-- what is owed stays above 0: no more is taken off it than was shared out. -/
theorem pas_owed (parts : List Int) (s : St) (hp : ∀ i, 0 ≤ parts.getD i 0) (k : Nat) : s.owed - psum parts k ≤ (pas parts s k).owed := by
  induction k with
  | zero => simp [pas, psum]
  | succ k ih =>
    have := hp k
    simp only [pas, psum]
    split
    · rename_i hc; simp only; omega
    · omega
theorem pas_owed_hi {m : Int} (hm : 0 ≤ m) (parts : List Int) (s : St) (h : Sz m s.out) (k : Nat) : (pas parts s k).owed ≤ s.owed := by
  induction k with
  | zero => exact Int.le_refl _
  | succ k ih =>
    have := (pas_sz hm parts s h k) k
    simp only [pas]
    split
    · simp only; omega
    · exact ih
theorem any_wsum (fz : List Bool) (l : List It) : anyS fz l l.length = true ↔ wsum (wts fz l) (wts fz l).length ≠ 0 := by
  have key : ∀ k, k ≤ l.length → (anyS fz l k = true ↔ wsum (wts fz l) k ≠ 0) := by
    intro k
    induction k with
    | zero => simp [anyS, wsum]
    | succ k ih =>
      intro hk
      have h1 := wsum_lo (wts fz l) k
      have h2 := wt_lo (wf fz l k)
      simp only [anyS, wsum, Bool.or_eq_true, decide_eq_true_eq]
      rw [ih (by omega), wts_get (by omega)]
      have : 0 < wf fz l k ↔ wt (wf fz l k) ≠ 0 := by unfold wt clip; omega
      rw [this]
      omega
  rw [wts_length]
  exact key _ (Nat.le_refl _)
end Num
end Go.Proofs.Yteghacdpfhohoaa
