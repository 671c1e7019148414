/-
  Rectangles, with no program in sight: points of what both have, and of what covers both; the rails.
-/
import Derived.Test.YtldpmhahndpfnaaRect3
namespace Go.Proofs.Ytldpmhahndpfnaa
namespace Num
theorem meetE_comm (a b : Rc) : meetE a b = meetE b a := by
  unfold meetE; rw [Int.max_comm, Int.max_comm (sat a.y), Int.min_comm, Int.min_comm (add a.y a.h)]
theorem meet_comm (a b : Rc) : meet a b = meet b a := by
  unfold meet; rw [meetE_comm, Bool.or_comm]
theorem joinE_comm (a b : Rc) : joinE a b = joinE b a := by
  unfold joinE; rw [Int.min_comm, Int.min_comm (sat a.y), Int.max_comm, Int.max_comm (add a.y a.h)]
theorem join_comm (a b : Rc) (ha : emp a.w a.h = false) (hb : emp b.w b.h = false) : join a b = join b a := by
  unfold join; rw [joinE_comm]; simp [ha, hb]
/-- all parts within 2^40. -/
def Few (a : Rc) : Prop := (-1099511627776 ≤ a.x ∧ a.x ≤ 1099511627776) ∧ (-1099511627776 ≤ a.y ∧ a.y ≤ 1099511627776) ∧ (-1099511627776 ≤ a.w ∧ a.w ≤ 1099511627776) ∧ (-1099511627776 ≤ a.h ∧ a.h ≤ 1099511627776)
theorem has_few {a : Rc} (h : Few a) {x y : Int} (hx : -1099511627776 ≤ x ∧ x ≤ 1099511627776) (hy : -1099511627776 ≤ y ∧ y ≤ 1099511627776) :
    has a x y = true ↔ 0 < a.w ∧ 0 < a.h ∧ a.x ≤ x ∧ x < a.x + a.w ∧ a.y ≤ y ∧ y < a.y + a.h := by
  obtain ⟨h1, h2, h3, h4⟩ := h
  have e1 : sat x = x := sat_id (by omega) (by omega)
  have e2 : sat y = y := sat_id (by omega) (by omega)
  have e3 : sat a.x = a.x := sat_id (by omega) (by omega)
  have e4 : sat a.y = a.y := sat_id (by omega) (by omega)
  have e5 : add a.x a.w = a.x + a.w := by unfold add sat; omega
  have e6 : add a.y a.h = a.y + a.h := by unfold add sat; omega
  unfold has emp
  rw [e1, e2, e3, e4, e5, e6]
  simp
  omega
theorem not_emp {w h : Int} (k : emp w h = false) : 0 < w ∧ 0 < h := by
  unfold emp at k; simp at k; omega
theorem is_emp {w h : Int} (k : emp w h = true) : w ≤ 0 ∨ h ≤ 0 := by
  unfold emp at k; simpa using k
/-- the parts of a rectangle of edges within twice the small. -/
theorem edges_few {l t r b : Int} (hl : -2199023255552 ≤ l ∧ l ≤ 2199023255552) (ht : -2199023255552 ≤ t ∧ t ≤ 2199023255552) (hr : -2199023255552 ≤ r ∧ r ≤ 2199023255552) (hb : -2199023255552 ≤ b ∧ b ≤ 2199023255552) :
    ofEdges l t r b = ⟨l, t, r - l, b - t⟩ := by
  unfold ofEdges
  have e1 : sub r l = r - l := by unfold sub sat; omega
  have e2 : sub b t = b - t := by unfold sub sat; omega
  rw [e1, e2]
theorem has_edges {l t r b : Int} (hl : -2199023255552 ≤ l ∧ l ≤ 2199023255552) (ht : -2199023255552 ≤ t ∧ t ≤ 2199023255552) (hr : -2199023255552 ≤ r ∧ r ≤ 2199023255552) (hb : -2199023255552 ≤ b ∧ b ≤ 2199023255552)
    {x y : Int} (hx : -1099511627776 ≤ x ∧ x ≤ 1099511627776) (hy : -1099511627776 ≤ y ∧ y ≤ 1099511627776) :
    has (ofEdges l t r b) x y = true ↔ l < r ∧ t < b ∧ l ≤ x ∧ x < r ∧ t ≤ y ∧ y < b := by
  rw [edges_few hl ht hr hb]
  have e1 : sat x = x := sat_id (by omega) (by omega)
  have e2 : sat y = y := sat_id (by omega) (by omega)
  have e3 : sat l = l := sat_id (by omega) (by omega)
  have e4 : sat t = t := sat_id (by omega) (by omega)
  have e5 : add l (r - l) = r := by unfold add sat; omega
  have e6 : add t (b - t) = b := by unfold add sat; omega
  unfold has emp
  simp only
  rw [e1, e2, e3, e4, e5, e6]
  simp
  omega
theorem few_edges {a : Rc} (h : Few a) : sat a.x = a.x ∧ sat a.y = a.y ∧ add a.x a.w = a.x + a.w ∧ add a.y a.h = a.y + a.h := by
  obtain ⟨h1, h2, h3, h4⟩ := h
  exact ⟨sat_id (by omega) (by omega), sat_id (by omega) (by omega), by unfold add sat; omega, by unfold add sat; omega⟩
theorem has_nought (x y : Int) : has nought x y = false := by simp [has, nought, emp]
/-- a point is in what both have just if it is in both. -/
theorem has_meet {a b : Rc} (ha : Few a) (hb : Few b) {x y : Int} (hx : -1099511627776 ≤ x ∧ x ≤ 1099511627776) (hy : -1099511627776 ≤ y ∧ y ≤ 1099511627776) :
    has (meet a b) x y = (has a x y && has b x y) := by
  have ka := has_few ha hx hy
  have kb := has_few hb hx hy
  obtain ⟨a1, a2, a3, a4⟩ := few_edges ha
  obtain ⟨b1, b2, b3, b4⟩ := few_edges hb
  have ke := has_edges (l := max a.x b.x) (t := max a.y b.y) (r := min (a.x + a.w) (b.x + b.w)) (b := min (a.y + a.h) (b.y + b.h)) (by obtain ⟨_, _, _, _⟩ := ha; obtain ⟨_, _, _, _⟩ := hb; omega) (by obtain ⟨_, _, _, _⟩ := ha; obtain ⟨_, _, _, _⟩ := hb; omega) (by obtain ⟨_, _, _, _⟩ := ha; obtain ⟨_, _, _, _⟩ := hb; omega) (by obtain ⟨_, _, _, _⟩ := ha; obtain ⟨_, _, _, _⟩ := hb; omega) hx hy
  have he : meetE a b = ofEdges (max a.x b.x) (max a.y b.y) (min (a.x + a.w) (b.x + b.w)) (min (a.y + a.h) (b.y + b.h)) := by
    unfold meetE; rw [a1, a2, a3, a4, b1, b2, b3, b4]
  rw [← he] at ke
  rw [Bool.eq_iff_iff, Bool.and_eq_true, ka, kb]
  unfold meet
  cases ea : emp a.w a.h
  · cases eb : emp b.w b.h
    · have := not_emp ea
      have := not_emp eb
      simp only [Bool.or_false, Bool.false_eq_true, if_false]
      cases ee : emp (meetE a b).w (meetE a b).h
      · simp only [Bool.false_eq_true, if_false]
        rw [ke]; omega
      · simp only [if_true, has_nought, Bool.false_eq_true, false_iff]
        have hn : has (meetE a b) x y = false := by unfold has; rw [ee]; simp
        rw [hn] at ke
        simp only [Bool.false_eq_true, false_iff] at ke
        omega
    · have := is_emp eb
      simp only [Bool.or_true, if_true, has_nought, Bool.false_eq_true, false_iff]
      omega
  · have := is_emp ea
    simp only [Bool.true_or, if_true, has_nought, Bool.false_eq_true, false_iff]
    omega
theorem has_between {a : Rc} (ha : Few a) {x y : Int} : has (between a) x y = has a x y := by
  obtain ⟨h1, h2, h3, h4⟩ := ha
  have e3 : sat a.x = a.x := sat_id (by omega) (by omega)
  have e4 : sat a.y = a.y := sat_id (by omega) (by omega)
  have e5 : sat a.w = a.w := sat_id (by omega) (by omega)
  have e6 : sat a.h = a.h := sat_id (by omega) (by omega)
  unfold between
  rw [e3, e4, e5, e6]
/-- a point that is in one is in what covers both. -/
theorem has_join {a b : Rc} (ha : Few a) (hb : Few b) {x y : Int} (hx : -1099511627776 ≤ x ∧ x ≤ 1099511627776) (hy : -1099511627776 ≤ y ∧ y ≤ 1099511627776) (h : has a x y = true ∨ has b x y = true) :
    has (join a b) x y = true := by
  have ka := has_few ha hx hy
  have kb := has_few hb hx hy
  obtain ⟨a1, a2, a3, a4⟩ := few_edges ha
  obtain ⟨b1, b2, b3, b4⟩ := few_edges hb
  have ke := has_edges (l := min a.x b.x) (t := min a.y b.y) (r := max (a.x + a.w) (b.x + b.w)) (b := max (a.y + a.h) (b.y + b.h)) (by obtain ⟨_, _, _, _⟩ := ha; obtain ⟨_, _, _, _⟩ := hb; omega) (by obtain ⟨_, _, _, _⟩ := ha; obtain ⟨_, _, _, _⟩ := hb; omega) (by obtain ⟨_, _, _, _⟩ := ha; obtain ⟨_, _, _, _⟩ := hb; omega) (by obtain ⟨_, _, _, _⟩ := ha; obtain ⟨_, _, _, _⟩ := hb; omega) hx hy
  have he : joinE a b = ofEdges (min a.x b.x) (min a.y b.y) (max (a.x + a.w) (b.x + b.w)) (max (a.y + a.h) (b.y + b.h)) := by
    unfold joinE; rw [a1, a2, a3, a4, b1, b2, b3, b4]
  rw [← he] at ke
  unfold join
  cases ea : emp a.w a.h
  · cases eb : emp b.w b.h
    · have := not_emp ea
      have := not_emp eb
      simp only [Bool.and_false, Bool.false_eq_true, if_false]
      rw [ke]
      rw [ka, kb] at h
      omega
    · simp only [Bool.and_true, Bool.false_eq_true, if_false, if_true]
      rw [has_between ha]
      have := is_emp eb
      rw [kb] at h
      rcases h with h | h
      · exact h
      · omega
  · cases eb : emp b.w b.h
    · simp only [Bool.and_false, Bool.false_eq_true, if_false, if_true]
      rw [has_between hb]
      have := is_emp ea
      rw [ka] at h
      rcases h with h | h
      · omega
      · exact h
    · have := is_emp ea
      have := is_emp eb
      rw [ka, kb] at h
      omega
/-- nothing that is answered passes the rails. -/
def Railed (a : Rc) : Prop := (-70368744177664 ≤ a.x ∧ a.x ≤ 70368744177664) ∧ (-70368744177664 ≤ a.y ∧ a.y ≤ 70368744177664) ∧ a.w ≤ 70368744177664 ∧ a.h ≤ 70368744177664
theorem railed_nought : Railed nought := by simp [Railed, nought]
theorem railed_edges {l t r b : Int} (hl : -70368744177664 ≤ l ∧ l ≤ 70368744177664) (ht : -70368744177664 ≤ t ∧ t ≤ 70368744177664) : Railed (ofEdges l t r b) :=
  ⟨hl, ht, sat_hi _, sat_hi _⟩
theorem railed_between (a : Rc) : Railed (between a) := ⟨⟨sat_lo _, sat_hi _⟩, ⟨sat_lo _, sat_hi _⟩, sat_hi _, sat_hi _⟩
theorem railed_meet (a b : Rc) : Railed (meet a b) := by
  have h1 := sat_lo a.x
  have h2 := sat_hi a.x
  have h3 := sat_lo b.x
  have h4 := sat_hi b.x
  have k1 := sat_lo a.y
  have k2 := sat_hi a.y
  have k3 := sat_lo b.y
  have k4 := sat_hi b.y
  unfold meet
  split
  · exact railed_nought
  · split
    · exact railed_nought
    · exact railed_edges (by omega) (by omega)
theorem railed_join (a b : Rc) : Railed (join a b) := by
  have h1 := sat_lo a.x
  have h2 := sat_hi a.x
  have h3 := sat_lo b.x
  have h4 := sat_hi b.x
  have k1 := sat_lo a.y
  have k2 := sat_hi a.y
  have k3 := sat_lo b.y
  have k4 := sat_hi b.y
  unfold join
  split
  · exact railed_nought
  · split
    · exact railed_between b
    · split
      · exact railed_between a
      · exact railed_edges (by omega) (by omega)
end Num
end Go.Proofs.Ytldpmhahndpfnaa
