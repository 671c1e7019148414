/-
  shares.
-/
import Derived.Test.YtkkiefcapbddkaaGreatDoorLayE
import Derived.Test.YtkkiefcapbddkaaGreatDoorShare
import Derived.Test.YtkkiefcapbddkaaGreatDoorPlainW
set_option linter.all false
namespace Go.Abs
open Go.RowKit Go.Proofs Go.Proofs.YtkkiefcapbddkaaGreatDoor
set_option linter.unusedVariables false
set_option linter.unusedSectionVars false
set_option maxRecDepth 100000
/-! How much each box gets. -/
theorem psum_step (x : List Int) (k : Nat) : Num.psum x (k + 1) = Num.psum x k + x.getD k 0 := rfl
theorem psum_le {x : List Int} {n : Nat} (h : ∀ i, i < n → 0 ≤ x.getD i 0) : ∀ k, k ≤ n → 0 ≤ Num.psum x k ∧ ∀ i, i < k → x.getD i 0 ≤ Num.psum x k
  | 0, _ => ⟨Int.le_refl _, fun i hi => by omega⟩
  | k + 1, hk => by
    obtain ⟨h1, h2⟩ := psum_le h k (by omega)
    have h3 := h k (by omega)
    rw [psum_step]
    refine ⟨by omega, fun i hi => ?_⟩
    by_cases e : i = k
    · subst e; omega
    · have := h2 i (by omega); omega
theorem share_len (t : Int) (l : List Int) : (Num.share t l).length = l.length := by
  have key : ∀ (j : Nat) (x r : List Int), (Num.give j x r).length = x.length := by
    intro j
    induction j with
    | zero => intro x r; rfl
    | succ j ih => intro x r; show (Num.give j _ _).length = _; rw [ih]; simp
  unfold Num.share
  split
  · simp
  · rw [key]; simp [Num.upto]
theorem share_in (t : Int) (l : List Int) (hl : l.length ≤ 1048576) (h0 : 0 ≤ t) (h1 : t ≤ 70368744177664) {i : Nat} (hi : i < l.length) : 0 ≤ (Num.share t l).getD i 0 ∧ (Num.share t l).getD i 0 ≤ t := by
  have hb := fun i hi => (Num.share_bnd t l hl (i := i) hi).1
  obtain ⟨k1, k2⟩ := psum_le hb l.length (Nat.le_refl _)
  refine ⟨hb i hi, Int.le_trans (k2 i hi) ?_⟩
  have ht : Num.tot t = t := by unfold Num.tot Num.clip; omega
  rcases Num.share_total t l with ⟨_, h⟩ | ⟨_, h⟩
  · rw [h, ht]; exact Int.le_refl _
  · rw [h]; exact h0
theorem upN_one {α : Type} (f : Nat → α) : ∀ (n s : Nat), upN (fun i => [f i]) n s = (List.range' s n).map f
  | 0, s => rfl
  | n + 1, s => by
    show List.append [f s] (upN (fun i => [f i]) n (s + 1)) = _
    rw [upN_one f n (s + 1), List.range'_succ]
    rfl
theorem upN_get {α : Type} (f : Nat → α) {n i : Nat} {x : α} (h : (upN (fun i => [f i]) n 0)[i]? = some x) : i < n ∧ x = f i := by
  rw [upN_one, List.getElem?_map] at h
  by_cases hi : i < n
  · rw [List.getElem?_range' hi] at h
    simp at h
    exact ⟨hi, h.symm⟩
  · rw [List.getElem?_eq_none (by simp; omega)] at h
    cases h
theorem upN_len {α : Type} (f : Nat → α) (n : Nat) : (upN (fun i => [f i]) n 0).length = n := by rw [upN_one]; simp
variable [Val]
theorem eqVss_ok : ∀ {a b : List (List V)}, eqVss a b = true → a = b
  | [], [], _ => rfl
  | x :: a, y :: b, h => by
    obtain ⟨h1, h2⟩ := brec_ok (show (Bool.rec false (eqVss a b) (eqV1s x y) : Bool) = true from h)
    rw [eqV1s_ok h1, eqVss_ok h2]
  | [], _ :: _, h => by cases h
  | _ :: _, [], h => by cases h
/-- how much the boxes grow. -/
noncomputable def grows (n : Nat) : List Int := (List.range n).map fun i => (gE i).val
/-- the letters' shares are the true ones. -/
def ShOk (n : Nat) : Prop := ∀ i, i < n → Val.f 1 i [] = (Num.share (totE n).val (grows n)).getD i 0
theorem spS_ok {n : Nat} (hn : n ≤ 12) (hS : ShOk n) : SpT Tryz.prog (spS n) := by
  intro f args h r hs
  unfold spS at hs
  obtain ⟨hf, hz⟩ := brec_ok' hs
  clear hs
  have hf := Nat.eq_of_beq_eq_true hf
  subst hf
  split at hz
  · next t k m =>
    split at hz
    · next rows vec hk =>
      obtain ⟨h1, z1⟩ := brec_ok' hz
      obtain ⟨h2, z2⟩ := brec_ok' z1
      obtain ⟨h3, z3⟩ := brec_ok' z2
      clear hz z1 z2
      have h1 := eqV1_ok h1
      have h2 := eqVss_ok h2
      have h3 := Nat.eq_of_beq_eq_true h3
      subst h1; subst h2; subst h3
      cases h4 : Nat.beq m 0 with
      | true => rw [h4] at z3; cases z3
      | false =>
        rw [h4] at z3
        have h4 : m ≠ 0 := fun e => by subst e; cases h4
        cases z3
        refine ⟨fun args w => rfl, ?_⟩
        refine AC.of_below (r := .l 1 (upN (fun i => [[shD i]]) m 0)) fun g w vs hr hg => ?_
        obtain ⟨a, b, rfl, g1, g2⟩ := hg.two
        have e1 := g1.d_inv
        have hgl : (grows m).length = m := by simp [grows]
        have hlen : (wtN m).length = m := by unfold wtN; rw [upN_len]
        generalize hT : (totE m).val = T
        have hS : ∀ i, i < m → Val.f 1 i [] = (Num.share T (grows m)).getD i 0 := fun i hi => by rw [← hT]; exact hS i hi
        have hTb : 6400 - 128 * m ≤ T ∧ T ≤ 63936 - 128 * m := by
          unfold totD at e1
          cases e1 with
          | x _ _ _ _ q1 q2 => rw [hT] at q1 q2; exact ⟨q1, q2⟩
        have ea : a = .int .i64 T := by
          unfold totD at e1
          cases e1; rw [hT]
        subst ea
        obtain ⟨blk, cap, c, ct, fz, rfl, hb, hcs, hcell⟩ : ∃ blk cap c ct fz, b = .slice (some ⟨blk, 0, none⟩) m cap ∧ w.heap[blk]? = some (.cells c ct fz) ∧ m ≤ c.size ∧ ∀ (i : Nat) v, i < m → c[i]? = some v → v = .int .i64 (gE i).val := by
          have hobj := hr.obj k _ hk
          generalize hrows : wtN m = rows at hobj hk hlen
          cases g2 with
          | vn _ _ => exact absurd rfl h4
          | ve _ _ _ _ => exact absurd rfl h4
          | v _ _ _ blk sz cap c ct fz q1 q2 q3 q4 q5 =>
            have := obj_σ hr hk q2
            subst this
            cases hobj with
            | nilvec _ _ => simp at hlen; omega
            | row _ _ _ b' c' ct' p1 p2 p3 p4 p5 p6 p7 p8 =>
              rw [q2] at p1; cases p1
              rw [q3] at p2; cases p2
              refine ⟨blk, cap, c, ct, _, by simp, q3, by rw [hlen] at p5; simpa using p5, fun i v hi hv => ?_⟩
              have hrow : rows[i]? = some [V.d (grD i)] := by
                rw [← hrows]
                unfold wtN
                rw [upN_one, List.getElem?_map, List.getElem?_range' hi]
                simp
              have := p8 i _ 0 _ v hrow rfl (by simpa using hv)
              have := this.d_inv
              unfold grD at this
              cases this; rfl
        have hIn : Mem.Ints w w.heap.size (some ⟨blk, 0, none⟩) (grows m) := by
          intro _
          have hlt : blk < w.heap.size := (Array.getElem?_eq_some_iff.1 hb).1
          refine ⟨blk, 0, rfl, hlt, fun j hj => ?_⟩
          rw [List.length_map, hgl] at hj
          have hj2 : j < c.size := by omega
          rw [Nat.zero_add, cell_of_row w blk j c ct fz hb]
          rw [List.getElem?_map, Array.getElem?_eq_getElem hj2, hcell j _ hj (Array.getElem?_eq_getElem hj2)]
          simp [grows, hj]
        have hw := fixed_Share T (grows m) (some ⟨blk, 0, none⟩) cap w (by rw [hgl]; omega) hIn
        rw [hgl] at hw
        refine hw.mono fun e w' ⟨q1, q2, q3⟩ => ⟨_, q1, q2, up g.F w.heap.size m, fun b hb => up_ne _ _ _ (by omega), fun b hb => ?_, ?_⟩
        · have := q2.size
          have hlt : w.heap.size < w'.heap.size := q3.lt
          rw [up_ne _ _ _ (by omega)]
          exact hr.fresh b (by omega)
        · have hsz : (Mem.ints (Num.share T (grows m))).size = m := by rw [Mem.ints_size, share_len, hgl]
          have hlen2 : (upN (fun i => [[shD i]]) m 0).length = m := upN_len _ _
          have := RD.l (F := up g.F w.heap.size m) (w := w') 1 (upN (fun i => [[shD i]]) m 0) w.heap.size 0 m _ _ _ q3 (by rw [up_same, hlen2]; omega) (by rw [up_same, hsz]; exact Nat.le_refl _) (by rw [hsz]; omega) (by rw [hlen2]; exact Nat.le_refl _)
            (fun r hr => by obtain ⟨i, hi⟩ := List.getElem?_of_mem hr; rw [(upN_get _ hi).2]; rfl)
            (fun i r j d v a1 a2 a3 => by
              obtain ⟨hi, rfl⟩ := upN_get _ a1
              obtain ⟨rfl, rfl⟩ : j = 0 ∧ d = shD i := by
                match j, a2 with
                | 0, a2 => cases a2; exact ⟨rfl, rfl⟩
                | j + 1, a2 => simp at a2
              rw [show 0 + i * 1 + 0 = i by omega, Mem.ints_get _ (by rw [share_len, hgl]; exact hi)] at a3
              cases a3
              rw [← hS i hi]
              have hin := share_in T (grows m) (by rw [hgl]; omega) (by omega) (by omega) (i := i) (by rw [hgl]; exact hi)
              rw [← hS i hi] at hin
              exact RD.x .i64 (.fn 1 i []) 0 63936 hin.1 (by have := hin.2; show Val.f 1 i [] ≤ _; omega))
          rw [hlen2] at this
          exact this
    · cases hz
  · cases hz
end Go.Abs
