/-
  The cutter's trim and put.
-/
import Derived.Test.YteghacdpfhohoaaTextB
namespace Go.Proofs.Yteghacdpfhohoaa
open Go.RowKit Num Mem Opn
set_option linter.unusedVariables false
set_option linter.unusedSimpArgs false
namespace Num
def slack (p : Pz) : Bool := (p.kind == 2) && !p.pre
/-- a slack space that stands last is taken off. -/
def trimF (out : List Pz) : List Pz := match out.getLast? with
  | none => out
  | some p => if slack p = true then out.dropLast else out
def lastK (out : List Pz) : Int := match out.getLast? with
  | none => 0
  | some p => p.kind
def skips (x : Bx) (k : Int) (out : List Pz) : Bool := (k == 2) && !x.pre && (lastK out != 1)
def pieceF (l : List Int) (x : Bx) (k : Int) (s : ByteArray) : Pz := ⟨k, x.node, s, width l s 1024, 1280, x.pre⟩
def putF (l : List Int) (x : Bx) (k : Int) (s : ByteArray) (out : List Pz) : List Pz :=
  if k = 3 then trimF out ++ [pieceF l x k s] else if skips x k out = true then out else out ++ [pieceF l x k s]
theorem trimF_nil : trimF [] = [] := rfl
theorem trimF_snoc (D : List Pz) (p : Pz) : trimF (D ++ [p]) = if slack p = true then D else D ++ [p] := by
  unfold trimF
  rw [List.getLast?_concat]
  simp [List.dropLast_concat]
theorem lastK_snoc (D : List Pz) (p : Pz) : lastK (D ++ [p]) = p.kind := by
  unfold lastK
  rw [List.getLast?_concat]
end Num
/-- what the cutter holds. -/
structure Cu (W : World) (g base : Nat) (ew eh : Int) (l : List Int) (A : Option Addr) (c : Nat) (out : List Pz) (v : Value) : Prop where
  blk : Blk W g 102 #[.int .i64 ew, .int .i64 eh, .slice A l.length c, v]
  own : W.ownsRow base 59 57 v out.length (out.flatMap Pz.cells)
  adv : Ints W g A l
  gb : g < base
structure CuKeep (w w' : World) (g base : Nat) : Prop where
  below : ∀ B, B ≤ g → B ≤ base → B ≤ w.heap.size → Below B w w'
  blk : ∀ {k : Nat} {t : TypeId} {cs : Array Value}, Blk w k t cs → k ≠ g → t ≠ 59 → Blk w' k t cs
  iter : ∀ {k pos : Nat} {s : ByteArray}, IterAt w k s pos → IterAt w' k s pos
  size : w.heap.size ≤ w'.heap.size
section
variable {w w' a b : World} {g base c n : Nat} {ew eh : Int} {l : List Int} {A : Option Addr} {out D : List Pz} {v : Value}
theorem Cu.below (h : Cu w g base ew eh l A c out v) (hb : Below w.heap.size w w') : Cu w' g base ew eh l A c out v :=
  ⟨h.blk.below hb h.blk.lt, own_below h.own hb, h.adv.below (hb.mono (Nat.le_of_lt h.blk.lt)), h.gb⟩
theorem Cu.drew (h : Cu w g base ew eh l A c out v) : Cu w.drew g base ew eh l A c out v := h.below ((Drawn.refl w).drew.below _)
theorem CuKeep.of_below (h : Below w.heap.size w w') : CuKeep w w' g base :=
  ⟨fun B _ _ hB => h.mono hB, fun hk _ _ => hk.below h hk.lt, fun hi => hi.below h, h.size⟩
theorem CuKeep.end_ (h : CuKeep w a g base) (k : Below w.heap.size a b) (k2 : Below a.heap.size a b) : CuKeep w b g base :=
  ⟨fun B h1 h2 h3 => (h.below B h1 h2 h3).trans (k.mono h3), fun hk h1 h2 => (h.blk hk h1 h2).below k2 (h.blk hk h1 h2).lt, fun hi => (h.iter hi).below k2, Nat.le_trans h.size k.size⟩
theorem CuKeep.trans (h : CuKeep w a g base) (k : CuKeep a b g base) : CuKeep w b g base :=
  ⟨fun B h1 h2 h3 => (h.below B h1 h2 h3).trans (k.below B h1 h2 (Nat.le_trans h3 h.size)), fun hk h1 h2 => k.blk (h.blk hk h1 h2) h1 h2, fun hi => k.iter (h.iter hi), Nat.le_trans h.size k.size⟩
theorem CuKeep.on (h : CuKeep w a g base) (k : Below a.heap.size a b) : CuKeep w b g base := h.trans (CuKeep.of_below k)
theorem CuKeep.grown {xs : List Value} {sz : Nat} (ho : w.ownsRow base 59 sz v n xs) (hg : w.grownBy w' v.ownBlock) (hb : base ≤ w.heap.size) : CuKeep w w' g base :=
  ⟨fun B _ h2 _ => (own_belowB ho hg hb).mono h2, fun hk _ h2 => hk.grown ho hg h2, fun {k pos s} hi => by
    unfold IterAt at *
    rw [hg.block k (Array.getElem?_eq_some_iff.1 hi).1 (by
      intro e
      rcases ho.2 with ⟨rfl, _⟩ | ⟨q, cap, cur, rfl, _, hh, _⟩
      · simp [Value.ownBlock] at e
      · simp only [Value.ownBlock, Option.some.injEq] at e
        subst e
        rw [hh] at hi
        simp at hi)]
    exact hi, hg.size⟩
theorem CuKeep.set {t : TypeId} {cs : Array Value} {i : Nat} {u : Value} (hg : Blk w g t cs) : CuKeep w (w.setCell ⟨g, i, none⟩ u) g base :=
  ⟨fun B h1 _ _ => (Chg.setCell w ⟨g, i, none⟩ u).below h1, fun hk h1 _ => hk.far h1 _, fun {k pos s} hi => by
    have hne : k ≠ g := by
      rintro rfl
      unfold IterAt at hi
      unfold Blk at hg
      rw [hg] at hi
      simp at hi
    unfold IterAt at *
    rw [heap_setCell_other w ⟨g, i, none⟩ k u hne]
    exact hi, by simp⟩
theorem own_take {e : TypeId} {sz m : Nat} {xs : List Value} (h : w.ownsRow base e sz (.slice A c n) c xs) (hm : m ≤ c) : w.ownsRow base e sz (.slice A m n) m (xs.take (m * sz)) := by
  have hl := h.1
  refine ⟨by rw [List.length_take, hl]; exact Nat.min_eq_left (Nat.mul_le_mul_right sz hm), ?_⟩
  rcases h.2 with ⟨hv, h0⟩ | ⟨g, cap, cur, hv, h1, h2, h3, h4, h5, h6⟩
  · injection hv with q1 q2 q3
    subst q1 q2 q3
    obtain rfl : m = 0 := by omega
    exact .inl ⟨rfl, rfl⟩
  · injection hv with q1 q2 q3
    subst q1 q3
    refine .inr ⟨g, n, cur, rfl, h1, h2, by omega, h4, h5, ?_⟩
    rw [← h6, List.take_take, Nat.min_eq_left (Nat.mul_le_mul_right sz hm)]
theorem Cu.put3 {v' : Value} {out' : List Pz} (h : Cu w g base ew eh l A c out v) (ho : w.ownsRow base 59 57 v' out'.length (out'.flatMap Pz.cells)) : Cu (w.setCell ⟨g, 3, none⟩ v') g base ew eh l A c out' v' :=
  ⟨h.blk.put 3 v', own_keep ho (fun q hq _ => heap_setCell_other _ _ _ _ (by rintro rfl; exact own_not h.blk ho (by decide) hq.symm)), h.adv.below ((Chg.setCell w ⟨g, 3, none⟩ v').below (Nat.le_refl _)), h.gb⟩
theorem pz_last {p : Pz} (h : Cu w g base ew eh l A c (D ++ [p]) v) : ∃ b cap, v = .slice (some ⟨b, 0, none⟩) (D.length + 1) cap ∧ D.length + 1 ≤ cap ∧ cap ≤ maxLen ∧ w.cell? ⟨b, D.length * 57, none⟩ = some (.int .i64 p.kind) ∧ w.cell? ⟨b, D.length * 57 + 46, none⟩ = some (.bool p.pre) := by
  have ho := h.own
  have hlen : (D ++ [p]).length = D.length + 1 := by simp
  rw [hlen] at ho
  rcases ho.2 with ⟨_, h0⟩ | ⟨b, cap, cur, rfl, h1, h2, h3, h4, h5, h6⟩
  · omega
  · refine ⟨b, cap, rfl, h3, h4, ?_, ?_⟩
    · have := ho.cells (g := b) rfl (D.length * 57) (.int .i64 p.kind) (by
        rw [List.flatMap_append, List.getElem?_append_right (by rw [flat_length pz_length]; exact Nat.le_refl _), flat_length pz_length, Nat.sub_self]
        rfl)
      rwa [Addr.add_mid, Nat.zero_add] at this
    · have := ho.cells (g := b) rfl (D.length * 57 + 46) (.bool p.pre) (by
        rw [List.flatMap_append, List.getElem?_append_right (by rw [flat_length pz_length]; omega), flat_length pz_length, Nat.add_sub_cancel_left]
        rfl)
      rwa [Addr.add_mid, Nat.zero_add] at this
end
theorem wp_execT {P : Program} {o : Oper} {a : Act} {w w' : World} {v : Value} {K : Act → World → Prop} {Q : Exit → Act → World → Prop} (h : (execOp a.eval o).run P w = .ok (.value v) w') (hK : K (a.put o.dst v) w') : o.wp P a w K Q := by
  unfold Oper.wp
  rw [h]
  exact hK
theorem list_snoc {α : Type} (l : List α) : l = [] ∨ ∃ D p, l = D ++ [p] := by
  rcases List.eq_nil_or_concat l with h | ⟨D, p, h⟩
  · exact .inl h
  · exact .inr ⟨D, p, by rw [h]; simp⟩
set_option maxRecDepth 100000 in
set_option maxHeartbeats 2000000 in
theorem cutter_trim (g base : Nat) (ew eh : Int) (l : List Int) (A : Option Addr) (c : Nat) (out : List Pz) (v : Value) (w : World) (hn : out.length ≤ 1000000) (hc : Cu w g base ew eh l A c out v) :
    Calls Try.prog 60 #[.pointer (some ⟨g, 0, none⟩)] w fun e w' => e = .returned (.tuple #[]) ∧ (∃ v', Cu w' g base ew eh l A c (trimF out) v') ∧ CuKeep w w' g base := by
  have c3 : w.cell? ⟨g, 3, none⟩ = some v := hc.blk.cell 3
  rcases list_snoc out with rfl | ⟨D, p, rfl⟩
  · obtain ⟨A0, c0, rfl, -⟩ := own_some hc.own
    have w1 : IntKind.i64.wrap (0 - 1) = -1 := by decide
    go_enter Try.func60, Try.ntmps60
    go_wp2_with fail
    exact bodyPost_end (results_none rfl _ _ _) rfl ⟨rfl, ⟨_, hc⟩, CuKeep.of_below (Below.refl _ _)⟩
  · obtain ⟨b, cap, rfl, hcap, hcm, ck, cp⟩ := pz_last hc
    rw [trimF_snoc]
    have hnn : D.length + 1 ≤ 1000000 := by simpa using hn
    have e1 : (((D.length + 1 : Nat) : Int) - 1) = (D.length : Int) := by omega
    have e1' : ((D.length : Int) + 1 - 1) = (D.length : Int) := by omega
    have e2 : IntKind.i64.wrap (D.length : Int) = (D.length : Int) := IntWalk.i64_in _ (by omega)
    have e3 : IntKind.i64.wrap (((D.length + 1 : Nat) : Int) - 1) = (D.length : Int) := by rw [e1, e2]
    have e3' : IntKind.i64.wrap ((D.length : Int) + 1 - 1) = (D.length : Int) := by rw [e1', e2]
    have e4 : decide ((0 : Int) ≤ (D.length : Int)) = true := by simp
    have e5 : D.length < D.length + 1 := by omega
    obtain ⟨L, hL⟩ : ∃ L, slack p = L := ⟨_, rfl⟩
    rw [hL]
    have HL := hid hL
    clear hL
    by_cases hk : p.kind = 2
    · have g1 : (p.kind == 2) = true := by simpa using hk
      cases hp : p.pre
      · rw [hp] at cp
        have HZ : Hid (L = true) := hid (by rw [← HL.out]; simp [slack, hk, hp])
        have ho : w.ownsRow base 59 57 (.slice (some ⟨b, 0, none⟩) D.length cap) D.length (D.flatMap Pz.cells) := by
          have h1 := hc.own
          rw [show (D ++ [p]).length = D.length + 1 by simp] at h1
          have h2 := own_take h1 (m := D.length) (by omega)
          rwa [List.flatMap_append, List.take_left' (by rw [flat_length pz_length])] at h2
        have hcu := hc.put3 ho
        have hkp := CuKeep.set (base := base) (i := 3) (u := .slice (some ⟨b, 0, none⟩) D.length cap) hc.blk
        have f3 : w.frozen? ⟨g, 3, none⟩ = false := hc.blk.free 3
        have e6 : D.length ≤ cap := by omega
        rw [HZ.out]
        clear hk HL
        go_enter Try.func60, Try.ntmps60
        go_wp2_with fail
        exact bodyPost_end (results_none rfl _ _ _) rfl ⟨rfl, ⟨_, hcu⟩, hkp⟩
      · rw [hp] at cp
        have HZ : Hid (L = false) := hid (by rw [← HL.out]; simp [slack, hp])
        rw [HZ.out]
        clear hk HL
        go_enter Try.func60, Try.ntmps60
        go_wp2_with fail
        exact bodyPost_end (results_none rfl _ _ _) rfl ⟨rfl, ⟨_, hc⟩, CuKeep.of_below (Below.refl _ _)⟩
    · have g1 : (p.kind == 2) = false := by simpa using hk
      have HZ : Hid (L = false) := hid (by rw [← HL.out]; simp [slack, hk])
      rw [HZ.out]
      clear hk HL
      go_enter Try.func60, Try.ntmps60
      go_wp2_with fail
      exact bodyPost_end (results_none rfl _ _ _) rfl ⟨rfl, ⟨_, hc⟩, CuKeep.of_below (Below.refl _ _)⟩
end Go.Proofs.Yteghacdpfhohoaa
