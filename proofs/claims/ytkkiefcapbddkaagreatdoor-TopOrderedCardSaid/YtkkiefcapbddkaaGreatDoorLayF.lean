/-
  sizes; the document in pieces; added operations.
-/
import Derived.Test.YtkkiefcapbddkaaGreatDoorLayD
import Derived.Test.YtkkiefcapbddkaaGreatDoorSeatB
import Derived.Below
set_option linter.all false
namespace Go.Abs
open Go.RowKit Go.Proofs Go.Proofs.YtkkiefcapbddkaaGreatDoor
set_option maxRecDepth 100000
def itO : Num.It := ⟨128, 0, 0, 0⟩
def lO (n : Nat) : List Num.It := List.replicate n itO
theorem lO_get {n i : Nat} (hi : i < n) : (lO n).getD i Num.it0 = itO := by
  simp [lO, List.getD, hi]
theorem lO_len (n : Nat) : (lO n).length = n := by simp [lO]
theorem wf_O (fz : List Bool) {n i : Nat} (hi : i < n) : Num.wf fz (lO n) i = 0 := by
  unfold Num.wf
  rw [lO_get hi]
  split <;> rfl
theorem any_O (fz : List Bool) (n : Nat) : ∀ k, k ≤ n → Num.anyS fz (lO n) k = false
  | 0, _ => rfl
  | k + 1, hk => by
    show (Num.anyS fz (lO n) k || decide (0 < Num.wf fz (lO n) k)) = false
    rw [any_O fz n k (by omega), wf_O fz (by omega)]
    rfl
theorem outs_O {n i : Nat} (hi : i < n) : (Num.outs (lO n)).getD i 0 = 128 := by
  rw [Num.outs_get (by rw [lO_len]; exact hi), lO_get hi]
  rfl
theorem sizes_O (room : Int) (n : Nat) : (Num.sizes room (lO n)).length = n ∧ ∀ i, i < n → (Num.sizes room (lO n)).getD i 0 = 128 := by
  unfold Num.sizes
  split
  · have hg : ∀ i, i < n → (Num.grws (lO n)).getD i 0 = 0 := fun i hi => by
      unfold Num.grws
      rw [lO_len, Num.upto_getD _ hi, if_pos hi]
      unfold Num.og
      rw [lO_get hi]
      rfl
    have hl : (Num.grws (lO n)).length = n := by rw [Num.grws_length, lO_len]
    have hs : (Num.share (Num.frees room (lO n) (lO n).length) (Num.grws (lO n))).length = n := by rw [Num.share_length, hl]
    have ho : (Num.outs (lO n)).length = n := by rw [Num.outs_length, lO_len]
    have he : (Num.outs (lO n)).length = (Num.share (Num.frees room (lO n) (lO n).length) (Num.grws (lO n))).length := by rw [hs, ho]
    refine ⟨by rw [Num.zadd_length he, ho], fun i hi => ?_⟩
    rw [Num.zadd_get he (by rw [ho]; exact hi), outs_O hi, Num.share_none _ _ (by rw [hl]; exact hi) (by rw [hg i hi]; exact Int.le_refl _)]
    rfl
  · split
    · rw [shr_none (any_O _ _ _ (by rw [lO_len]; exact Nat.le_refl _))]
      exact ⟨by rw [Num.outs_length, lO_len], fun i hi => outs_O hi⟩
    · exact ⟨by rw [Num.outs_length, lO_len], fun i hi => outs_O hi⟩
theorem upN_oneO {α : Type} (f : Nat → α) : ∀ (n s : Nat), upN (fun i => [f i]) n s = (List.range' s n).map f
  | 0, s => rfl
  | n + 1, s => by
    show List.append [f s] (upN (fun i => [f i]) n (s + 1)) = _
    rw [upN_oneO f n (s + 1), List.range'_succ]
    rfl
theorem upN_getO {α : Type} (f : Nat → α) {n i : Nat} {x : α} (h : (upN (fun i => [f i]) n 0)[i]? = some x) : i < n ∧ x = f i := by
  rw [upN_oneO, List.getElem?_map] at h
  by_cases hi : i < n
  · rw [List.getElem?_range' hi] at h
    simp at h
    exact ⟨hi, h.symm⟩
  · rw [List.getElem?_eq_none (by simp; omega)] at h
    cases h
theorem upN_lenO {α : Type} (f : Nat → α) (n : Nat) : (upN (fun i => [f i]) n 0).length = n := by rw [upN_oneO]; simp
theorem upN_atO {α : Type} (f : Nat → α) {n i : Nat} (hi : i < n) : (upN (fun i => [f i]) n 0)[i]? = some (f i) := by
  rw [upN_oneO, List.getElem?_map, List.getElem?_range' hi]
  simp
variable [Val]
theorem rows_at {F : Nat → Nat} {w : World} {sz : Nat} {rows : List (List D)} {a : Value} (h : RD F w (.l sz rows) a) (hn : rows ≠ []) :
    ∃ b off cap, a = .slice (some ⟨b, off, none⟩) rows.length cap ∧ b < w.heap.size ∧ ∀ (i : Nat) r (j : Nat) d, rows[i]? = some r → r[j]? = some d → ∃ v, w.cell? ⟨b, off + i * sz + j, none⟩ = some v ∧ RD F w d v := by
  cases h with
  | lz => exact absurd rfl hn
  | l _ _ b off cap c t fz hb hf hs hc hl hr hx =>
    refine ⟨b, off, cap, rfl, (Array.getElem?_eq_some_iff.1 hb).1, fun i r j d h1 h2 => ?_⟩
    have hi := (List.getElem?_eq_some_iff.1 h1).1
    have hj := (List.getElem?_eq_some_iff.1 h2).1
    have hrl := hr r (List.mem_of_getElem? h1)
    have hm : (i + 1) * sz ≤ rows.length * sz := Nat.mul_le_mul_right _ hi
    rw [Nat.add_mul] at hm
    have hlt : off + i * sz + j < c.size := by omega
    refine ⟨c[off + i * sz + j], ?_, hx i r j d _ h1 h2 (Array.getElem?_eq_getElem hlt)⟩
    rw [cell_of_row w b _ c t fz hb, Array.getElem?_eq_getElem hlt]
theorem sizes_ac {n : Nat} (hn : n ≤ 20) {e : Ex} {lo hi : Int} (h1 : -1000000000000 ≤ lo) (h2 : hi ≤ 1000000000000) {d : D} (h : HL)
    (hd : ∀ F w v, RD F w d v → ∃ A cap, v = .slice A n cap ∧ Mem.Recs w w.heap.size A 4 Num.It.cells (lO n)) :
    ∀ m, AC Tryz.prog 279 [.d (.x .i64 e lo hi), .d d] (lko h) m fun x hh nn => x = .d (.l 1 (upN (fun _ => [[iN 128]]) n 0)) ∧ hh = lko h ∧ nn = m := by
  refine AC.of_below (r := .l 1 (upN (fun _ => [[iN 128]]) n 0)) fun g w vs hr hg => ?_
  obtain ⟨a, b, rfl, g1, g2⟩ := hg.two
  have e1 := g1.d_inv
  obtain ⟨A, cap, rfl, hR⟩ := hd _ _ _ g2.d_inv
  obtain ⟨T, hT⟩ : ∃ T, e.val = T := ⟨_, rfl⟩
  have ha : a = .int .i64 T ∧ -1000000000000 ≤ T ∧ T ≤ 1000000000000 := by
    cases e1 with
    | x _ _ _ _ q1 q2 => rw [hT] at q1 q2; exact ⟨by rw [hT], by omega, by omega⟩
  obtain ⟨rfl, t1, t2⟩ := ha
  have hw := flex_Sizes T (lO n) A cap w (by rw [lO_len]; omega) ⟨by omega, by omega⟩ hR
  rw [lO_len] at hw
  obtain ⟨z1, z2⟩ := sizes_O T n
  refine hw.mono fun e' w' ⟨q1, q2, q3⟩ => ⟨_, q1, q2, up g.F w.heap.size n, fun b hb => up_ne _ _ _ (by omega), fun b hb => ?_, ?_⟩
  · have := q2.size
    have hlt : w.heap.size < w'.heap.size := q3.lt
    rw [up_ne _ _ _ (by omega)]
    exact hr.fresh b (by omega)
  · have hsz : (Mem.ints (Num.sizes T (lO n))).size = n := by rw [Mem.ints_size, z1]
    have hlen2 : (upN (fun _ => [[iN 128]]) n 0).length = n := upN_lenO _ _
    have := RD.l (F := up g.F w.heap.size n) (w := w') 1 (upN (fun _ => [[iN 128]]) n 0) w.heap.size 0 n _ _ _ q3 (by rw [up_same, hlen2]; omega) (by rw [up_same, hsz]; exact Nat.le_refl _) (by rw [hsz]; omega) (by rw [hlen2]; exact Nat.le_refl _)
      (fun r hr => by obtain ⟨i, hi⟩ := List.getElem?_of_mem hr; rw [(upN_getO _ hi).2]; rfl)
      (fun i r j d v a1 a2 a3 => by
        obtain ⟨hi, rfl⟩ := upN_getO _ a1
        obtain ⟨rfl, rfl⟩ : j = 0 ∧ d = iN 128 := by
          match j, a2 with
          | 0, a2 => cases a2; exact ⟨rfl, rfl⟩
          | j + 1, a2 => simp at a2
        rw [show 0 + i * 1 + 0 = i by omega, Mem.ints_get _ (by rw [z1]; exact hi)] at a3
        cases a3
        rw [z2 i hi]
        exact .i _ _)
    rw [hlen2] at this
    exact this
theorem recs_O {n : Nat} {F : Nat → Nat} {w : World} {v : Value} (h : RD F w (.l 4 (upN (fun _ => [[iN 128, iN 0, iN 0, iN 0]]) n 0)) v) : ∃ A cap, v = .slice A n cap ∧ Mem.Recs w w.heap.size A 4 Num.It.cells (lO n) := by
  by_cases h0 : n = 0
  · subst h0
    have h : RD F w (.l 4 []) v := h
    cases h with
    | lz => exact ⟨none, 0, rfl, Mem.Recs.nil _ _ _ _ _⟩
    | l => exact ⟨_, _, rfl, Mem.Recs.nil _ _ _ _ _⟩
  · have hl : (upN (fun _ => [[iN 128, iN 0, iN 0, iN 0]]) n 0).length = n := upN_lenO _ _
    obtain ⟨b, off, cap, rfl, h1, h2⟩ := rows_at h (by intro e; rw [e] at hl; exact h0 hl.symm)
    refine ⟨some ⟨b, off, none⟩, cap, by rw [hl], fun _ => ⟨b, off, rfl, h1, fun i x hx j u hu => ?_⟩⟩
    have hi : i < n := by have := (List.getElem?_eq_some_iff.1 hx).1; rwa [lO_len] at this
    have hxe : x = itO := by
      have := List.mem_of_getElem? hx
      exact List.eq_of_mem_replicate this
    subst hxe
    have hrow := upN_atO (fun _ => [iN 128, iN 0, iN 0, iN 0]) hi
    match j, hu with
    | 0, hu => obtain ⟨v, c, d⟩ := h2 i _ 0 _ hrow rfl; cases hu; cases d; exact c
    | 1, hu => obtain ⟨v, c, d⟩ := h2 i _ 1 _ hrow rfl; cases hu; cases d; exact c
    | 2, hu => obtain ⟨v, c, d⟩ := h2 i _ 2 _ hrow rfl; cases hu; cases d; exact c
    | 3, hu => obtain ⟨v, c, d⟩ := h2 i _ 3 _ hrow rfl; cases hu; cases d; exact c
    | j + 4, hu => simp [Num.It.cells] at hu
theorem leI_le {a b : Int} (h : leI a b = true) : a ≤ b := by rw [leI_eq] at h; exact of_decide_eq_true h
theorem spSizes_ok {n : Nat} (hn : n ≤ 20) {args : List V} {h : HL} {r : V × HL} (hs : spSizes n args h = some r) : CallOk Tryz.prog 279 ∧ ∀ m, AC Tryz.prog 279 args (lko h) m fun x hh nn => x = r.1 ∧ hh = lko r.2 ∧ nn = m := by
  unfold spSizes at hs
  split at hs
  · next e lo hi it =>
    obtain ⟨h1, z1⟩ := brec_ok' hs
    obtain ⟨h2, z2⟩ := brec_ok' z1
    have h1 := leI_le h1
    have h2 := leI_le h2
    clear hs z1
    split at z2
    · next rows =>
      obtain ⟨h3, z3⟩ := brec_ok' z2
      clear z2
      have h3 := eqDss_ok h3
      subst h3
      cases z3
      exact ⟨fun args w => rfl, sizes_ac hn h1 h2 h fun F w v hv => recs_O hv⟩
    · obtain ⟨h3, z3⟩ := brec_ok' z2
      clear z2
      have h3 := Nat.eq_of_beq_eq_true h3
      subst h3
      cases z3
      exact ⟨fun args w => rfl, sizes_ac hn h1 h2 h fun F w v hv => by cases hv; exact ⟨none, 0, rfl, Mem.Recs.nil _ _ _ _ _⟩⟩
    · cases z2
  · cases hs
end Go.Abs
namespace Go.Abs
open Go.RowKit
structure PutAt (w w' : World) (b : Nat) : Prop where
  os : w'.os = w.os
  tape : w'.tape = w.tape
  output : w'.output = w.output
  size : w.heap.size ≤ w'.heap.size
  far : ∀ k, k < w.heap.size → k ≠ b → w'.heap[k]? = w.heap[k]?
end Go.Abs
namespace Go.Abs
open Go.RowKit Go.Proofs
variable [Val]
theorem AC.of_put {P : Program} {f : FuncId} {args : List V} {h : Heap} {k sz : Nat} {rows : List (List V)} {rows' : List (List D)} {vec : Bool} {r : V} (hk : h k = some (.row sz rows vec)) (hn : rows'.length = rows.length) (hl : ∀ q ∈ rows', q.length = sz) (h0 : rows ≠ [])
    (H : ∀ g w vs b c t, Rel g h w → GL g h w args vs → g.σ k = some (b, sz) → w.heap[b]? = some (.cells c t (0, 0)) → rows.length * sz ≤ c.size → (vec = false → c.size = rows.length * sz) →
      (∀ (i : Nat) q (j : Nat) x v, rows[i]? = some q → q[j]? = some x → c[i * sz + j]? = some v → GV g h w x v) → g.F b = 0 →
      Calls P f vs.toArray w fun e w' => ∃ v c' F', e = .returned v ∧ PutAt w w' b ∧ w'.heap[b]? = some (.cells c' t (0, 0)) ∧ c'.size = c.size ∧ (∀ x, x < w.heap.size → F' x = g.F x) ∧ (∀ x, w'.heap.size ≤ x → F' x = 0) ∧
        (∀ (i : Nat) q (j : Nat) d v, rows'[i]? = some q → q[j]? = some d → c'[i * sz + j]? = some v → RD g.F w d v) ∧ GV { g with F := F' } (up h k (some (.row sz (rows'.map (·.map .d)) vec))) w' r v) (n : Nat) :
    AC P f args h n fun x hh nn => x = r ∧ hh = up h k (some (.row sz (rows'.map (·.map .d)) vec)) ∧ nn = n := by
  intro g w vs hr hn' hg
  have hob := hr.obj k _ hk
  cases hob with
  | nilvec _ hs => exact absurd rfl h0
  | row _ _ _ b c t hs hb hF hr0 hc hv ho hx =>
    refine (H g w vs b c t hr hg hs hb hc hv hx hF).mono fun e w' ⟨v, c', F', e1, hp, hb', hsz, f1, f2, hd, hgv⟩ => ?_
    have hlt : b < w.heap.size := (Array.getElem?_eq_some_iff.1 hb).1
    let w1 : World := { w with heap := w.heap.setIfInBounds b (.cells c' t (0, 0)) }
    have z1 : w1.heap.size = w.heap.size := by simp [w1]
    have hb1 : w1.heap[b]? = some (.cells c' t (0, 0)) := by simp [w1, Array.getElem?_setIfInBounds, hlt]
    have ha : At w w1 b := ⟨rfl, rfl, rfl, z1, fun x hx => by simp [w1, Array.getElem?_setIfInBounds, Ne.symm hx]⟩
    have hnt : ∀ n, h k ≠ some (.tok n) := fun n e => by rw [hk] at e; cases e
    have he1 : Ext g h w g (up h k (some (.row sz (rows'.map (·.map .d)) vec))) w1 :=
      ext_own hr hs (by rw [hk]; simp) hnt hb hF ha hb1 hsz _ (fun j hj => up_ne _ _ _ hj) (fun n e => by rw [up_same] at e; cases e)
    have hrl := rel_own hr hs hk (fun n e => by cases e) (o' := .row sz (rows'.map (·.map .d)) vec) (fun n e => by cases e) ha he1
      (.row sz _ vec b c' t hs hb1 hF (fun q hq => by obtain ⟨q', h1, rfl⟩ := List.mem_map.1 hq; rw [List.length_map]; exact hl q' h1)
        (by rw [List.length_map, hn, hsz]; exact hc) (fun e => by rw [List.length_map, hn, hsz]; exact hv e)
        (fun q hq x hx => by obtain ⟨q', h1, rfl⟩ := List.mem_map.1 hq; obtain ⟨d, _, rfl⟩ := List.mem_map.1 hx; rfl)
        (fun i q j x v a1 a2 a3 => by
          rw [List.getElem?_map] at a1
          cases hq : rows'[i]? with
          | none => rw [hq] at a1; cases a1
          | some q' =>
            rw [hq] at a1
            cases a1
            rw [List.getElem?_map] at a2
            cases hq2 : q'[j]? with
            | none => rw [hq2] at a2; cases a2
            | some d =>
              rw [hq2] at a2
              cases a2
              exact .d d v ((hd i q' j d v hq hq2 a3).stay he1.stays)))
    have hbl : Below w1.heap.size w1 w' := ⟨hp.os, hp.tape, hp.output, by rw [z1]; exact hp.size, fun x hx => by
      rw [z1] at hx
      by_cases e : x = b
      · subst e; rw [hb', hb1]
      · rw [hp.far x hx e]; simp [w1, Array.getElem?_setIfInBounds, Ne.symm e]⟩
    obtain ⟨k1, k2⟩ := hrl.below hbl (F' := F') (fun x hx => f1 x (by rw [z1] at hx; exact hx)) f2
    exact ⟨v, r, _, n, { g with F := F' }, e1, ⟨rfl, rfl, rfl⟩, hgv, k1, hn', he1.trans k2⟩
end Go.Abs
namespace Go.Abs
open Go.RowKit Go.Proofs
set_option maxRecDepth 100000
def cA : List Nat := [60, 100, 105, 118, 62, 60, 112, 32, 115, 116, 121, 108, 101, 61, 34]
def cM : List Nat := [34, 62, 60, 47, 112, 62, 60, 112, 32, 115, 116, 121, 108, 101, 61, 34]
def cZ : List Nat := [34, 62, 60, 47, 112, 62, 60, 47, 100, 105, 118, 62]
def cO : List Nat := [60, 100, 105, 118, 62, 60, 47, 100, 105, 118, 62]
noncomputable def pce (n m : Nat) : List Nat := Nat.rec cO (fun _ _ => Bool.rec (Bool.rec cM cZ (Nat.beq m n)) cA (Nat.beq m 0)) n
noncomputable def posE (e : Ex) : Option (Nat × Nat) := match e with
  | .add (.fn 5 m []) (.c (.ofNat j)) => some (m, j)
  | _ => none
noncomputable def posD (d : D) : Option (Nat × Nat) := match d with
  | .i .i64 (.ofNat j) => some (0, j)
  | .x .i64 e _ _ => posE e
  | _ => none
def atX (m j : Nat) : Ex := .add (.fn 5 m []) (.c (Int.ofNat j))
def atD (m j : Nat) : D := .x .i64 (atX m j) 0 1000000
def rowC (m j : Nat) : List (List D) := [[.o 50, atD m j]]
noncomputable def okR (c : Nat) : V := .tu [.d (.i .i32 (Int.ofNat c)), .d (.b true)]
def noR : V := .tu [.d (.i .i32 0), .d (.b false)]
noncomputable def runeT (n m j : Nat) : Option V := Option.rec (Bool.rec none (Bool.rec none (some noR) (Nat.ble j 1000)) (Nat.beq m n)) (fun c => some (okR c)) (nth (pce n m) j)
noncomputable def curO (n : Nat) (o : Option AObj) : Option (Nat × Nat) := match o with
  | some (.row 2 [[.d (.o 50), .d a]] false) => ob (posD a) fun p => Bool.rec none (some p) (Nat.ble p.1 n)
  | _ => none
noncomputable def setN (h : HL) (k : Nat) (o : AObj) : HL := List.rec [] (fun p _ ih => Bool.rec (p :: ih) ((k, o) :: ih) (Nat.beq p.1 k)) h
def curA (m j : Nat) : AObj := .row 2 ((rowC m j).map (·.map .d)) false
noncomputable def putC (h : HL) (k m j : Nat) : HL := setN h k (curA m j)
noncomputable def spPeek (n : Nat) (args : List V) (h : HL) : Option (V × HL) := match args with
  | [.p k 0 0, .d (.i .i64 (.ofNat i))] => ob (curO n (lko h k)) fun p => ob (runeT n p.1 (Nat.add p.2 i)) fun r => some (r, h)
  | _ => none
noncomputable def spNext (n : Nat) (args : List V) (h : HL) : Option (V × HL) := match args with
  | [.p k 0 0] => ob (curO n (lko h k)) fun p => ob (nth (pce n p.1) p.2) fun c => some (okR c, putC h k p.1 (Nat.succ p.2))
  | _ => none
noncomputable def spLeft (n : Nat) (args : List V) (h : HL) : Option (V × HL) := match args with
  | [.p k 0 0] => ob (curO n (lko h k)) fun p => Bool.rec (Bool.rec none (some (.d (iN 0), h)) (Bool.rec false (Nat.beq p.2 (lenL (pce n p.1))) (Nat.beq p.1 n))) (some (.d (.x .i64 (.sub (.fn 6 0 []) (atX p.1 p.2)) 1 1000000), h)) (Nat.blt p.2 (lenL (pce n p.1)))
  | _ => none
noncomputable def spVal (n : Nat) (args : List V) (h : HL) : Option (V × HL) := match args with
  | [.p x 0 0] => match lko h x with
    | some (.row 2 [[.p k 0 0, _]] false) => ob (curO n (lko h k)) fun p => ob (nth (pce n p.1) p.2) fun q => ob (nth (pce n (Nat.succ p.1)) 0) fun q' => Bool.rec none (Bool.rec none (Bool.rec none (Bool.rec none (some (.tu [.d (.o (Nat.succ p.1)), .d (.b true)], putC h k (Nat.succ p.1) 1)) (Nat.beq (Nat.succ p.2) (lenL (pce n p.1)))) (Nat.blt p.1 n)) (Nat.beq q' 34)) (Nat.beq q 34)
    | _ => none
  | _ => none
noncomputable def spUne (n : Nat) (args : List V) (h : HL) : Option (V × HL) := match args with
  | [.d (.o i)] => Bool.rec none (Bool.rec none (some (.d (.o i), h)) (Nat.ble i n)) (Nat.ble 1 i)
  | _ => none
end Go.Abs
namespace Go.Abs
open Go.RowKit Go.Proofs
set_option maxRecDepth 100000
noncomputable def x_app (tab : Tab) (c : Call) (ev : Operand → Option V) (n : Nat) : Option Out := match c with
  | { callee := .builtin .append, args := ⟨[a, x]⟩, argTypes := ⟨[t, tx]⟩ } => match tab t with
    | some ⟨.sl e, _, _, _⟩ => Bool.rec none (ob (tab e) fun te => Bool.rec none (Bool.rec none (ob (ev a) fun va => ob (ev x) fun vx => match va, vx with
      | .d .z, .d (.o 50) => some ⟨.d (.o 50), [(n, none)], n + 1⟩
      | _, _ => none) (Nat.ble te.bytes 8)) (Nat.beq te.size 1)) (isSl tab tx)
    | _ => none
  | _ => none
noncomputable def x_runes (tab : Tab) (s d : TypeId) (x : Operand) (ev : Operand → Option V) (n : Nat) : Option Out := match tab s, tab d with
  | some ⟨.str, _, _, _⟩, some ⟨.sl e, _, _, _⟩ => match tab e with
    | some ⟨.int .i32, 1, _, _⟩ => ob (ev x) fun v => match v with
      | .d (.o i) => Bool.rec none (Bool.rec none (some ⟨.d (.o (Nat.add i 100)), [(n, none)], n + 1⟩) (Nat.ble i 20)) (Nat.ble 1 i)
      | _ => none
    | _ => none
  | _, _ => none
noncomputable def extO (tab : Tab) (op : Op) (ev : Operand → Option V) (h : Heap) (n : Nat) : Option Out := Option.rec (extF tab op ev h n) (fun o => some o) (match op with
  | .call c => x_app tab c ev n
  | .convert s d x => x_runes tab s d x ev n
  | _ => none)
variable [Val]
theorem Step.data {P : Program} {g : Gh} {h : Heap} {w : World} {n k e sz i : Nat} {rows : List (List D)} {r : Result Next} (hd : Val.d i = .l sz rows) (hs : Step P g h w n ⟨.t k e sz rows, [(n, some (.tok e))], n + 1⟩ r) :
    Step P g h w n ⟨.d (.o i), [(n, none)], n + 1⟩ r := by
  obtain ⟨v, w', g', h1, h2, h3, h4, h5⟩ := hs
  have hx : RD g'.F w' (.l sz rows) v := by
    have h2 : GV g' (up h n (some (.tok e))) w' (.t k e sz rows) v := h2
    cases h2; assumption
  have e1 : up (up h n (some (.tok e))) n none = up h n none := by
    funext j
    by_cases e1 : j = n
    · subst e1; rw [up_same, up_same]
    · rw [up_ne _ _ _ e1, up_ne _ _ _ e1, up_ne _ _ _ e1]
  have h3 : Rel g' (up h n (some (.tok e))) w' := h3
  have h4 : Ext g h w g' (up h n (some (.tok e))) w' := h4
  have h6 := rel_drop h3 n
  have h7 := h4.trans (ext_drop (g := g') (h := up h n (some (.tok e))) w' n)
  rw [e1] at h6 h7
  refine ⟨v, w', g', h1, .d _ _ (.o _ _ ?_), h6, h7, h5⟩
  rw [hd]; exact hx
noncomputable def evO (i : Nat) (ev : Operand → Option V) (o : Operand) : Option V := match ev o with
  | some (.d (.o j)) => if j = i then some (.d (Val.d i)) else some (.d (.o j))
  | r => r
theorem evO_ok {g : Gh} {h : Heap} {w : World} {i : Nat} {ev : Operand → Option V} {ρ : Operand → Value} (he : ∀ o x, ev o = some x → GV g h w x (ρ o)) : ∀ o x, evO i ev o = some x → GV g h w x (ρ o) := by
  intro o x hx
  unfold evO at hx
  split at hx
  · next j hj =>
    split at hx
    · next e =>
      cases hx
      subst e
      exact .d _ _ (rd_o (he o _ hj).d_inv)
    · cases hx; exact he o _ hj
  · exact he o x hx
theorem evO_at {i : Nat} {ev : Operand → Option V} {o : Operand} (h : ev o = some (.d (.o i))) : evO i ev o = some (.d (Val.d i)) := by
  unfold evO; rw [h]; simp
theorem evO_z {i : Nat} {ev : Operand → Option V} {o : Operand} (h : ev o = some (.d .z)) : evO i ev o = some (.d .z) := by
  unfold evO; rw [h]
theorem x_app_ok {P : Program} {tab : Tab} (htab : TabOk P tab) {rows : List (List D)} (hv : Val.d 50 = .l 1 rows) (hlen : rows.length ≤ 1000000) {c : Call} {ev : Operand → Option V} {h : Heap} {n : Nat} {out : Out} (hs : x_app tab c ev n = some out) : OpOk P (.call c) ev h n out := by
  intro ev' h' h1 h2 g w ρ hr he hq hq1 o ho
  unfold x_app at hs
  split at hs
  · next a x t tx =>
    split at hs
    · next e _ _ _ ht =>
      obtain ⟨a1, hs⟩ := brec_ok' hs
      obtain ⟨te, a2, hs⟩ := ob_eq hs
      obtain ⟨a3, hs⟩ := brec_ok' hs
      obtain ⟨a4, hs⟩ := brec_ok' hs
      obtain ⟨va, a5, hs⟩ := ob_eq hs
      obtain ⟨vx, a6, hs⟩ := ob_eq hs
      split at hs
      · cases hs
        have a3 := Nat.eq_of_beq_eq_true a3
        have a4 := Nat.le_of_ble_eq_true a4
        have b1 : ev' a = some (.d .z) := (h1 a (by simp [Op.operands, Call.operands])).trans a5
        have b2 : ev' x = some (.d (.o 50)) := (h1 x (by simp [Op.operands, Call.operands])).trans a6
        have hf : fits rows.length te.bytes := by
          unfold fits
          calc rows.length * (te.bytes + 1) ≤ 1000000 * 9 := Nat.mul_le_mul hlen (by omega)
            _ ≤ _ := by omega
        have hst : astep tab (evO 50 ev') h' n false o.op = some ⟨.t n rows.length 1 rows, [(n, some (.tok rows.length))], n + 1⟩ := by
          rw [ho]
          show ((evO 50 ev' a).bind fun a => (evO 50 ev' x).bind fun x => appendV tab h' n false t tx a x) = _
          rw [evO_z b1, evO_at b2, hv]
          show appendV tab h' n false t tx (.d .z) (.d (.l 1 rows)) = _
          unfold appendV
          rw [ht]
          simp only [a1, if_true, a2, Option.bind_some, cond_false, rowsD, a3, if_pos hf]
        exact (astep_sound htab hr (evO_ok he) hq hq1 hst).data hv
      · cases hs
    · cases hs
  · cases hs
structure Txt (i : Nat) : Prop where
  s : ∃ l, Val.d i = .s l ∧ ∃ rows, runesV l = some rows ∧ Val.d (i + 100) = .l 1 rows
theorem x_runes_ok {P : Program} {tab : Tab} (htab : TabOk P tab) (ht : ∀ i, 1 ≤ i → i ≤ 20 → Txt i) {s d : TypeId} {x : Operand} {ev : Operand → Option V} {h : Heap} {n : Nat} {out : Out} (hs : x_runes tab s d x ev n = some out) : OpOk P (.convert s d x) ev h n out := by
  intro ev' h' h1 h2 g w ρ hr he hq hq1 o ho
  unfold x_runes at hs
  split at hs
  · next _ _ _ e _ _ _ hts htd =>
    split at hs
    · next _ _ hte =>
      obtain ⟨v, a1, hs⟩ := ob_eq hs
      split at hs
      · next i =>
        obtain ⟨a2, hs⟩ := brec_ok' hs
        obtain ⟨a3, hs⟩ := brec_ok' hs
        cases hs
        obtain ⟨l, c1, rows, c2, c3⟩ := (ht i (Nat.le_of_ble_eq_true a2) (Nat.le_of_ble_eq_true a3)).s
        have b1 : ev' x = some (.d (.o i)) := (h1 x (by simp [Op.operands])).trans a1
        have hst : astep tab (evO i ev') h' n false o.op = some ⟨.t n rows.length 1 rows, [(n, some (.tok rows.length))], n + 1⟩ := by
          rw [ho]
          show ((evO i ev' x).bind fun x => match convV tab s d x with
            | some y => some (pureO n y)
            | none => convL tab h' n s d x) = _
          rw [evO_at b1, c1]
          have e1 : convV tab s d (.d (.s l)) = none := by unfold convV; rw [hts, htd]
          have e2 : convL tab h' n s d (.d (.s l)) = some ⟨.t n rows.length 1 rows, [(n, some (.tok rows.length))], n + 1⟩ := by
            unfold convL; rw [hts, htd]; simp only; rw [hte]; simp only; rw [c2]
          simp only [Option.bind_some, e1, e2]
        exact (astep_sound htab hr (evO_ok he) hq hq1 hst).data c3
      · cases hs
    · cases hs
  · cases hs
end Go.Abs
