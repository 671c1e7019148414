/-
  the cursor in the words of the machine; what is laid out and painted.
-/
import Derived.Test.YtkkiefcapbddkaaGreatDoorLayF
import Derived.Test.YtkkiefcapbddkaaGreatDoorLayG
import Derived.Test.YtkkiefcapbddkaaGreatDoorAbH
set_option linter.all false
namespace Go.Abs
open Go.RowKit Go.Proofs Go.Proofs.YtkkiefcapbddkaaGreatDoor Mem
set_option maxRecDepth 100000
structure Cuts [Val] (n : Nat) (R : List Nat) (P : Nat → Nat) : Prop where
  d50 : Val.d 50 = .l 1 (R.map fun c => [.i .i32 (Int.ofNat c)])
  pos : ∀ m, m ≤ n → (Val.f 5 m [] : Int) = (P m : Int)
  p0 : P 0 = 0
  tot : (Val.f 6 0 [] : Int) = (R.length : Int)
  len : R.length ≤ 60000
  chunk : ∀ m j c, m ≤ n → (pce n m)[j]? = some c → R[P m + j]? = some c
  fin : R.length = P n + (pce n n).length
  ne : 0 < R.length
  own : ∀ m, m < n → ∃ s : List Nat, 0 < s.length ∧ Val.d (m + 1) = .s (kB s) ∧ (∀ u ∈ s, u < 128 ∧ u ≠ 34 ∧ u ≠ 38) ∧ P (m + 1) = P m + (pce n m).length + s.length ∧ ∀ i, i < s.length → R[P m + (pce n m).length + i]? = s[i]?
def toI (R : List Nat) : List Int := R.map Int.ofNat
theorem toI_len (R : List Nat) : (toI R).length = R.length := by simp [toI]
theorem toI_get {R : List Nat} {i c : Nat} (h : R[i]? = some c) : (toI R)[i]? = some (Int.ofNat c) := by simp [toI, h]
variable [Val]
theorem setN_eq {h : HL} {k : Nat} {o o' : AObj} (hk : lko h k = some o) : lko (setN h k o') = up (lko h) k (some o') := by
  funext j
  induction h with
  | nil => cases hk
  | cons p h ih =>
    have e : setN (p :: h) k o' = Bool.rec (p :: setN h k o') ((k, o') :: setN h k o') (Nat.beq p.1 k) := rfl
    have hnot : ∀ (h : HL) j, lko (setN h k o') j = if j = k then (lko h k).map (fun _ => o') else lko h j := by
      intro h j
      induction h with
      | nil => show none = _; split <;> rfl
      | cons q h ih =>
        have e : setN (q :: h) k o' = Bool.rec (q :: setN h k o') ((k, o') :: setN h k o') (Nat.beq q.1 k) := rfl
        rw [e]
        cases hb : Nat.beq q.1 k with
        | true =>
          have hq := Nat.eq_of_beq_eq_true hb
          show lko ((k, o') :: setN h k o') j = _
          rw [lko_cons, lko_cons, ih]
          by_cases e1 : j = k
          · subst e1; simp [hq]
          · rw [if_neg e1, if_neg e1, if_neg e1, lko_cons, if_neg (by rw [hq]; exact e1)]
        | false =>
          have hq : q.1 ≠ k := fun e => by rw [e] at hb; simp at hb
          show lko (q :: setN h k o') j = _
          rw [lko_cons, ih, lko_cons, lko_cons]
          by_cases e1 : j = k
          · subst e1; rw [if_neg (Ne.symm hq), if_pos rfl, if_pos rfl, if_neg (Ne.symm hq)]
          · rw [if_neg e1]; by_cases e2 : j = q.1
            · rw [if_pos e2, if_neg e1]
            · rw [if_neg e2, if_neg e1]
    rw [hnot, up_eq, hk]
    rfl
theorem AC.of_belowV {P : Program} {f : FuncId} {args : List V} {h : Heap} {r : V}
    (H : ∀ g w vs, Rel g h w → GL g h w args vs → Calls P f vs.toArray w fun e w' => ∃ v, e = .returned v ∧ Below w.heap.size w w' ∧ ∃ F' : Nat → Nat, (∀ b, b < w.heap.size → F' b = g.F b) ∧ (∀ b, w'.heap.size ≤ b → F' b = 0) ∧ GV { g with F := F' } h w' r v) (n : Nat) :
    AC P f args h n fun x hh nn => x = r ∧ hh = h ∧ nn = n := by
  intro g w vs hr hn hg
  refine (H g w vs hr hg).mono fun e w' ⟨v, e1, hb, F', f1, f2, hv⟩ => ?_
  obtain ⟨k1, k2⟩ := hr.below hb f1 f2
  exact ⟨v, r, h, n, { g with F := F' }, e1, ⟨rfl, rfl, rfl⟩, hv, k1, hn, k2⟩
variable {n : Nat} {R : List Nat} {P : Nat → Nat}
theorem posD_val (hC : Cuts n R P) {d : D} {m j : Nat} (hp : posD d = some (m, j)) (hm : m ≤ n) {F : Nat → Nat} {w : World} {v : Value} (h : RD F w d v) : v = .int .i64 ((P m + j : Nat) : Int) := by
  unfold posD at hp
  split at hp
  · cases hp
    cases h
    rw [hC.p0]; simp
  · next e _ _ =>
    unfold posE at hp
    split at hp
    · next m' j' =>
      cases hp
      cases h
      show Value.int .i64 (Val.f 5 m [] + Int.ofNat j) = _
      rw [hC.pos m hm]
      simp
    · cases hp
  · cases hp
theorem curO_eq {n : Nat} {o : Option AObj} {m j : Nat} (h : curO n o = some (m, j)) : ∃ a, o = some (.row 2 [[.d (.o 50), .d a]] false) ∧ posD a = some (m, j) ∧ m ≤ n := by
  unfold curO at h
  split at h
  · next a =>
    obtain ⟨p, h1, h⟩ := ob_eq h
    obtain ⟨h2, h⟩ := brec_ok' h
    cases h
    exact ⟨a, rfl, h1, Nat.le_of_ble_eq_true h2⟩
  · cases h
theorem cur_cells (hC : Cuts n R P) {g : Gh} {h : Heap} {w : World} {a : D} {m j : Nat} (hp : posD a = some (m, j)) (hm : m ≤ n) {b : Nat} {c : Array Value} {t : TypeId} (hb : w.heap[b]? = some (.cells c t (0, 0))) (hF : g.F b = 0) (hsz : c.size = 2)
    (hx : ∀ (i : Nat) q (j : Nat) x v, [[V.d (.o 50), V.d a]][i]? = some q → q[j]? = some x → c[i * 2 + j]? = some v → GV g h w x v) :
    ∃ s o cap, CurAt w b t s o (toI R) cap (P m + j) ∧ c = #[.slice (some ⟨s, o, none⟩) (toI R).length cap, .int .i64 ((P m + j : Nat) : Int)] ∧ RD g.F w (.o 50) (.slice (some ⟨s, o, none⟩) (toI R).length cap) := by
  have h0 := (hx 0 _ 0 _ c[0] rfl rfl (Array.getElem?_eq_getElem (by omega))).d_inv
  have h1 := (hx 0 _ 1 _ c[1] rfl rfl (Array.getElem?_eq_getElem (by omega))).d_inv
  have e1 := posD_val hC hp hm h1
  have h0' := rd_o h0
  rw [hC.d50] at h0'
  obtain ⟨sv, hsv⟩ : ∃ sv, c[0] = sv := ⟨_, rfl⟩
  rw [hsv] at h0 h0'
  have hne := hC.ne
  obtain ⟨rows, hrows⟩ : ∃ rows, (R.map fun c => [D.i .i32 (Int.ofNat c)]) = rows := ⟨_, rfl⟩
  rw [hrows] at h0'
  have hlen : rows.length = R.length := by rw [← hrows]; simp
  cases h0' with
  | lz => simp at hlen; omega
  | l _ _ s o cap cs ts fz hbs hf hs hc hn hr hcell =>
    refine ⟨s, o, cap, ⟨?_, ⟨fun i x hi => ?_⟩, ?_, (Array.getElem?_eq_some_iff.1 hbs).1⟩, ?_, ?_⟩
    · unfold Blk
      rw [hb]
      congr 2
      apply Array.ext'
      rw [toI_len, ← hlen, ← hsv, ← e1]
      apply List.ext_getElem?
      intro i
      match i with
      | 0 => rw [Array.getElem?_toList, Array.getElem?_eq_getElem (by omega)]; rfl
      | 1 => rw [Array.getElem?_toList, Array.getElem?_eq_getElem (by omega)]; rfl
      | i + 2 => rw [List.getElem?_eq_none (by simp; omega), List.getElem?_eq_none (by simp)]
    · rw [cell_of_row w s _ cs ts fz hbs]
      unfold toI at hi
      rw [List.getElem?_map] at hi
      cases hq : R[i]? with
      | none => rw [hq] at hi; cases hi
      | some u =>
        rw [hq] at hi
        cases hi
        have hil := (List.getElem?_eq_some_iff.1 hq).1
        have hlt : o + i * 1 + 0 < cs.size := by omega
        have := hcell i [.i .i32 (Int.ofNat u)] 0 _ cs[o + i * 1 + 0] (by rw [← hrows, List.getElem?_map, hq]; rfl) rfl (Array.getElem?_eq_getElem hlt)
        have e : o + i * 1 + 0 = o + i := by omega
        rw [← e, Array.getElem?_eq_getElem hlt]
        obtain ⟨cv, hcv⟩ : ∃ cv, cs[o + i * 1 + 0] = cv := ⟨_, rfl⟩
        rw [hcv] at this ⊢
        cases this
        rfl
    · intro e
      subst e
      omega
    · apply Array.ext'
      rw [toI_len, ← hlen, ← hsv, ← e1]
      apply List.ext_getElem?
      intro i
      match i with
      | 0 => rw [Array.getElem?_toList, Array.getElem?_eq_getElem (by omega)]; rfl
      | 1 => rw [Array.getElem?_toList, Array.getElem?_eq_getElem (by omega)]; rfl
      | i + 2 => rw [List.getElem?_eq_none (by simp; omega), List.getElem?_eq_none (by simp)]
    · rw [toI_len, ← hlen]; exact h0
end Go.Abs
namespace Go.Abs
open Go.RowKit Go.Proofs Go.Proofs.YtkkiefcapbddkaaGreatDoor Mem
set_option maxRecDepth 100000
variable [Val] {n : Nat} {R : List Nat} {P : Nat → Nat}
theorem GL.one {g : Gh} {h : Heap} {w : World} {x : V} {vs : List Value} (hg : GL g h w [x] vs) : ∃ a, vs = [a] ∧ GV g h w x a := by
  have hl := hg.len
  match vs, hl with
  | [a], _ => exact ⟨a, rfl, hg.at_ 0 _ _ rfl rfl⟩
theorem gv_pair {g : Gh} {h : Heap} {w : World} {x y : D} {a b : Value} (h1 : RD g.F w x a) (h2 : RD g.F w y b) : GV g h w (.tu [.d x, .d y]) (.tuple #[a, b]) := by
  refine GV.tu (g := g) (h := h) (w := w) [.d x, .d y] [a, b] rfl fun i z v e1 e2 => ?_
  match i, e1, e2 with
  | 0, e1, e2 => cases e1; cases e2; exact .d _ _ h1
  | 1, e1, e2 => cases e1; cases e2; exact .d _ _ h2
  | i + 2, e1, e2 => simp at e1
theorem row_cur (hC : Cuts n R P) {g : Gh} {h : Heap} {w : World} (hr : Rel g h w) {k : Nat} {a : D} {m j : Nat} (hk : h k = some (.row 2 [[.d (.o 50), .d a]] false)) (hp : posD a = some (m, j)) (hm : m ≤ n) {v : Value} (hv : GV g h w (.p k 0 0) v) :
    ∃ b t s o cap, v = .pointer (some ⟨b, 0, none⟩) ∧ g.σ k = some (b, 2) ∧ CurAt w b t s o (toI R) cap (P m + j) ∧ g.F b = 0 ∧ RD g.F w (.o 50) (.slice (some ⟨s, o, none⟩) (toI R).length cap) := by
  obtain ⟨_, b, sz, hs, rfl⟩ := hv.p_inv
  have hob := hr.obj k _ hk
  cases hob with
  | row _ _ _ b' c t hs' hb hF hr0 hc hv' ho hx =>
    rw [hs] at hs'
    cases hs'
    obtain ⟨s, o, cap, h1, h2, h3⟩ := cur_cells hC hp hm hb hF (by have := hv' rfl; simpa using this) hx
    exact ⟨b, t, s, o, cap, by simp, hs, h1, hF, h3⟩
theorem toI_bound (hC : Cuts n R P) : (toI R).length ≤ 1000000 := by rw [toI_len]; have := hC.len; omega
theorem spPeek_ok (hC : Cuts n R P) {args : List V} {h : HL} {r : V × HL} (hs : spPeek n args h = some r) : CallOk Tryz.prog 78 ∧ ∀ m, AC Tryz.prog 78 args (lko h) m fun x hh nn => x = r.1 ∧ hh = lko r.2 ∧ nn = m := by
  refine ⟨fun args w => rfl, ?_⟩
  unfold spPeek at hs
  split at hs
  · next k i =>
    obtain ⟨⟨m, j⟩, h1, hs⟩ := ob_eq hs
    obtain ⟨r', h2, hs⟩ := ob_eq hs
    cases hs
    obtain ⟨a, h3, h4, h5⟩ := curO_eq h1
    refine AC.of_belowV fun g w vs hr hg => ?_
    obtain ⟨x, y, rfl, g1, g2⟩ := hg.two
    have g2 := g2.d_inv
    cases g2
    obtain ⟨b, t, s, o, cap, rfl, hσ, hcur, hF, hrd⟩ := row_cur hC hr h3 h4 h5 g1
    have h2 : (Option.rec (Bool.rec none (Bool.rec none (some noR) (Nat.ble (j + i) 1000)) (Nat.beq m n)) (fun c => some (okR c)) (nth (pce n m) (j + i)) : Option V) = some r' := h2
    rw [nth_eq] at h2
    cases hq : (pce n m)[j + i]? with
    | some c =>
      rw [hq] at h2
      cases h2
      have hRc := toI_get (hC.chunk m (j + i) c h5 hq)
      rw [← Nat.add_assoc] at hRc
      refine (peek_walk hcur (toI_bound hC) hRc).mono fun e w' ⟨e1, hd⟩ => ⟨_, e1, hd.below _, g.F, fun _ _ => rfl, fun b hb => hr.fresh b (by rw [hd.heap] at hb; exact hb), ?_⟩
      exact gv_pair (.i _ _) (.b _)
    | none =>
      rw [hq] at h2
      obtain ⟨h6, h7⟩ := brec_ok' h2
      obtain ⟨h8, h7⟩ := brec_ok' h7
      have h8 := Nat.le_of_ble_eq_true h8
      cases h7
      have h6 := Nat.eq_of_beq_eq_true h6
      subst h6
      have hj : (pce m m).length ≤ j + i := by
        rcases Nat.lt_or_ge (j + i) (pce m m).length with hlt | hge
        · rw [List.getElem?_eq_getElem hlt] at hq; cases hq
        · exact hge
      have hfin := hC.fin
      refine (peek_end hcur (toI_bound hC) (k := i) (by have := hC.len; omega) (by rw [toI_len]; omega)).mono fun e w' ⟨e1, hd⟩ => ⟨_, e1, hd.below _, g.F, fun _ _ => rfl, fun b hb => hr.fresh b (by rw [hd.heap] at hb; exact hb), ?_⟩
      exact gv_pair (.i _ _) (.b _)
  · cases hs
theorem spLeft_ok (hC : Cuts n R P) {args : List V} {h : HL} {r : V × HL} (hs : spLeft n args h = some r) : CallOk Tryz.prog 34 ∧ ∀ m, AC Tryz.prog 34 args (lko h) m fun x hh nn => x = r.1 ∧ hh = lko r.2 ∧ nn = m := by
  refine ⟨fun args w => rfl, ?_⟩
  unfold spLeft at hs
  split at hs
  · next k =>
    obtain ⟨⟨m, j⟩, h1, hs⟩ := ob_eq hs
    obtain ⟨a, h3, h4, h5⟩ := curO_eq h1
    have hs : (Bool.rec (Bool.rec none (some (.d (iN 0), h)) (Bool.rec false (Nat.beq j (lenL (pce n m))) (Nat.beq m n))) (some (.d (.x .i64 (.sub (.fn 6 0 []) (atX m j)) 1 1000000), h)) (Nat.blt j (lenL (pce n m))) : Option (V × HL)) = some r := hs
    have hlen := hC.len
    cases hb : Nat.blt j (lenL (pce n m)) with
    | true =>
      rw [hb] at hs
      cases hs
      rw [lenL_eq] at hb
      have hb : j < (pce n m).length := by simpa using hb
      obtain ⟨c, hc⟩ : ∃ c, (pce n m)[j]? = some c := ⟨_, List.getElem?_eq_getElem hb⟩
      have hlt := (List.getElem?_eq_some_iff.1 (hC.chunk m j c h5 hc)).1
      refine AC.of_belowV fun g w vs hr hg => ?_
      obtain ⟨x, rfl, g1⟩ := hg.one
      obtain ⟨b, t, s, o, cap, rfl, hσ, hcur, hF, hrd⟩ := row_cur hC hr h3 h4 h5 g1
      refine (left_walk hcur (toI_bound hC) (by omega)).mono fun e w' ⟨e1, hd⟩ => ⟨_, e1, hd.below _, g.F, fun _ _ => rfl, fun b hb => hr.fresh b (by rw [hd.heap] at hb; exact hb), ?_⟩
      have hv : (Ex.sub (.fn 6 0 []) (atX m j)).val = ((toI R).length : Int) - ((P m + j : Nat) : Int) := by
        show Val.f 6 0 [] - (Val.f 5 m [] + Int.ofNat j) = _
        rw [hC.tot, hC.pos m h5, toI_len]
        simp
      rw [← hv]
      refine .d _ _ (.x _ _ _ _ ?_ ?_)
      · rw [hv, toI_len]; omega
      · rw [hv, toI_len]; omega
    | false =>
      rw [hb] at hs
      obtain ⟨h6, hs⟩ := brec_ok' (show (Bool.rec none (some (.d (iN 0), h)) (Bool.rec false (Nat.beq j (lenL (pce n m))) (Nat.beq m n)) : Option (V × HL)) = some r from hs)
      cases hs
      obtain ⟨h6, h7⟩ := brec_ok h6
      have h6 := Nat.eq_of_beq_eq_true h6
      have h7 := Nat.eq_of_beq_eq_true h7
      subst h6
      rw [lenL_eq] at h7
      have hfin := hC.fin
      refine AC.of_belowV fun g w vs hr hg => ?_
      obtain ⟨x, rfl, g1⟩ := hg.one
      obtain ⟨b, t, s, o, cap, rfl, hσ, hcur, hF, hrd⟩ := row_cur hC hr h3 h4 h5 g1
      refine (left_walk hcur (toI_bound hC) (by omega)).mono fun e w' ⟨e1, hd⟩ => ⟨_, e1, hd.below _, g.F, fun _ _ => rfl, fun b hb => hr.fresh b (by rw [hd.heap] at hb; exact hb), ?_⟩
      rw [show ((toI R).length : Int) - ((P m + j : Nat) : Int) = 0 by rw [toI_len]; omega]
      exact .d _ _ (.i _ _)
  · cases hs
theorem atX_val (hC : Cuts n R P) {m j : Nat} (hm : m ≤ n) : (atX m j).val = ((P m + j : Nat) : Int) := by
  show Val.f 5 m [] + Int.ofNat j = _
  rw [hC.pos m hm]
  simp
theorem cur_put (hC : Cuts n R P) {f : FuncId} {args : List V} {h : HL} {k : Nat} {a : D} {m j m' j' : Nat} {r : V} (hk : lko h k = some (.row 2 [[.d (.o 50), .d a]] false)) (hp : posD a = some (m, j)) (hm : m ≤ n) (hm' : m' ≤ n) (hj' : P m' + j' ≤ 1000000)
    (H : ∀ g w vs b t s o cap, Rel g (lko h) w → GL g (lko h) w args vs → g.σ k = some (b, 2) → CurAt w b t s o (toI R) cap (P m + j) →
      Calls Tryz.prog f vs.toArray w fun e w' => ∃ v, e = .returned v ∧ CurMove w w' b t s o (toI R) cap (P m' + j') ∧ ∀ g h, GV g h w' r v) :
    ∀ q, AC Tryz.prog f args (lko h) q fun x hh nn => x = r ∧ hh = lko (putC h k m' j') ∧ nn = q := by
  intro q
  have e : lko (putC h k m' j') = up (lko h) k (some (curA m' j')) := setN_eq hk
  rw [e]
  refine AC.of_put (rows' := rowC m' j') hk rfl (fun q hq => by rw [List.mem_singleton.1 hq]; rfl) (by simp) (fun g w vs b c t hr hg hs hb hc hv hx hF => ?_) q
  obtain ⟨s, o, cap, hcur, hce, hrd⟩ := cur_cells hC hp hm hb hF (by have := hv rfl; simpa using this) hx
  refine (H g w vs b t s o cap hr hg hs hcur).mono fun e w' ⟨v, e1, hM, hgv⟩ => ⟨v, _, fun b => if b < w.heap.size then g.F b else 0, e1, hM.put, hM.cur.blk, by rw [hce]; rfl, fun x hx => if_pos hx, fun x hx => if_neg (by have := hM.put.size; omega), fun i q j d v a1 a2 a3 => ?_, hgv _ _⟩
  match i, a1 with
  | 0, a1 =>
    cases a1
    match j, a2 with
    | 0, a2 =>
      cases a2
      cases a3
      exact hrd
    | 1, a2 =>
      cases a2
      have a3 : Value.int .i64 ((P m' + j' : Nat) : Int) = v := by simpa using a3
      rw [← a3, ← atX_val hC hm']
      exact .x _ _ _ _ (by rw [atX_val hC hm']; omega) (by rw [atX_val hC hm']; omega)
    | j + 2, a2 => simp at a2
  | i + 1, a1 => simp [rowC] at a1
theorem spNext_ok (hC : Cuts n R P) {args : List V} {h : HL} {r : V × HL} (hs : spNext n args h = some r) : CallOk Tryz.prog 41 ∧ ∀ m, AC Tryz.prog 41 args (lko h) m fun x hh nn => x = r.1 ∧ hh = lko r.2 ∧ nn = m := by
  refine ⟨fun args w => rfl, ?_⟩
  unfold spNext at hs
  split at hs
  · next k =>
    obtain ⟨⟨m, j⟩, h1, hs⟩ := ob_eq hs
    obtain ⟨c, h2, hs⟩ := ob_eq hs
    cases hs
    obtain ⟨a, h3, h4, h5⟩ := curO_eq h1
    have h2 : nth (pce n m) j = some c := h2
    rw [nth_eq] at h2
    have hRc := hC.chunk m j c h5 h2
    have hlt := (List.getElem?_eq_some_iff.1 hRc).1
    have hlen := hC.len
    refine cur_put hC h3 h4 h5 h5 (by show P m + Nat.succ j ≤ 1000000; omega) fun g w vs b t s o cap hr hg hσ hcur => ?_
    obtain ⟨x, rfl, g1⟩ := hg.one
    obtain ⟨_, b', sz, hs', rfl⟩ := g1.p_inv
    rw [hσ] at hs'
    cases hs'
    simp only [Nat.zero_mul, Nat.add_zero]
    exact (next_walk hcur (toI_bound hC) (toI_get hRc)).mono fun e w' ⟨e1, hM⟩ => ⟨_, e1, hM, fun g h => gv_pair (.i _ _) (.b _)⟩
  · cases hs
theorem encode_one {c : Nat} (h : c < 128) : Utf8.encode (c : Int) = ⟨#[UInt8.ofNat c]⟩ := by
  have hv : Utf8.valid (c : Int) = true := by simp [Utf8.valid]; omega
  simp only [Utf8.encode, hv, if_true, Int.toNat_natCast]
  rw [if_pos (by omega)]
theorem rb_foldl (l : List Int) : ∀ s : ByteArray, l.foldl (fun r n => r ++ Utf8.encode n) s = s ++ runesBytes l := by
  induction l with
  | nil => intro s; rw [show runesBytes [] = ByteArray.empty from rfl, ByteArray.append_empty]; rfl
  | cons r l ih =>
    intro s
    have h1 := ih (Utf8.encode r)
    rw [List.foldl_cons, ih]
    show _ = s ++ List.foldl (fun r n => r ++ Utf8.encode n) ByteArray.empty (r :: l)
    rw [List.foldl_cons, ByteArray.empty_append, h1, ByteArray.append_assoc]
theorem rb_cons (r : Int) (l : List Int) : runesBytes (r :: l) = Utf8.encode r ++ runesBytes l := by
  have := rb_foldl l (ByteArray.empty ++ Utf8.encode r)
  rw [ByteArray.empty_append] at this
  rw [← this]
  unfold runesBytes
  rw [List.foldl_cons, ByteArray.empty_append]
theorem runesBytes_ascii : ∀ (s : List Nat), (∀ u ∈ s, u < 128) → (runesBytes (s.map Int.ofNat)).data.toList = s.map UInt8.ofNat
  | [], _ => rfl
  | a :: s, h => by
    have ih := runesBytes_ascii s fun u hu => h u (List.mem_cons_of_mem _ hu)
    have ha : a < 128 := h a List.mem_cons_self
    rw [List.map_cons, rb_cons, ByteArray.data_append, Array.toList_append, ih, show (Int.ofNat a) = (a : Int) from rfl, encode_one ha]
    rfl
theorem sr_kB (s : List Nat) (h : ∀ u ∈ s, u < 128) : SR (kB s) (s.map UInt8.ofNat) :=
  ⟨by simp [kB], fun i x u h1 h2 => by
    unfold kB at h1
    rw [List.getElem?_map] at h1 h2
    cases hq : s[i]? with
    | none => rw [hq] at h1; cases h1
    | some m =>
      rw [hq] at h1 h2
      cases h1; cases h2
      show (UInt8.ofNat m).toNat = m
      have := h m (List.mem_of_getElem? hq)
      simp only [UInt8.toNat_ofNat']
      omega⟩
theorem spVal_ok (hC : Cuts n R P) {args : List V} {h : HL} {r : V × HL} (hs : spVal n args h = some r) : CallOk Tryz.prog 89 ∧ ∀ m, AC Tryz.prog 89 args (lko h) m fun x hh nn => x = r.1 ∧ hh = lko r.2 ∧ nn = m := by
  refine ⟨fun args w => rfl, ?_⟩
  unfold spVal at hs
  split at hs
  · next x =>
    split at hs
    · next k out hx =>
      obtain ⟨⟨m, j⟩, h1, hs⟩ := ob_eq hs
      obtain ⟨a, h3, h4, h5⟩ := curO_eq h1
      obtain ⟨q, h6, hs⟩ := ob_eq hs
      obtain ⟨q', h7, hs⟩ := ob_eq hs
      obtain ⟨h8, hs⟩ := brec_ok' hs
      obtain ⟨h9, hs⟩ := brec_ok' hs
      obtain ⟨h10, hs⟩ := brec_ok' hs
      obtain ⟨h11, hs⟩ := brec_ok' hs
      cases hs
      have h8 := Nat.eq_of_beq_eq_true h8
      have h9 := Nat.eq_of_beq_eq_true h9
      have h10 : m < n := by simpa using h10
      have h11 : j + 1 = lenL (pce n m) := Nat.eq_of_beq_eq_true h11
      rw [lenL_eq] at h11
      subst h8; subst h9
      have h6 : nth (pce n m) j = some 34 := h6
      have h7 : nth (pce n (m + 1)) 0 = some 34 := h7
      rw [nth_eq] at h6 h7
      obtain ⟨s, s1, s2, s3, s4, s5⟩ := hC.own m h10
      have hlen := hC.len
      have hQ := toI_get (hC.chunk m j 34 h5 h6)
      have hZ0 := hC.chunk (m + 1) 0 34 (by omega) h7
      have hZlt := (List.getElem?_eq_some_iff.1 hZ0).1
      have hZ : (toI R)[P m + j + 1 + s.length]? = some 34 := by
        have := toI_get hZ0
        rw [show P (m + 1) + 0 = P m + j + 1 + s.length by omega] at this
        exact this
      have hat : ∀ i, i < s.length → (toI R)[P m + j + 1 + i]? = (s.map Int.ofNat)[i]? := fun i hi => by
        have := s5 i hi
        rw [show P m + (pce n m).length + i = P m + j + 1 + i by omega] at this
        unfold toI
        rw [List.getElem?_map, List.getElem?_map, this]
      have htk : ((toI R).drop (P m + j + 1)).take s.length = s.map Int.ofNat := by
        apply List.ext_getElem?
        intro i
        by_cases hi : i < s.length
        · rw [List.getElem?_take_of_lt hi, List.getElem?_drop, hat i hi]
        · rw [List.getElem?_eq_none (by rw [List.length_take]; omega), List.getElem?_eq_none (by rw [List.length_map]; omega)]
      have hL : ∀ i, i < s.length → ∃ c, (toI R)[P m + j + 1 + i]? = some c ∧ c ≠ 34 := fun i hi => by
        have h34 := s3 s[i] (List.getElem_mem hi)
        refine ⟨Int.ofNat s[i], by rw [hat i hi, List.getElem?_map, List.getElem?_eq_getElem hi]; rfl, ?_⟩
        have := h34.2.1
        intro e
        have e : (Int.ofNat s[i]) = Int.ofNat 34 := e
        injection e with e
        exact this e
      have hxk : x ≠ k := fun e => by
        subst e
        rw [hx] at h3
        cases h3
      refine cur_put hC h3 h4 h5 (m' := m + 1) (j' := 1) (by omega) (by omega) fun g w vs b t so o cap hr hg hσ hcur => ?_
      obtain ⟨xv, rfl, g1⟩ := hg.one
      obtain ⟨_, bx, sx, hsx, rfl⟩ := g1.p_inv
      have hob := hr.obj x _ hx
      have hbx : bx ≠ b := fun e => by
        subst e
        exact hxk (hr.inj x k bx (blk_σ (by rw [hx]; simp) (fun n e => by rw [hx] at e; cases e) hsx) (blk_σ (by rw [h3]; simp) (fun n e => by rw [h3] at e; cases e) hσ))
      cases hob with
      | row _ _ _ b' c tx hs' hb hF hr0 hc hv' ho hxx =>
        rw [hsx] at hs'
        cases hs'
        have hsz : c.size = 2 := by have := hv' rfl; simpa using this
        have g0 := hxx 0 _ 0 _ c[0] rfl rfl (Array.getElem?_eq_getElem (by omega))
        obtain ⟨_, b2, sz2, hs2, e2⟩ := g0.p_inv
        rw [hσ] at hs2
        cases hs2
        have hce : c = #[.pointer (some ⟨b, 0, none⟩), c[1]] := by
          apply Array.ext'
          apply List.ext_getElem?
          intro i
          match i with
          | 0 => rw [Array.getElem?_toList, Array.getElem?_eq_getElem (by omega), e2]; simp
          | 1 => rw [Array.getElem?_toList, Array.getElem?_eq_getElem (by omega)]; rfl
          | i + 2 => rw [List.getElem?_eq_none (by simp; omega), List.getElem?_eq_none (by simp)]
        have hBx : Blk w bx tx #[.pointer (some ⟨b, 0, none⟩), c[1]] := by
          unfold Blk; rw [← hce]; exact hb
        simp only [Nat.zero_mul, Nat.add_zero]
        refine (value_walk hcur (toI_bound hC) hBx hbx s1 hQ hL hZ).mono fun e w' ⟨e1, hM⟩ => ⟨_, e1, ?_, fun g h => gv_pair ?_ (.b _)⟩
        · rw [show P m + j + 1 + s.length + 1 = P (m + 1) + 1 by omega] at hM
          exact hM
        · refine .o _ _ ?_
          rw [s2, htk]
          refine .s _ _ ?_
          rw [runesBytes_ascii s fun u hu => (s3 u hu).1]
          exact sr_kB s fun u hu => (s3 u hu).1
    · cases hs
  · cases hs
theorem spUne_ok (hC : Cuts n R P) {args : List V} {h : HL} {r : V × HL} (hs : spUne n args h = some r) : CallOk Tryz.prog 42 ∧ ∀ m, AC Tryz.prog 42 args (lko h) m fun x hh nn => x = r.1 ∧ hh = lko r.2 ∧ nn = m := by
  refine ⟨fun args w => rfl, ?_⟩
  unfold spUne at hs
  split at hs
  · next i =>
    obtain ⟨h1, hs⟩ := brec_ok' hs
    obtain ⟨h2, hs⟩ := brec_ok' hs
    cases hs
    have h1 := Nat.le_of_ble_eq_true h1
    have h2 := Nat.le_of_ble_eq_true h2
    obtain ⟨m, rfl⟩ : ∃ m, i = m + 1 := ⟨i - 1, by omega⟩
    obtain ⟨s, s1, s2, s3, s4, s5⟩ := hC.own m (by omega)
    refine AC.of_belowV fun g w vs hr hg => ?_
    obtain ⟨x, rfl, g1⟩ := hg.one
    have g1 := g1.d_inv
    have g2 := rd_o g1
    rw [s2] at g2
    cases g2 with
    | s _ b hb =>
      have hlen : b.data.toList.length = s.length := by rw [hb.len]; simp [kB]
      have hch : P (m + 1) ≤ R.length := by
        rcases Nat.lt_or_ge (m + 1) n with hlt | hge
        · have h0 : (pce n (m + 1))[0]? ≠ none := by
            unfold pce
            match n, hlt with
            | n + 1, hlt =>
              show (Bool.rec (Bool.rec cM cZ (Nat.beq (m + 1) (n + 1))) cA (Nat.beq (m + 1) 0) : List Nat)[0]? ≠ none
              rw [show Nat.beq (m + 1) 0 = false from rfl]
              cases Nat.beq (m + 1) (n + 1) <;> simp [cM, cZ]
          cases hq : (pce n (m + 1))[0]? with
          | none => exact absurd hq h0
          | some c =>
            have := (List.getElem?_eq_some_iff.1 (hC.chunk (m + 1) 0 c (by omega) hq)).1
            omega
        · have : m + 1 = n := by omega
          rw [this]
          have := hC.fin
          omega
      have hRl := hC.len
      refine (unesc_walk b (fun u hu => ?_) (fun e => by rw [e] at hlen; simp at hlen; omega) (by have : b.size = b.data.toList.length := rfl; omega) w).mono fun e w' ⟨e1, hb'⟩ => ⟨_, e1, hb', g.F, fun _ _ => rfl, fun b hb => hr.fresh b (by have := hb'.size; omega), ?_⟩
      · obtain ⟨i, hi⟩ := List.getElem?_of_mem hu
        have hil := (List.getElem?_eq_some_iff.1 hi).1
        have hsi : i < s.length := by omega
        have hok := hb.at_ i (.c s[i]) u (by simp [kB, hsi]) hi
        have h38 := (s3 s[i] (List.getElem_mem hsi)).2.2
        have : u.toNat = s[i] := hok
        omega
      · refine .d _ _ (.o _ _ ?_)
        rw [s2]
        exact .s _ _ hb
  · cases hs
end Go.Abs
namespace Go.Abs
open Go.RowKit Go.Proofs
set_option maxRecDepth 100000
noncomputable def spTok (n : Nat) (f : FuncId) (args : List V) (h : HL) : Option (V × HL) :=
  Bool.rec (Bool.rec (Bool.rec (Bool.rec (Bool.rec none (spUne n args h) (Nat.beq f 42)) (spVal n args h) (Nat.beq f 89)) (spLeft n args h) (Nat.beq f 34)) (spNext n args h) (Nat.beq f 41)) (spPeek n args h) (Nat.beq f 78)
noncomputable def enP (l : List (FuncId × (List V → Option V))) : En := { enH l with ext := extO (mkTI Tryz.prog) }
noncomputable def qTok (n : Nat) : Bool := pcT (enP []) (spTok n) 40 22 [.d (.o 50)] (tokO n)
variable [Val] {n : Nat} {R : List Nat} {P : Nat → Nat}
theorem spTok_ok (hC : Cuts n R P) : SpT2 Tryz.prog (spTok n) := by
  intro f args h r hs
  have hs : (Bool.rec (Bool.rec (Bool.rec (Bool.rec (Bool.rec none (spUne n args h) (Nat.beq f 42)) (spVal n args h) (Nat.beq f 89)) (spLeft n args h) (Nat.beq f 34)) (spNext n args h) (Nat.beq f 41)) (spPeek n args h) (Nat.beq f 78) : Option (V × HL)) = some r := hs
  cases h1 : Nat.beq f 78 with
  | true => rw [h1] at hs; have := Nat.eq_of_beq_eq_true h1; subst this; exact spPeek_ok hC hs
  | false =>
    rw [h1] at hs
    cases h2 : Nat.beq f 41 with
    | true => rw [h2] at hs; have := Nat.eq_of_beq_eq_true h2; subst this; exact spNext_ok hC hs
    | false =>
      rw [h2] at hs
      cases h3 : Nat.beq f 34 with
      | true => rw [h3] at hs; have := Nat.eq_of_beq_eq_true h3; subst this; exact spLeft_ok hC hs
      | false =>
        rw [h3] at hs
        cases h4 : Nat.beq f 89 with
        | true => rw [h4] at hs; have := Nat.eq_of_beq_eq_true h4; subst this; exact spVal_ok hC hs
        | false =>
          rw [h4] at hs
          cases h5 : Nat.beq f 42 with
          | true => rw [h5] at hs; have := Nat.eq_of_beq_eq_true h5; subst this; exact spUne_ok hC hs
          | false => rw [h5] at hs; cases hs
theorem extO_ok {tab : Tab} (htab : TabOk Tryz.prog tab) {rows : List (List D)} (hv : Val.d 50 = .l 1 rows) (hlen : rows.length ≤ 1000000) (ht : ∀ i, 1 ≤ i → i ≤ 20 → Txt i) : ExtOk Tryz.prog (extO tab) := by
  intro op ev h n out hs
  unfold extO at hs
  have base : extF tab op ev h n = some out → OpOk Tryz.prog op ev h n out := fun h => extF_ok htab _ _ _ _ _ h
  split at hs
  · next c =>
    cases hq : x_app tab c ev n with
    | none => rw [hq] at hs; exact base hs
    | some o => rw [hq] at hs; cases hs; exact x_app_ok htab hv hlen hq
  · next s d x =>
    cases hq : x_runes tab s d x ev n with
    | none => rw [hq] at hs; exact base hs
    | some o => rw [hq] at hs; cases hs; exact x_runes_ok htab ht hq
  · exact base hs
end Go.Abs
namespace Go.Abs
open Go.RowKit Go.Proofs
set_option maxRecDepth 100000
noncomputable def rowsN (n : Nat) : List (List D) := upN (fun j => [boxJ n j]) n 0
noncomputable def spIns (n : Nat) (args : List V) (h : HL) : Option (V × HL) := match args with
  | [.v k 0 m, .d (.i .i64 (.ofNat 0)), .d (.i .i64 (.ofNat b)), .d (.f (.func 274) [] [])] => Bool.rec none (Bool.rec none (Bool.rec (match lko h k with
    | some (.row 57 rows true) => Bool.rec none (some (.tu [], setN h k (.row 57 ((rowsN n).map (·.map .d)) true))) (eqVss rows (rowsI n))
    | _ => none) none (Nat.beq n 0)) (Nat.beq b n)) (Nat.beq m n)
  | _ => none
noncomputable def spLay (n : Nat) (f : FuncId) (args : List V) (h : HL) : Option (V × HL) := Bool.rec (Bool.rec none (spSizes n args h) (Nat.beq f 279)) (spIns n args h) (Nat.beq f 337)
noncomputable def enY : En := { enH [] with fns := fun f => Bool.rec (fnT.get f) (ob (fnT.get f) fun q => some (muO q)) (Nat.beq f 203), pure := fun f => Bool.rec (Bool.rec (Bool.rec (Bool.rec (purF f) false (Nat.beq f 279)) false (Nat.beq f 337)) false (Nat.beq f 321)) false (Nat.beq f 273) }
end Go.Abs
namespace Go.Abs
open Go.RowKit Go.Proofs
set_option maxRecDepth 100000
def wR : Ex := .add (.sub (.sub (.v 100) (.c 0)) (.c 0)) (.c 0)
def wQ : Ex := .add (.sub (.sub (.sub (.sub (.v 100) (.c 0)) (.c 0)) (.c 0)) (.c 0)) (.c 0)
def wid0 (e : Ex) : D := .x .i64 e 0 16777216
def insX (e : Ex) : Ex := .sub (.sub e (.c 0)) (.c 0)
noncomputable def hiO (n : Nat) : D := Nat.rec (iN 0) (fun _ _ => iN 192) n
noncomputable def fragJ (n j : Nat) : List D := iN 1 :: ndD n j :: ndD n j :: List.append (styPO (oqD j)) [.s [], .z, iN (Int.ofNat (128 * j)), iN 0, iN 128, iN 192, iN (Int.ofNat (128 * j)), iN 0, iN 128, iN 192, .z, .z]
noncomputable def fragsO (n : Nat) : D := Nat.rec .z (fun _ _ => .l 67 (upN (fun j => [fragJ n j]) n 0)) n
noncomputable def fragV (n : Nat) : List D := iN 2 :: iN 1 :: iN 1 :: List.append styVO [.s [], .z, iN 0, iN 0, wid0 wQ, hiO n, iN 0, iN 0, wid0 (insX wQ), hiO n, .z, fragsO n]
noncomputable def layO (n : Nat) : V := .a (iN 1 :: iN 0 :: iN 0 :: List.append styRO [.s [], .z, iN 0, iN 0, wid0 wR, hiO n, iN 0, iN 0, wid0 (insX wR), hiO n, .z, .l 67 [fragV n]])
noncomputable def itemJ (n j : Nat) : List D := [iN 1, ndD n j, iN (Int.ofNat (128 * j)), iN 0, iN 128, iN 192, .i .u32 4278190335, .s [], iN 0, .b false, iN 0, iN 0, iN 0, iN 0]
noncomputable def lstO (n : Nat) : V := .d (Nat.rec .z (fun _ _ => .l 14 (upN (fun j => [itemJ n j]) n 0)) n)
noncomputable def qLay (n : Nat) : Bool := pcT enY (spLay n) 40 26 [envO, boxO n] (layO n)
noncomputable def qLst (n : Nat) : Bool := pcB (enH []) 40 20 [layO n] (lstO n)
noncomputable def qTree (n : Nat) : Bool := pcB (enQ []) 40 21 [tokO n] (.tu [treeO n, .d (iN 0)])
noncomputable def qBox (n : Nat) : Bool := pcB (enH []) 40 25 [treeO n, styO n] (.tu [boxO n, .d (.b true)])
end Go.Abs
