/-
  the declarations of the boxes; Render by layers.
-/
import Derived.Test.YtkkiefcapbddkaaGreatDoorLayI
set_option linter.all false
namespace Go.Abs
open Go.RowKit Go.Proofs
set_option maxRecDepth 100000
variable [Val]
theorem extF_none {tab : Tab} {op : Op} {ev : Operand → Option V} {h : Heap} {n : Nat} (hc : ∀ c, op ≠ .call c) (hv : ∀ s d x, op ≠ .convert s d x) : extO tab op ev h n = extF tab op ev h n := by
  unfold extO
  split
  · next c => exact absurd rfl (hc c)
  · next s d x => exact absurd rfl (hv s d x)
  · rfl
theorem x_runes_rd {tab : Tab} {s d : TypeId} {x : Operand} {ev : Operand → Option V} {n : Nat} {out : Out} (hs : x_runes tab s d x ev n = some out) : cvT tab s d = none := by
  unfold x_runes at hs
  split at hs
  · next _ _ _ e _ _ _ hts htd => unfold cvT; rw [hts, htd]
  · cases hs
theorem extO_rd (E : En) (he : E.ext = extO E.tab) : XR E := by
  intro op ev h n out hr hs
  rw [he] at hs
  by_cases hc : ∃ c, op = .call c
  · obtain ⟨c, rfl⟩ := hc
    unfold extO at hs
    have hs : (Option.rec (extF E.tab (.call c) ev h n) (fun o => some o) (x_app E.tab c ev n) : Option Out) = some out := hs
    cases hq : x_app E.tab c ev n with
    | none => rw [hq] at hs; exact extF_rd { E with ext := extF E.tab } rfl _ ev h n out hr hs
    | some o =>
      unfold x_app at hq
      split at hq
      · cases hr
      · cases hq
  · by_cases hv : ∃ s d x, op = .convert s d x
    · obtain ⟨s, d, x, rfl⟩ := hv
      unfold extO at hs
      have hs : (Option.rec (extF E.tab (.convert s d x) ev h n) (fun o => some o) (x_runes E.tab s d x ev n) : Option Out) = some out := hs
      cases hq : x_runes E.tab s d x ev n with
      | none => rw [hq] at hs; exact extF_rd { E with ext := extF E.tab } rfl _ ev h n out hr hs
      | some o =>
        have h0 := x_runes_rd hq
        have hr : (Option.rec false (fun _ => true) (cvT E.tab s d) : Bool) = true := hr
        rw [h0] at hr
        cases hr
    · rw [extF_none (fun c e => hc ⟨c, e⟩) (fun s d x e => hv ⟨s, d, x, e⟩)] at hs
      exact extF_rd { E with ext := extF E.tab } rfl _ ev h n out hr hs
theorem enP_ok (hG : Val.G = gS) {l : List (FuncId × (List V → Option V))} (hl : ∀ p ∈ l, OrcT Tryz.prog p.1 p.2) {rows : List (List D)} (hv : Val.d 50 = .l 1 rows) (hlen : rows.length ≤ 1000000) (ht : ∀ i, 1 ≤ i → i ≤ 20 → Txt i) : EnOk Tryz.prog (enP l) := by
  have h : EnOk Tryz.prog (enH l) := enL_ok (fun p hp => by
    rcases List.mem_append.1 (show p ∈ (List.append l orcB) ++ orcQ from hp) with h | h
    · rcases List.mem_append.1 (show p ∈ l ++ orcB from h) with h | h
      · exact hl p h
      · exact orcB_ok hG p h
    · exact orcQ_ok hG p h) hG
  exact ⟨h.fns, h.tab, h.orc, extO_ok (fun t ti h => h) hv hlen ht, h.mo, h.G⟩
theorem enY_ok (hG : Val.G = gS) : EnOk Tryz.prog enY := by
  have h : EnOk Tryz.prog (enH []) := enL_ok (fun p hp => by
    rcases List.mem_append.1 (show p ∈ (List.append [] orcB) ++ orcQ from hp) with h | h
    · exact orcB_ok hG p h
    · exact orcQ_ok hG p h) hG
  have h2 := enO_ok h
  exact ⟨h2.fns, h2.tab, h2.orc, h2.ext, h2.mo, h2.G⟩
theorem PC.o1 {P : Program} {f : FuncId} {a : Nat} {d : D} {r : V} (d1 : Val.d a = d) (hp : CallOk P f ∧ PC P f [.d d] r) : CallOk P f ∧ PC P f [.d (.o a)] r := by
  subst d1
  refine ⟨hp.1, rfl, hp.2.2.1, fun g w vs hr hn hg => hp.2.2.2 g w vs hr hn ⟨hg.len, fun i x v h1 h2 => ?_⟩⟩
  match i, h1 with
  | 0, h1 =>
    cases h1
    exact .d _ _ (rd_o (hg.at_ 0 _ _ rfl h2).d_inv)
  | i + 1, h1 => simp at h1
theorem PC.wk {P : Program} {f : FuncId} {args : List V} {d d' : D} (hd : ∀ F w v, RD F w d v → RD F w d' v) (hp : CallOk P f ∧ PC P f args (.d d)) : CallOk P f ∧ PC P f args (.d d') := by
  refine ⟨hp.1, hp.2.1, rfl, fun g w vs hr hn hg => (hp.2.2.2 g w vs hr hn hg).mono fun e w' ⟨v, x, h', n', g', k1, k2, k3, k4, k5, k6⟩ => ?_⟩
  subst k2
  exact ⟨v, _, h', n', g', k1, rfl, .d _ _ (hd _ _ _ k3.d_inv), k4, k5, k6⟩
theorem rd_mk {a : Nat} {d : D} (h : Val.d a = d) : ∀ F w v, RD F w d v → RD F w (.o a) v := fun F w v hv => .o _ _ (by rw [h]; exact hv)
theorem rd_lmono {sz : Nat} {rows rows' : List (List D)} (hlen : rows'.length = rows.length) (hr' : ∀ r ∈ rows', r.length = sz)
    (hm : ∀ (i : Nat) r' (j : Nat) d', rows'[i]? = some r' → r'[j]? = some d' → ∃ r d, rows[i]? = some r ∧ r[j]? = some d ∧ ∀ F w v, RD F w d v → RD F w d' v) : ∀ F w v, RD F w (.l sz rows) v → RD F w (.l sz rows') v := by
  intro F w v h
  cases h with
  | lz =>
    have : rows' = [] := List.eq_nil_of_length_eq_zero hlen
    subst this
    exact .lz sz
  | l _ _ b off cap c t fz hb hf hs hc hn hr hx =>
    rw [← hlen] at hf hn ⊢
    exact .l sz rows' b off cap c t fz hb hf hs hc hn hr' fun i r' j d' v a1 a2 a3 => by
      obtain ⟨r, d, b1, b2, b3⟩ := hm i r' j d' a1 a2
      exact b3 F w v (hx i r j d v b1 b2 a3)
theorem allU_ok {p : Nat → Bool} : ∀ {n : Nat}, allU p n = true → ∀ k, k < n → p k = true
  | 0, _, k, hk => by omega
  | n + 1, h, k, hk => by
    obtain ⟨h1, h2⟩ := brec_ok (show (Bool.rec false (p n) (allU p n) : Bool) = true from h)
    by_cases e : k = n
    · subst e; exact h2
    · exact allU_ok h1 k (by omega)
structure OwnO (i : Nat) (o : Int) : Prop where
  lo : -9 ≤ o
  hi : o ≤ 9
  v : (Val.v i : Int) = o
  d1 : Val.d (i + 101) = runC (ordS o)
  d2 : Val.d (i + 201) = tokC o
  d3 : Val.d (i + 301) = decC o
theorem ord_ok {o : Int} (h0 : -9 ≤ o) (h1 : o ≤ 9) : ordB o = true := by
  have := allU_ok ord_all (o + 9).toNat (by omega)
  have e : Int.sub (Int.ofNat (o + 9).toNat) 9 = o := by
    show ((o + 9).toNat : Int) - 9 = o
    omega
  rw [e] at this
  exact this
theorem ownC_rd {i : Nat} {o : Int} (h : OwnO i o) : ∀ F w v, RD F w (ownC o) v → RD F w (.l 2 [[.b false, .l 7 [[.s (kB n_order), iN 1, iN 0, iN 0, iN 0, ordD i, .i .u32 0]]]]) v := by
  refine rd_lmono rfl (fun r hr => by rw [List.mem_singleton.1 hr]; rfl) fun k r' j d' h1 h2 => ?_
  match k, h1 with
  | 0, h1 =>
    cases h1
    match j, h2 with
    | 0, h2 => cases h2; exact ⟨_, _, rfl, rfl, fun _ _ _ h => h⟩
    | 1, h2 =>
      cases h2
      refine ⟨_, _, rfl, rfl, rd_lmono rfl (fun r hr => by rw [List.mem_singleton.1 hr]; rfl) fun k r' j d' h1 h2 => ?_⟩
      match k, h1 with
      | 0, h1 =>
        cases h1
        match j, h2 with
        | 0, h2 => cases h2; exact ⟨_, _, rfl, rfl, fun _ _ _ h => h⟩
        | 1, h2 => cases h2; exact ⟨_, _, rfl, rfl, fun _ _ _ h => h⟩
        | 2, h2 => cases h2; exact ⟨_, _, rfl, rfl, fun _ _ _ h => h⟩
        | 3, h2 => cases h2; exact ⟨_, _, rfl, rfl, fun _ _ _ h => h⟩
        | 4, h2 => cases h2; exact ⟨_, _, rfl, rfl, fun _ _ _ h => h⟩
        | 5, h2 =>
          cases h2
          refine ⟨_, _, rfl, rfl, fun F w v hv => ?_⟩
          cases hv
          have e : (Ex.v i).val = o := h.v
          have h1 := h.lo
          have h2 := h.hi
          have := RD.x (F := F) (w := w) .i64 (.v i) (-9) 9 (by rw [e]; exact h1) (by rw [e]; exact h2)
          rw [e] at this
          exact this
        | 6, h2 => cases h2; exact ⟨_, _, rfl, rfl, fun _ _ _ h => h⟩
        | j + 7, h2 => simp at h2
      | k + 1, h1 => simp at h1
    | j + 2, h2 => simp at h2
  | k + 1, h1 => simp at h1
theorem orcWi_ok (hG : Val.G = gS) {i : Nat} {o : Int} (h : OwnO i o) : ∀ p ∈ orcWi i, OrcT Tryz.prog p.1 p.2 := by
  intro p hp
  obtain ⟨k1, k2⟩ := brec_ok (show (Bool.rec false (Bool.rec false (pcB (enH []) 40 114 [.d (decC o)] (.d (ownC o))) (pcB (enH []) 40 101 [.d (tokC o)] (.d (decC o)))) (pcB (enH []) 40 47 [.d (runC (ordS o))] (.d (tokC o))) : Bool) = true from ord_ok h.lo h.hi)
  obtain ⟨k2, k3⟩ := brec_ok k2
  rcases List.mem_cons.1 hp with rfl | hp
  · exact .one (PC.wk (rd_mk h.d2) (PC.o1 (d1 := h.d1) (pcH no_orc hG k1)))
  rcases List.mem_cons.1 hp with rfl | hp
  · exact .one (PC.wk (rd_mk h.d3) (PC.o1 (d1 := h.d2) (pcH no_orc hG k2)))
  rcases List.mem_cons.1 hp with rfl | hp
  · exact .one (PC.wk (ownC_rd h) (PC.o1 (d1 := h.d3) (pcH no_orc hG k3)))
  cases hp
end Go.Abs
namespace Go.Abs
open Go.RowKit Go.Proofs
set_option maxRecDepth 100000
noncomputable def orcNO (n : Nat) : List (FuncId × (List V → Option V)) :=
  [(16, orc1 [envO] (.d (iN 0))), (17, orc1 [.d (.o 51)] (.tu [.d (.o 50), .d (iN 0)])), (22, orc1 [.d (.o 50)] (tokO n)), (21, orc1 [tokO n] (.tu [treeO n, .d (iN 0)])), (47, orc1 [runesN cssO] cssOT), (46, orc1 [cssOT] cssOR), (48, orc1 [treeO n, .d cssOL] (styO n)), (25, orc1 [treeO n, styO n] (.tu [boxO n, .d (.b true)])), (26, orc1 [envO, boxO n] (layO n)), (20, orc1 [layO n] (lstO n))]
noncomputable def qAll (n : Nat) : Bool := pcB (enH (orcNO n)) 40 9 [.d (.o 51), bytesN cssO, envO] (.tu [lstO n, .d (iN 0)])
noncomputable def qOwnA (n : Nat) : Bool := allU (fun i => qOwn n i) n
end Go.Abs
namespace Go.Abs
open Go.RowKit Go.Proofs
set_option maxRecDepth 100000
def dOf (v : V) : D := match v with | .d x => x | _ => .z
def selOf (v : V) (i : Nat) : D := match (rowsOf v)[i]? with | some [d, _] => d | _ => .z
noncomputable def rulesO : D := .l 3 [[iN 0, selOf houseR 0, dOf rd0], [iN 0, selOf houseR 1, dOf rd1], [iN 0, selOf houseR 2, dOf rd2], [iN 0, selOf houseR 3, dOf rd3], [iN 0, selOf houseR 4, dOf rd4], [iN 0, selOf houseR 5, dOf rd5], [iN 0, selOf houseR 6, dOf rd6], [iN 0, selOf houseR 7, dOf rd7], [iN 0, selOf houseR 8, dOf rd8], [iN 1, selOf cssOR 0, dOf ra0], [iN 1, selOf cssOR 1, dOf ra1]]
def rowsD1 (v : V) : List (List D) := match v with | .d (.l _ r) => r | _ => []
noncomputable def meanO (i : Nat) : V := .d (.l 6 (List.append ((rowsD1 rd0).map fun r => iN 0 :: iN 0 :: iN 0 :: iN 1 :: r) (List.append ((rowsD1 rd5).map fun r => iN 0 :: iN 0 :: iN 0 :: iN 1 :: r) (List.append ((rowsD1 ra1).map fun r => iN 1 :: iN 0 :: iN 0 :: iN 1 :: r) ((rowsD1 (ownO i)).map fun r => iN 2 :: iN 0 :: iN 0 :: iN 0 :: r)))))
noncomputable def qMean (n i : Nat) : Bool := pcB (enH (orcOwn n)) 40 117 [treeO n, .d (iN (Int.ofNat (i + 2))), .d rulesO] (meanO i)
noncomputable def qMeanA (n : Nat) : Bool := allU (fun i => qMean n i) n
noncomputable def orcMO (n : Nat) : List (FuncId × (List V → Option V)) := upN (fun i => [(117, orc1 [treeO n, .d (iN (Int.ofNat (i + 2))), .d rulesO] (meanO i))]) n 0
noncomputable def qStyM (n : Nat) : Bool := pcB (enH (List.append (orcMO n) orcRO)) 40 48 [treeO n, .d cssOL] (styO n)
end Go.Abs
