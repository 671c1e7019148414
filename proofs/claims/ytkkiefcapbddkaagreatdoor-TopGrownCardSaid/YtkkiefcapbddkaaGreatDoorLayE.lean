/-
  styles, boxes, what is laid out and painted.
-/
import Derived.Test.YtkkiefcapbddkaaGreatDoorLayD
set_option linter.all false
namespace Go.Abs
open Go Go.Proofs
set_option maxRecDepth 1000000
/-- the styles: the root's, the row's, the i-th box's. -/
def styR : List D := [.i .i64 1, .i .i64 0, .i .i64 0, .i .i64 0, .i .i64 0, .i .i64 0, .i .i64 0, .i .i64 0, .i .i64 1, .i .i64 0, .i .i64 1, .i .i64 0, .i .i64 1, .i .i64 0, .i .i64 1, .i .i64 0, .i .i64 1, .i .i64 0, .i .i64 1, .i .i64 0, .i .i64 1, .i .i64 0, .i .i64 1, .i .i64 0, .i .i64 0, .i .i64 0, .i .i64 0, .i .i64 0, .i .i64 0, .i .i64 0, .i .i64 0, .i .i64 0, .i .i64 0, .i .i64 0, .i .i64 0, .i .i64 0, .i .u32 255, .i .u32 0, .i .i64 1024, .i .i64 (-1), .i .i64 0, .b false, .b false, .b false, .b false, .i .i64 0, .i .i64 1, .i .i64 0, .i .i64 0, .i .i64 4, .i .i64 0, .b false]
def styV : List D := [.i .i64 3, .i .i64 0, .i .i64 0, .i .i64 0, .i .i64 1, wD, .i .i64 0, .i .i64 0, .i .i64 1, .i .i64 0, .i .i64 1, .i .i64 0, .i .i64 1, .i .i64 0, .i .i64 1, .i .i64 0, .i .i64 1, .i .i64 0, .i .i64 1, .i .i64 0, .i .i64 1, .i .i64 0, .i .i64 1, .i .i64 0, .i .i64 0, .i .i64 0, .i .i64 0, .i .i64 0, .i .i64 0, .i .i64 0, .i .i64 0, .i .i64 0, .i .i64 0, .i .i64 0, .i .i64 0, .i .i64 0, .i .u32 255, .i .u32 0, .i .i64 1024, .i .i64 (-1), .i .i64 0, .b false, .b false, .b false, .b false, .i .i64 0, .i .i64 1, .i .i64 0, .i .i64 0, .i .i64 4, .i .i64 0, .b false]
def styP (i : Nat) : List D := [.i .i64 1, .i .i64 0, .i .i64 0, .i .i64 0, .i .i64 1, .i .i64 128, .i .i64 1, .i .i64 192, .i .i64 1, .i .i64 0, .i .i64 1, .i .i64 0, .i .i64 1, .i .i64 0, .i .i64 1, .i .i64 0, .i .i64 1, .i .i64 0, .i .i64 1, .i .i64 0, .i .i64 1, .i .i64 0, .i .i64 1, .i .i64 0, .i .i64 0, .i .i64 0, .i .i64 0, .i .i64 0, .i .i64 0, .i .i64 0, .i .i64 0, .i .i64 0, .i .i64 0, .i .i64 0, .i .i64 0, .i .i64 0, .i .u32 255, .i .u32 4278190335, .i .i64 1024, .i .i64 (-1), .i .i64 0, .b false, .b false, .b false, .b false, grD i, .i .i64 1, .i .i64 0, .i .i64 0, .i .i64 4, .i .i64 0, .b false]
noncomputable def styN (n : Nat) : V := .d (.l 52 (styR :: styV :: upN (fun i => [styP i]) n 0))
noncomputable def orcS (n : Nat) : List (FuncId × (List V → Option V)) := List.append (orcA n) orcR
/-- the boxes. -/
noncomputable def boxP (i : Nat) : List D := iN 1 :: iN (Int.ofNat (i + 2)) :: iN (Int.ofNat (i + 2)) :: List.append (styP i) [.s [], .z]
noncomputable def kidsN (n : Nat) : D := Nat.rec .z (fun _ _ => .l 57 (upN (fun i => [boxP i]) n 0)) n
noncomputable def boxW (n : Nat) : List D := iN 2 :: iN 1 :: iN 1 :: List.append styV [.s [], kidsN n]
noncomputable def boxN (n : Nat) : V := .a (iN 1 :: iN 0 :: iN 0 :: List.append styR [.s [], .l 57 [boxW n]])
def envV : V := .a [iN 6400, iN 6400, .z]
end Go.Abs
namespace Go.Abs
open Go.RowKit Go.Proofs
set_option linter.unusedVariables false
set_option linter.unusedSectionVars false
set_option maxRecDepth 100000
/-- a runner that knows some functions, whatever objects they are given. -/
noncomputable def runS (E : En) (sp : FuncId → List V → HL → Option V) (k : Nat) : CL := Nat.rec (fun _ _ _ _ => .no [56]) (fun _ ih f args h n => Option.rec (runBK E ih f args h n) (fun r => .ok (r, h, n)) (sp f args h)) k
noncomputable def pcS (E : En) (sp : FuncId → List V → HL → Option V) (k : Nat) (f : FuncId) (args : List V) (y : V) : Bool :=
  Option.rec false (fun a => Bool.rec false (Rs.rec (fun r => Option.rec false (fun p => eqVV p.1 y) (frzY r.2.1 r.1)) (fun _ => false) (runS E sp k f args [] 0)) (eqV1s a args)) (frzs args)
variable [Val]
/-- nothing but new blocks: the objects stay. -/
theorem Rel.below {g : Gh} {h : Heap} {w w' : World} (hr : Rel g h w) (hb : Below w.heap.size w w') {F' : Nat → Nat} (f1 : ∀ b, b < w.heap.size → F' b = g.F b) (f2 : ∀ b, w'.heap.size ≤ b → F' b = 0) :
    Rel { g with F := F' } h w' ∧ Ext g h w { g with F := F' } h w' := by
  have hst : Stays g.F w F' w' := by
    refine ⟨fun b => ?_, fun b c t fz hc => ?_⟩
    · rcases Nat.lt_or_ge b w.heap.size with hlt | hge
      · rw [f1 b hlt]; exact Nat.le_refl _
      · rw [hr.fresh b hge]; exact Nat.zero_le _
    · have hlt : b < w.heap.size := (Array.getElem?_eq_some_iff.1 hc).1
      exact ⟨c, t, fz, (hb.block b hlt).trans hc, rfl, by rw [f1 b hlt]; exact Nat.le_max_left _ _, fun _ _ => rfl⟩
  have he : Ext g h w { g with F := F' } h w' := {
    n := fun k hk => hk
    size := hb.size
    os := hb.os
    tape := hb.tape
    output := hb.output
    stays := hst
    out := fun b hlt _ => ⟨hb.block b hlt, f1 b hlt⟩
    own := fun b ho => .inl ho
    sig := fun _ _ => rfl
    tok := fun k _ n' hn' => ⟨n', hn', .inr ⟨rfl, rfl, fun b hbk => by
      have hlt := hr.lt b (Own.ofτ hbk)
      exact ⟨f1 b hlt, fun ⟨c, t, hc⟩ => ⟨c, t, (hb.block b hlt).trans hc⟩⟩⟩⟩ }
  refine ⟨⟨fun k sz rows hk => (hr.glob k sz rows hk).stay hst, fun k k' b h1 h2 => hr.inj k k' b h1 h2, fun b ho => Nat.lt_of_lt_of_le (hr.lt b ho) hb.size, f2, hr.top, fun k o ho => ?_⟩, he⟩
  exact (hr.obj k o ho).ext he (hr.used ho) fun b sz hs => by
    have hlt := hr.lt b (Own.ofσ hs)
    exact ⟨hb.block b hlt, f1 b hlt⟩
/-- a true answer, whatever objects there are. -/
def SpT (P : Program) (sp : FuncId → List V → HL → Option V) : Prop := ∀ f args h r, sp f args h = some r → CallOk P f ∧ ∀ n, AC P f args (lko h) n fun x hh nn => x = r ∧ hh = lko h ∧ nn = n
theorem AC.of_below {P : Program} {f : FuncId} {args : List V} {h : Heap} {r : D}
    (H : ∀ g w vs, Rel g h w → GL g h w args vs → Calls P f vs.toArray w fun e w' => ∃ v, e = .returned v ∧ Below w.heap.size w w' ∧ ∃ F' : Nat → Nat, (∀ b, b < w.heap.size → F' b = g.F b) ∧ (∀ b, w'.heap.size ≤ b → F' b = 0) ∧ RD F' w' r v) (n : Nat) :
    AC P f args h n fun x hh nn => x = .d r ∧ hh = h ∧ nn = n := by
  intro g w vs hr hn hg
  refine (H g w vs hr hg).mono fun e w' ⟨v, e1, hb, F', f1, f2, hv⟩ => ?_
  obtain ⟨k1, k2⟩ := hr.below hb f1 f2
  exact ⟨v, .d r, h, n, { g with F := F' }, e1, ⟨rfl, rfl, rfl⟩, .d _ _ hv, k1, hn, k2⟩
theorem runS_ok {P : Program} {E : En} {sp : FuncId → List V → HL → Option V} (hE : EnOk P E) (hx : XR E) (hs : SpT P sp) : ∀ k : Nat, CLOk P (runS E sp k)
  | 0 => fun f args h n r h' n' hr => by cases hr
  | k + 1 => fun f args h n r h' n' hr => by
    have hr : (Option.rec (runBK E (runS E sp k) f args h n) (fun r => .ok (r, h, n)) (sp f args h) : Rs (V × HL × Nat)) = .ok (r, h', n') := hr
    cases hq : sp f args h with
    | none => rw [hq] at hr; exact runB_ok hE (runS_ok hE hx hs k) f args h n r h' n' (runBK_ok hx hr)
    | some y =>
      rw [hq] at hr
      cases hr
      obtain ⟨k1, k2⟩ := hs f args h _ hq
      exact ⟨k1, k2 n⟩
theorem pcS_ok {P : Program} {E : En} {sp : FuncId → List V → HL → Option V} (hE : EnOk P E) (hx : XR E) (hs : SpT P sp) {k : Nat} {f : FuncId} {args : List V} {y : V} (h : pcS E sp k f args y = true) : CallOk P f ∧ PC P f args y := by
  unfold pcS at h
  cases ha : frzs args with
  | none => rw [ha] at h; cases h
  | some a =>
    rw [ha] at h
    obtain ⟨h1, h⟩ := brec_ok h
    have h1 := eqV1s_ok h1
    subst h1
    cases hr : runS E sp k f a [] 0 with
    | no e => rw [hr] at h; cases h
    | ok r =>
      rw [hr] at h
      have h : (Option.rec false (fun p => eqVV p.1 y) (frzY r.2.1 r.1) : Bool) = true := h
      cases hy : frzY r.2.1 r.1 with
      | none => rw [hy] at h; cases h
      | some p =>
        rw [hy] at h
        have h := eqVV_ok (show eqVV p.1 y = true from h)
        subst h
        obtain ⟨k1, k2⟩ := runS_ok hE hx hs k f a [] 0 r.1 r.2.1 r.2.2 hr
        exact ⟨k1, pc_of k2 ha (h2 := p.2) hy⟩
end Go.Abs
namespace Go.Abs
open Go.RowKit Go.Proofs
set_option linter.unusedVariables false
set_option linter.unusedSectionVars false
set_option maxRecDepth 100000
/-- what is shared out among n boxes. -/
def totE (n : Nat) : Ex := Nat.rec wX (fun _ t => (t.sub (.c 128)).sub (.c 0)) n
noncomputable def totD (n : Nat) : D := .x .i64 (totE n) (6400 - 128 * n) (63936 - 128 * n)
/-- the i-th box's share. -/
def shD (i : Nat) : D := .x .i64 (.fn 1 i []) 0 63936
noncomputable def shN (n : Nat) : V := .d (.l 1 (upN (fun i => [[shD i]]) n 0))
noncomputable def wtN (n : Nat) : List (List V) := upN (fun i => [[V.d (grD i)]]) n 0
noncomputable def eqVss (a : List (List V)) : List (List V) → Bool := List.rec (fun b => List.rec true (fun _ _ _ => false) b) (fun x _ ih b => List.rec false (fun y r _ => Bool.rec false (ih r) (eqV1s x y)) b) a
noncomputable def spS (n : Nat) (f : FuncId) (args : List V) (h : HL) : Option V := Bool.rec none (match args with
  | [t, .v k 0 m] => match lko h k with
    | some (.row 1 rows _) => Bool.rec none (Bool.rec none (Bool.rec none (Bool.rec (some (shN n)) none (Nat.beq n 0)) (Nat.beq m n)) (eqVss rows (wtN n))) (eqV1 t (.d (totD n)))
    | _ => none
  | _ => none) (Nat.beq f 271)
/-- sizes, places. -/
def szE (i : Nat) : Ex := (Ex.c 128).add (.fn 1 i [])
def atE (i : Nat) : Ex := Nat.rec (.c 0) (fun k e => ((e.add (szE k)).add (.c 0)).add (.c 0)) i
def xE (i : Nat) : Ex := ((Ex.c 0).add (atE i)).add (.c 0)
def xD (e : Nat → Ex) (i : Nat) : D := Nat.rec (iN 0) (fun k _ => .x .i64 (e i) (128 * i) (64064 * i)) i
def wE (i : Nat) : Ex := (szE i).add (.c 0)
def wiD (e : Ex) : D := .x .i64 e 128 64064
noncomputable def fragP (i : Nat) : List D := iN 1 :: iN (Int.ofNat (i + 2)) :: iN (Int.ofNat (i + 2)) :: List.append (styP i) [.s [], .z, xD xE i, iN 0, wiD (wE i), iN 192, xD (fun i => (xE i).add (.c 0)) i, iN 0, wiD (((wE i).sub (.c 0)).sub (.c 0)), iN 192, .z, .z]
noncomputable def fragsN (n : Nat) : D := Nat.rec .z (fun _ _ => .l 67 (upN (fun i => [fragP i]) n 0)) n
def higN (n : Nat) : D := Nat.rec (iN 0) (fun _ _ => iN 192) n
noncomputable def fragW (n : Nat) : List D := iN 2 :: iN 1 :: iN 1 :: List.append styV [.s [], .z, iN 0, iN 0, .x .i64 (wX.add (.c 0)) 6400 63936, higN n, iN 0, iN 0, .x .i64 (((wX.add (.c 0)).sub (.c 0)).sub (.c 0)) 6400 63936, higN n, .z, fragsN n]
noncomputable def layN (n : Nat) : V := .a (iN 1 :: iN 0 :: iN 0 :: List.append styR [.s [], .z, iN 0, iN 0, iN 6400, higN n, iN 0, iN 0, iN 6400, higN n, .z, .l 67 [fragW n]])
/-- what is painted. -/
noncomputable def itemN (i : Nat) : List D := [iN 1, iN (Int.ofNat (i + 2)), xD xE i, iN 0, wiD (wE i), iN 192, .i .u32 4278190335, .s [], iN 0, .b false, iN 0, iN 0, iN 0, iN 0]
noncomputable def lstN (n : Nat) : V := .d (Nat.rec .z (fun _ _ => .l 14 (upN (fun i => [itemN i]) n 0)) n)
end Go.Abs
namespace Go.Abs
open Go.RowKit Go.Proofs
set_option linter.unusedVariables false
set_option linter.unusedSectionVars false
set_option maxRecDepth 1000000
/-- one layer's answer by the one before. -/
noncomputable def orcN (n : Nat) : List (FuncId × (List V → Option V)) :=
  [(22, orc1 [runesB (htmlB n)] (tokN n)), (21, orc1 [tokN n] (.tu [treeN n, .d (iN 0)])), (47, orc1 [runesB cssB] cssTok), (46, orc1 [cssTok] cssR), (48, orc1 [treeN n, .d cssL] (styN n)), (25, orc1 [treeN n, styN n] (.tu [boxN n, .d (.b true)])), (26, orc1 [envV, boxN n] (layN n)), (20, orc1 [layN n] (lstN n))]
/-- .. where a row of no box makes lists of nothing. -/
noncomputable def enZ (l : List (FuncId × (List V → Option V))) : En := { enH l with pure := fun f => Bool.rec (purF f) false (Nat.beq f 279) }
noncomputable def rTok (n : Nat) : Bool := pcB (enQ []) 40 22 [runesB (htmlB n)] (tokN n)
noncomputable def rTree (n : Nat) : Bool := pcB (enQ []) 40 21 [tokN n] (.tu [treeN n, .d (iN 0)])
noncomputable def rSty (n : Nat) : Bool := pcB (enH (orcS n)) 40 48 [treeN n, .d cssL] (styN n)
noncomputable def rBox (n : Nat) : Bool := pcB (enH []) 40 25 [treeN n, styN n] (.tu [boxN n, .d (.b true)])
noncomputable def rLay (n : Nat) : Bool := pcS (enZ []) (spS n) 40 26 [envV, boxN n] (layN n)
noncomputable def rLst (n : Nat) : Bool := pcB (enH []) 40 20 [layN n] (lstN n)
noncomputable def rAll (n : Nat) : Bool := pcB (enH (orcN n)) 40 9 [bytesB (htmlB n), bytesB cssB, envV] (.tu [lstN n, .d (iN 0)])
end Go.Abs
