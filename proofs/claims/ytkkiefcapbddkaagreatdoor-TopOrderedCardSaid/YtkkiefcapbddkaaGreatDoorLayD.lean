/-
  margins; the texts and lists of each layer; a runner that knows some functions.
-/
import Derived.Test.YtkkiefcapbddkaaGreatDoorLayB
import Derived.Test.YtkkiefcapbddkaaGreatDoorLayC
set_option linter.all false
namespace Go.Abs
open Go Go.Proofs
set_option maxRecDepth 1000000
def t0 : List D := tk 4 [] 0 [] true
def t16 : List D := tk 4 [] 1024 [112, 120] true
def four1 : V := .tu [.a (t0 ++ t0 ++ t0 ++ t0), .d (.b true)]
def four2 : V := .tu [.a (t16 ++ t0 ++ t16 ++ t0), .d (.b true)]
def marginN : List Nat := [109, 97, 114, 103, 105, 110]
def mval (nm : List Nat) (n : Int) : List D := [.s ((marginN ++ 45 :: nm).map .c), .i .i64 1, .i .i64 0, .i .i64 1, .i .i64 n, .i .i64 0, .i .u32 0]
def mvals (a b : Int) : V := .tu [.d (.l 7 [mval [116, 111, 112] a, mval [114, 105, 103, 104, 116] b, mval [98, 111, 116, 116, 111, 109] a, mval [108, 101, 102, 116] b]), .d (.b true)]
theorem four1_run : pcB (enQ []) 40 260 [.d (.l 5 [t0])] four1 = true := by decide +kernel
theorem four2_run : pcB (enQ []) 40 260 [.d (.l 5 [t16, t0])] four2 = true := by decide +kernel
noncomputable def orcF : List (FuncId × (List V → Option V)) := [(260, orc2 (orc1 [.d (.l 5 [t0])] four1) (orc1 [.d (.l 5 [t16, t0])] four2))]
theorem read1_run : pcB (enA orcF) 40 182 [textN marginN, .d (.l 5 [t0])] (mvals 0 0) = true := by decide +kernel
theorem read2_run : pcB (enA orcF) 40 182 [textN marginN, .d (.l 5 [t16, t0])] (mvals 1024 0) = true := by decide +kernel
noncomputable def orcB : List (FuncId × (List V → Option V)) := [(47, orc1 [runesN houseN] houseTok), (46, orc1 [houseTok] houseR), (182, orc2 (orc1 [textN marginN, .d (.l 5 [t0])] (mvals 0 0)) (orc1 [textN marginN, .d (.l 5 [t16, t0])] (mvals 1024 0)))]
variable [Val]
theorem no_orc {P : Program} : ∀ p ∈ ([] : List (FuncId × (List V → Option V))), OrcT P p.1 p.2 := fun p hp => by cases hp
theorem orcF_ok (hG : Val.G = gS) : ∀ p ∈ orcF, OrcT Tryz.prog p.1 p.2 := by
  intro p hp
  rcases List.mem_cons.1 hp with rfl | hp
  · exact .or (.one (pcQ no_orc hG four1_run)) (.one (pcQ no_orc hG four2_run))
  cases hp
theorem orcB_ok (hG : Val.G = gS) : ∀ p ∈ orcB, OrcT Tryz.prog p.1 p.2 := by
  intro p hp
  rcases List.mem_cons.1 hp with rfl | hp
  · exact .one (pcQ no_orc hG house_tok0)
  rcases List.mem_cons.1 hp with rfl | hp
  · exact .one (pcQ no_orc hG house_rules0)
  rcases List.mem_cons.1 hp with rfl | hp
  · exact .or (.one (pcA (orcF_ok hG) hG read1_run)) (.one (pcA (orcF_ok hG) hG read2_run))
  cases hp
noncomputable def enH (l : List (FuncId × (List V → Option V))) : En := enQ (List.append l orcB)
theorem pcH {l : List (FuncId × (List V → Option V))} (hl : ∀ p ∈ l, OrcT Tryz.prog p.1 p.2) (hG : Val.G = gS) {k : Nat} {f : FuncId} {args : List V} {y : V} (h : pcB (enH l) k f args y = true) : CallOk Tryz.prog f ∧ PC Tryz.prog f args y :=
  pcQ (fun p hp => by
    rcases List.mem_append.1 (show p ∈ l ++ orcB from hp) with h | h
    · exact hl p h
    · exact orcB_ok hG p h) hG h
end Go.Abs
namespace Go.Abs
open Go Go.Proofs
set_option maxRecDepth 1000000
noncomputable def kB (l : List Nat) : List Sb := l.map .c
def iN (n : Int) : D := .i .i64 n
noncomputable def upN {α : Type} (f : Nat → List α) (n : Nat) : Nat → List α := Nat.rec (fun _ => []) (fun _ ih i => List.append (f i) (ih (Nat.succ i))) n
def n_div : List Nat := [100, 105, 118]
def n_p : List Nat := [112]
def n_style : List Nat := [115, 116, 121, 108, 101]
def n_order : List Nat := [111, 114, 100, 101, 114]
noncomputable def cssO : List Nat := [100, 105, 118, 32, 123, 32, 100, 105, 115, 112, 108, 97, 121, 58, 32, 102, 108, 101, 120, 32, 125, 32, 112, 32, 123, 32, 109, 97, 114, 103, 105, 110, 58, 32, 48, 59, 32, 102, 108, 101, 120, 45, 115, 104, 114, 105, 110, 107, 58, 32, 48, 59, 32, 119, 105, 100, 116, 104, 58, 32, 50, 112, 120, 59, 32, 104, 101, 105, 103, 104, 116, 58, 32, 51, 112, 120, 59, 32, 98, 97, 99, 107, 103, 114, 111, 117, 110, 100, 58, 32, 114, 101, 100, 32, 125]
def attO (i : Nat) : D := .l 2 [[.s (n_style.map .c), .o (i + 1)]]
noncomputable def tokO (n : Nat) : V := .d (.l 5 ([iN 2, .s (kB n_div), .s [], .z, .b false] :: List.append (upN (fun i => [[iN 2, .s (kB n_p), .s [], attO i, .b false], [iN 3, .s (kB n_p), .s [], .z, .b false]]) n 0) [[iN 3, .s (kB n_div), .s [], .z, .b false]]))
noncomputable def treeO (n : Nat) : V := .a [.l 9 ([iN 1, .s (kB [114, 111, 111, 116]), .s [], .z, iN (-1), iN 1, iN 1, iN (-1), iN (-1)] :: [iN 1, .s (kB n_div), .s [], .z, iN 0, Nat.rec (iN (-1)) (fun _ _ => iN 2) n, Nat.rec (iN (-1)) (fun k _ => iN (Int.ofNat (k + 2))) n, iN (-1), iN (-1)] :: upN (fun i => [[iN 1, .s (kB n_p), .s [], attO i, iN 1, iN (-1), iN (-1), Nat.rec (iN (-1)) (fun k _ => iN (Int.ofNat (k + 2))) i, Bool.rec (iN (Int.ofNat (i + 3))) (iN (-1)) (Nat.beq (i + 1) n)]]) n 0)]
def ordD (i : Nat) : D := .x .i64 (.v i) (-9) 9
noncomputable def ownO (i : Nat) : V := .d (.l 2 [[.b false, .l 7 [[.s (kB n_order), iN 1, iN 0, iN 0, iN 0, ordD i, .i .u32 0]]]])
noncomputable def orcOwn (n : Nat) : List (FuncId × (List V → Option V)) := upN (fun i => [(185, orc1 [treeO n, .d (iN (Int.ofNat (i + 2)))] (ownO i))]) n 0
def envO : V := .a [.x .i64 (.v 100) 0 16777216, .x .i64 (.v 101) 0 16777216, .o 0]
def cssOT : V := (.d (.l 5 [[.i .i64 1, .s [.c 100, .c 105, .c 118], .i .i64 0, .s [], .b false], [.i .i64 7, .s [.c 32], .i .i64 0, .s [], .b false], [.i .i64 6, .s [.c 123], .i .i64 0, .s [], .b false], [.i .i64 7, .s [.c 32], .i .i64 0, .s [], .b false], [.i .i64 1, .s [.c 100, .c 105, .c 115, .c 112, .c 108, .c 97, .c 121], .i .i64 0, .s [], .b false], [.i .i64 6, .s [.c 58], .i .i64 0, .s [], .b false], [.i .i64 7, .s [.c 32], .i .i64 0, .s [], .b false], [.i .i64 1, .s [.c 102, .c 108, .c 101, .c 120], .i .i64 0, .s [], .b false], [.i .i64 7, .s [.c 32], .i .i64 0, .s [], .b false], [.i .i64 6, .s [.c 125], .i .i64 0, .s [], .b false], [.i .i64 7, .s [.c 32], .i .i64 0, .s [], .b false], [.i .i64 1, .s [.c 112], .i .i64 0, .s [], .b false], [.i .i64 7, .s [.c 32], .i .i64 0, .s [], .b false], [.i .i64 6, .s [.c 123], .i .i64 0, .s [], .b false], [.i .i64 7, .s [.c 32], .i .i64 0, .s [], .b false], [.i .i64 1, .s [.c 109, .c 97, .c 114, .c 103, .c 105, .c 110], .i .i64 0, .s [], .b false], [.i .i64 6, .s [.c 58], .i .i64 0, .s [], .b false], [.i .i64 7, .s [.c 32], .i .i64 0, .s [], .b false], [.i .i64 4, .s [], .i .i64 0, .s [], .b true], [.i .i64 6, .s [.c 59], .i .i64 0, .s [], .b false], [.i .i64 7, .s [.c 32], .i .i64 0, .s [], .b false], [.i .i64 1, .s [.c 102, .c 108, .c 101, .c 120, .c 45, .c 115, .c 104, .c 114, .c 105, .c 110, .c 107], .i .i64 0, .s [], .b false], [.i .i64 6, .s [.c 58], .i .i64 0, .s [], .b false], [.i .i64 7, .s [.c 32], .i .i64 0, .s [], .b false], [.i .i64 4, .s [], .i .i64 0, .s [], .b true], [.i .i64 6, .s [.c 59], .i .i64 0, .s [], .b false], [.i .i64 7, .s [.c 32], .i .i64 0, .s [], .b false], [.i .i64 1, .s [.c 119, .c 105, .c 100, .c 116, .c 104], .i .i64 0, .s [], .b false], [.i .i64 6, .s [.c 58], .i .i64 0, .s [], .b false], [.i .i64 7, .s [.c 32], .i .i64 0, .s [], .b false], [.i .i64 4, .s [], .i .i64 128, .s [.c 112, .c 120], .b true], [.i .i64 6, .s [.c 59], .i .i64 0, .s [], .b false], [.i .i64 7, .s [.c 32], .i .i64 0, .s [], .b false], [.i .i64 1, .s [.c 104, .c 101, .c 105, .c 103, .c 104, .c 116], .i .i64 0, .s [], .b false], [.i .i64 6, .s [.c 58], .i .i64 0, .s [], .b false], [.i .i64 7, .s [.c 32], .i .i64 0, .s [], .b false], [.i .i64 4, .s [], .i .i64 192, .s [.c 112, .c 120], .b true], [.i .i64 6, .s [.c 59], .i .i64 0, .s [], .b false], [.i .i64 7, .s [.c 32], .i .i64 0, .s [], .b false], [.i .i64 1, .s [.c 98, .c 97, .c 99, .c 107, .c 103, .c 114, .c 111, .c 117, .c 110, .c 100], .i .i64 0, .s [], .b false], [.i .i64 6, .s [.c 58], .i .i64 0, .s [], .b false], [.i .i64 7, .s [.c 32], .i .i64 0, .s [], .b false], [.i .i64 1, .s [.c 114, .c 101, .c 100], .i .i64 0, .s [], .b false], [.i .i64 7, .s [.c 32], .i .i64 0, .s [], .b false], [.i .i64 6, .s [.c 125], .i .i64 0, .s [], .b false]]))
def cssOL : D := (.l 2 [[.l 1 [[.l 3 [[.i .i64 0, .s [.c 100, .c 105, .c 118], .z]]]], .l 3 [[.s [.c 100, .c 105, .c 115, .c 112, .c 108, .c 97, .c 121], .l 5 [[.i .i64 1, .s [.c 102, .c 108, .c 101, .c 120], .i .i64 0, .s [], .b false]], .b false]]], [.l 1 [[.l 3 [[.i .i64 0, .s [.c 112], .z]]]], .l 3 [[.s [.c 109, .c 97, .c 114, .c 103, .c 105, .c 110], .l 5 [[.i .i64 4, .s [], .i .i64 0, .s [], .b true]], .b false], [.s [.c 102, .c 108, .c 101, .c 120, .c 45, .c 115, .c 104, .c 114, .c 105, .c 110, .c 107], .l 5 [[.i .i64 4, .s [], .i .i64 0, .s [], .b true]], .b false], [.s [.c 119, .c 105, .c 100, .c 116, .c 104], .l 5 [[.i .i64 4, .s [], .i .i64 128, .s [.c 112, .c 120], .b true]], .b false], [.s [.c 104, .c 101, .c 105, .c 103, .c 104, .c 116], .l 5 [[.i .i64 4, .s [], .i .i64 192, .s [.c 112, .c 120], .b true]], .b false], [.s [.c 98, .c 97, .c 99, .c 107, .c 103, .c 114, .c 111, .c 117, .c 110, .c 100], .l 5 [[.i .i64 1, .s [.c 114, .c 101, .c 100], .i .i64 0, .s [], .b false]], .b false]]]])
def cssOR : V := .tu [.d cssOL, .d (iN 0)]
end Go.Abs
namespace Go.Abs
open Go.RowKit Go.Proofs
set_option maxRecDepth 1000000
def styRO : List D := [.i .i64 1, .i .i64 0, .i .i64 0, .i .i64 0, .i .i64 0, .i .i64 0, .i .i64 0, .i .i64 0, .i .i64 1, .i .i64 0, .i .i64 1, .i .i64 0, .i .i64 1, .i .i64 0, .i .i64 1, .i .i64 0, .i .i64 1, .i .i64 0, .i .i64 1, .i .i64 0, .i .i64 1, .i .i64 0, .i .i64 1, .i .i64 0, .i .i64 0, .i .i64 0, .i .i64 0, .i .i64 0, .i .i64 0, .i .i64 0, .i .i64 0, .i .i64 0, .i .i64 0, .i .i64 0, .i .i64 0, .i .i64 0, .i .u32 255, .i .u32 0, .i .i64 1024, .i .i64 (-1), .i .i64 0, .b false, .b false, .b false, .b false, .i .i64 0, .i .i64 1, .i .i64 0, .i .i64 0, .i .i64 4, .i .i64 0, .b false]
def styVO : List D := [.i .i64 3, .i .i64 0, .i .i64 0, .i .i64 0, .i .i64 0, .i .i64 0, .i .i64 0, .i .i64 0, .i .i64 1, .i .i64 0, .i .i64 1, .i .i64 0, .i .i64 1, .i .i64 0, .i .i64 1, .i .i64 0, .i .i64 1, .i .i64 0, .i .i64 1, .i .i64 0, .i .i64 1, .i .i64 0, .i .i64 1, .i .i64 0, .i .i64 0, .i .i64 0, .i .i64 0, .i .i64 0, .i .i64 0, .i .i64 0, .i .i64 0, .i .i64 0, .i .i64 0, .i .i64 0, .i .i64 0, .i .i64 0, .i .u32 255, .i .u32 0, .i .i64 1024, .i .i64 (-1), .i .i64 0, .b false, .b false, .b false, .b false, .i .i64 0, .i .i64 1, .i .i64 0, .i .i64 0, .i .i64 4, .i .i64 0, .b false]
def styPO (o : D) : List D := [.i .i64 1, .i .i64 0, .i .i64 0, .i .i64 0, .i .i64 1, .i .i64 128, .i .i64 1, .i .i64 192, .i .i64 1, .i .i64 0, .i .i64 1, .i .i64 0, .i .i64 1, .i .i64 0, .i .i64 1, .i .i64 0, .i .i64 1, .i .i64 0, .i .i64 1, .i .i64 0, .i .i64 1, .i .i64 0, .i .i64 1, .i .i64 0, .i .i64 0, .i .i64 0, .i .i64 0, .i .i64 0, .i .i64 0, .i .i64 0, .i .i64 0, .i .i64 0, .i .i64 0, .i .i64 0, .i .i64 0, .i .i64 0, .i .u32 255, .i .u32 4278190335, .i .i64 1024, .i .i64 (-1), .i .i64 0, .b false, .b false, .b false, .b false, .i .i64 0, .i .i64 0, o, .i .i64 0, .i .i64 4, .i .i64 0, .b false]
noncomputable def styO (n : Nat) : V := .d (.l 52 (styRO :: styVO :: upN (fun i => [styPO (ordD i)]) n 0))
noncomputable def boxPO (nd : D) (o : D) : List D := iN 1 :: nd :: nd :: List.append (styPO o) [.s [], .z]
noncomputable def boxI (i : Nat) : List D := boxPO (iN (Int.ofNat (i + 2))) (ordD i)
noncomputable def kidsO (n : Nat) : D := Nat.rec .z (fun _ _ => .l 57 (upN (fun i => [boxI i]) n 0)) n
noncomputable def boxWO (n : Nat) : List D := iN 2 :: iN 1 :: iN 1 :: List.append styVO [.s [], kidsO n]
noncomputable def boxO (n : Nat) : V := .a (iN 1 :: iN 0 :: iN 0 :: List.append styRO [.s [], .l 57 [boxWO n]])
def ndD (n j : Nat) : D := .x .i64 (.fn 3 j []) 2 (Int.ofNat (n + 1))
def oqD (j : Nat) : D := .x .i64 (.fn 4 j []) (-9) 9
noncomputable def boxJ (n j : Nat) : List D := boxPO (ndD n j) (oqD j)
noncomputable def runT (E : En) (sp : FuncId → List V → HL → Option (V × HL)) (k : Nat) : CL := Nat.rec (fun _ _ _ _ => .no [56]) (fun _ ih f args h n => Option.rec (runBK E ih f args h n) (fun r => .ok (r.1, r.2, n)) (sp f args h)) k
noncomputable def eqVss (a : List (List V)) : List (List V) → Bool := List.rec (fun b => List.rec true (fun _ _ _ => false) b) (fun x _ ih b => List.rec false (fun y r _ => Bool.rec false (ih r) (eqV1s x y)) b) a
noncomputable def rowsJ (n : Nat) : List (List V) := upN (fun j => [(boxJ n j).map .d]) n 0
noncomputable def rowsI (n : Nat) : List (List V) := upN (fun j => [(boxI j).map .d]) n 0
noncomputable def setH (h : HL) (k : Nat) (o : AObj) : HL := List.rec [] (fun p _ ih => Bool.rec (p :: ih) ((k, o) :: ih) (Nat.beq p.1 k)) h
noncomputable def spSort (n : Nat) (args : List V) (h : HL) : Option (V × HL) := match args with
  | [.v k 0 m, .d (.f _ [] [])] => match lko h k with
    | some (.row 57 rows vec) => Bool.rec none (some (.tu [], setH h k (.row 57 (rowsJ n) vec))) (eqVss rows (rowsI n))
    | _ => none
  | _ => none
noncomputable def spSizes (n : Nat) (args : List V) (h : HL) : Option (V × HL) := match args with
  | [.d (.x .i64 _ lo hi), .d it] => Bool.rec none (Bool.rec none (match it with
    | .l 4 rows => Bool.rec none (some (.d (.l 1 (upN (fun _ => [[iN 128]]) n 0)), h)) (eqDss rows (upN (fun _ => [[iN 128, iN 0, iN 0, iN 0]]) n 0))
    | .z => Bool.rec none (some (.d (.l 1 (upN (fun _ => [[iN 128]]) n 0)), h)) (Nat.beq n 0)
    | _ => none) (leI hi 1000000000000)) (leI (-1000000000000) lo)
  | _ => none
noncomputable def spO (n : Nat) (f : FuncId) (args : List V) (h : HL) : Option (V × HL) := Bool.rec (Bool.rec none (spSizes n args h) (Nat.beq f 279)) (spSort n args h) (Nat.beq f 273)
noncomputable def muO (q : Ent) : Ent := ⟨q.fn, q.kp, fun r o => Bool.rec (q.mu r o) true (Nat.beq r 7)⟩
noncomputable def enO (l : List (FuncId × (List V → Option V))) : En := { enH l with fns := fun f => Bool.rec (fnT.get f) (ob (fnT.get f) fun q => some (muO q)) (Nat.beq f 203), pure := fun f => Bool.rec (purF f) false (Nat.beq f 273) }
end Go.Abs
namespace Go.Abs
open Go.RowKit Go.Proofs
set_option maxRecDepth 100000
noncomputable def pcT (E : En) (sp : FuncId → List V → HL → Option (V × HL)) (k : Nat) (f : FuncId) (args : List V) (y : V) : Bool :=
  Option.rec false (fun a => Bool.rec false (Rs.rec (fun r => Option.rec false (fun p => eqVV p.1 y) (frzY r.2.1 r.1)) (fun _ => false) (runT E sp k f args [] 0)) (eqV1s a args)) (frzs args)
variable [Val]
theorem Rel.below {g : Gh} {h : Heap} {w w' : World} (hr : Rel g h w) (hb : Below w.heap.size w w') {F' : Nat → Nat} (f1 : ∀ b, b < w.heap.size → F' b = g.F b) (f2 : ∀ b, w'.heap.size ≤ b → F' b = 0) :
    Rel { g with F := F' } h w' ∧ Ext g h w { g with F := F' } h w' := by
  have hst : Stays g.F w F' w' := by
    refine ⟨fun b => ?_, fun b c t fz hc => ?_⟩
    · rcases Nat.lt_or_ge b w.heap.size with hlt | hge
      · rw [f1 b hlt]; exact Nat.le_refl _
      · rw [hr.fresh b hge]; exact Nat.zero_le _
    · have hlt : b < w.heap.size := (Array.getElem?_eq_some_iff.1 hc).1
      exact ⟨c, t, fz, (hb.block b hlt).trans hc, rfl, by rw [f1 b hlt]; exact Nat.le_max_left _ _, fun _ _ => rfl⟩
  have he : Ext g h w { g with F := F' } h w' := {
    n := fun k hk => hk
    size := hb.size
    os := hb.os
    tape := hb.tape
    output := hb.output
    stays := hst
    out := fun b hlt _ => ⟨hb.block b hlt, f1 b hlt⟩
    own := fun b ho => .inl ho
    sig := fun _ _ => rfl
    tok := fun k _ n' hn' => ⟨n', hn', .inr ⟨rfl, rfl, fun b hbk => by
      have hlt := hr.lt b (Own.ofτ hbk)
      exact ⟨f1 b hlt, fun ⟨c, t, hc⟩ => ⟨c, t, (hb.block b hlt).trans hc⟩⟩⟩⟩ }
  refine ⟨⟨fun k sz rows hk => (hr.glob k sz rows hk).stay hst, fun k k' b h1 h2 => hr.inj k k' b h1 h2, fun b ho => Nat.lt_of_lt_of_le (hr.lt b ho) hb.size, f2, hr.top, fun k o ho => ?_⟩, he⟩
  exact (hr.obj k o ho).ext he (hr.used ho) fun b sz hs => by
    have hlt := hr.lt b (Own.ofσ hs)
    exact ⟨hb.block b hlt, f1 b hlt⟩
theorem AC.of_below {P : Program} {f : FuncId} {args : List V} {h : Heap} {r : D}
    (H : ∀ g w vs, Rel g h w → GL g h w args vs → Calls P f vs.toArray w fun e w' => ∃ v, e = .returned v ∧ Below w.heap.size w w' ∧ ∃ F' : Nat → Nat, (∀ b, b < w.heap.size → F' b = g.F b) ∧ (∀ b, w'.heap.size ≤ b → F' b = 0) ∧ RD F' w' r v) (n : Nat) :
    AC P f args h n fun x hh nn => x = .d r ∧ hh = h ∧ nn = n := by
  intro g w vs hr hn hg
  refine (H g w vs hr hg).mono fun e w' ⟨v, e1, hb, F', f1, f2, hv⟩ => ?_
  obtain ⟨k1, k2⟩ := hr.below hb f1 f2
  exact ⟨v, .d r, h, n, { g with F := F' }, e1, ⟨rfl, rfl, rfl⟩, .d _ _ hv, k1, hn, k2⟩
def SpT2 (P : Program) (sp : FuncId → List V → HL → Option (V × HL)) : Prop := ∀ f args h r, sp f args h = some r → CallOk P f ∧ ∀ n, AC P f args (lko h) n fun x hh nn => x = r.1 ∧ hh = lko r.2 ∧ nn = n
theorem runT_ok {P : Program} {E : En} {sp : FuncId → List V → HL → Option (V × HL)} (hE : EnOk P E) (hx : XR E) (hs : SpT2 P sp) : ∀ k : Nat, CLOk P (runT E sp k)
  | 0 => fun f args h n r h' n' hr => by cases hr
  | k + 1 => fun f args h n r h' n' hr => by
    have hr : (Option.rec (runBK E (runT E sp k) f args h n) (fun r => .ok (r.1, r.2, n)) (sp f args h) : Rs (V × HL × Nat)) = .ok (r, h', n') := hr
    cases hq : sp f args h with
    | none => rw [hq] at hr; exact runB_ok hE (runT_ok hE hx hs k) f args h n r h' n' (runBK_ok hx hr)
    | some y =>
      rw [hq] at hr
      cases hr
      obtain ⟨k1, k2⟩ := hs f args h _ hq
      exact ⟨k1, k2 n⟩
theorem pcT_ok {P : Program} {E : En} {sp : FuncId → List V → HL → Option (V × HL)} (hE : EnOk P E) (hx : XR E) (hs : SpT2 P sp) {k : Nat} {f : FuncId} {args : List V} {y : V} (h : pcT E sp k f args y = true) : CallOk P f ∧ PC P f args y := by
  unfold pcT at h
  cases ha : frzs args with
  | none => rw [ha] at h; cases h
  | some a =>
    rw [ha] at h
    obtain ⟨h1, h⟩ := brec_ok h
    have h1 := eqV1s_ok h1
    subst h1
    cases hr : runT E sp k f a [] 0 with
    | no e => rw [hr] at h; cases h
    | ok r =>
      rw [hr] at h
      have h : (Option.rec false (fun p => eqVV p.1 y) (frzY r.2.1 r.1) : Bool) = true := h
      cases hy : frzY r.2.1 r.1 with
      | none => rw [hy] at h; cases h
      | some p =>
        rw [hy] at h
        have h := eqVV_ok (show eqVV p.1 y = true from h)
        subst h
        obtain ⟨k1, k2⟩ := runT_ok hE hx hs k f a [] 0 r.1 r.2.1 r.2.2 hr
        exact ⟨k1, pc_of k2 ha (h2 := p.2) hy⟩
theorem enO_ok {l : List (FuncId × (List V → Option V))} (h : EnOk Tryz.prog (enH l)) : EnOk Tryz.prog (enO l) where
  fns := fun f q hq => by
    have hq : (Bool.rec (fnT.get f) (ob (fnT.get f) fun q => some (muO q)) (Nat.beq f 203) : Option Ent) = some q := hq
    cases hb : Nat.beq f 203 with
    | false => rw [hb] at hq; exact h.fns f q hq
    | true =>
      rw [hb] at hq
      obtain ⟨q0, h1, h2⟩ := ob_eq hq
      cases h2
      exact h.fns f q0 h1
  tab := h.tab
  orc := h.orc
  ext := h.ext
  mo := h.mo
  G := h.G
theorem rd_o {F : Nat → Nat} {w : World} {i : Nat} {v : Value} (h : RD F w (.o i) v) : RD F w (Val.d i) v := by cases h; assumption
end Go.Abs
