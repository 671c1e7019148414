/-
  margins and declarations, read.
-/
import Derived.Test.YtkkiefcapbddkaaGreatDoorLayB
import Derived.Test.YtkkiefcapbddkaaGreatDoorLayC
import Derived.Test.YtkkiefcapbddkaaGreatDoorLayA
set_option linter.all false
namespace Go.Abs
open Go Go.Proofs
set_option maxRecDepth 1000000
def t0 : List D := tk 4 [] 0 [] true
def t16 : List D := tk 4 [] 1024 [112, 120] true
def four1 : V := .tu [.a (t0 ++ t0 ++ t0 ++ t0), .d (.b true)]
def four2 : V := .tu [.a (t16 ++ t0 ++ t16 ++ t0), .d (.b true)]
def marginN : List Nat := [109, 97, 114, 103, 105, 110]
def mval (nm : List Nat) (n : Int) : List D := [.s ((marginN ++ 45 :: nm).map .c), .i .i64 1, .i .i64 0, .i .i64 1, .i .i64 n, .i .i64 0, .i .u32 0]
def mvals (a b : Int) : V := .tu [.d (.l 7 [mval [116, 111, 112] a, mval [114, 105, 103, 104, 116] b, mval [98, 111, 116, 116, 111, 109] a, mval [108, 101, 102, 116] b]), .d (.b true)]
theorem four1_run : pcB (enQ []) 40 260 [.d (.l 5 [t0])] four1 = true := by decide +kernel
theorem four2_run : pcB (enQ []) 40 260 [.d (.l 5 [t16, t0])] four2 = true := by decide +kernel
noncomputable def orcF : List (FuncId × (List V → Option V)) := [(260, orc2 (orc1 [.d (.l 5 [t0])] four1) (orc1 [.d (.l 5 [t16, t0])] four2))]
theorem read1_run : pcB (enA orcF) 40 182 [textN marginN, .d (.l 5 [t0])] (mvals 0 0) = true := by decide +kernel
theorem read2_run : pcB (enA orcF) 40 182 [textN marginN, .d (.l 5 [t16, t0])] (mvals 1024 0) = true := by decide +kernel
/-- the house's stylesheet, read; margins. -/
noncomputable def orcB : List (FuncId × (List V → Option V)) := [(47, orc1 [runesN houseN] houseTok), (46, orc1 [houseTok] houseR), (182, orc2 (orc1 [textN marginN, .d (.l 5 [t0])] (mvals 0 0)) (orc1 [textN marginN, .d (.l 5 [t16, t0])] (mvals 1024 0)))]
variable [Val]
theorem no_orc {P : Program} : ∀ p ∈ ([] : List (FuncId × (List V → Option V))), OrcT P p.1 p.2 := fun p hp => by cases hp
theorem orcF_ok (hG : Val.G = gS) : ∀ p ∈ orcF, OrcT Tryz.prog p.1 p.2 := by
  intro p hp
  rcases List.mem_cons.1 hp with rfl | hp
  · exact .or (.one (pcQ no_orc hG four1_run)) (.one (pcQ no_orc hG four2_run))
  cases hp
theorem orcB_ok (hG : Val.G = gS) : ∀ p ∈ orcB, OrcT Tryz.prog p.1 p.2 := by
  intro p hp
  rcases List.mem_cons.1 hp with rfl | hp
  · exact .one (pcQ no_orc hG house_tok0)
  rcases List.mem_cons.1 hp with rfl | hp
  · exact .one (pcQ no_orc hG house_rules0)
  rcases List.mem_cons.1 hp with rfl | hp
  · exact .or (.one (pcA (orcF_ok hG) hG read1_run)) (.one (pcA (orcF_ok hG) hG read2_run))
  cases hp
/-- .. and what is known of the house. -/
noncomputable def enH (l : List (FuncId × (List V → Option V))) : En := enQ (List.append l orcB)
theorem pcH {l : List (FuncId × (List V → Option V))} (hl : ∀ p ∈ l, OrcT Tryz.prog p.1 p.2) (hG : Val.G = gS) {k : Nat} {f : FuncId} {args : List V} {y : V} (h : pcB (enH l) k f args y = true) : CallOk Tryz.prog f ∧ PC Tryz.prog f args y :=
  pcQ (fun p hp => by
    rcases List.mem_append.1 (show p ∈ l ++ orcB from hp) with h | h
    · exact hl p h
    · exact orcB_ok hG p h) hG h
end Go.Abs
namespace Go.Abs
open Go Go.Proofs
set_option maxRecDepth 1000000
def rowsOf (v : V) : List (List D) := match v with | .tu (.d (.l _ r) :: _) => r | _ => []
/-- the declarations of a rule. -/
def declOf (v : V) (i : Nat) : D := match (rowsOf v)[i]? with | some [_, d] => d | _ => .z
def rd0 : V := (.d (.l 2 [[.b false, .l 7 [[.s [.c 100, .c 105, .c 115, .c 112, .c 108, .c 97, .c 121], .i .i64 1, .i .i64 1, .i .i64 0, .i .i64 0, .i .i64 0, .i .u32 0]]]]))
def rd1 : V := (.d (.l 2 [[.b false, .l 7 [[.s [.c 100, .c 105, .c 115, .c 112, .c 108, .c 97, .c 121], .i .i64 1, .i .i64 4, .i .i64 0, .i .i64 0, .i .i64 0, .i .u32 0]]]]))
def rd2 : V := (.d (.l 2 [[.b false, .l 7 [[.s [.c 100, .c 105, .c 115, .c 112, .c 108, .c 97, .c 121], .i .i64 1, .i .i64 5, .i .i64 0, .i .i64 0, .i .i64 0, .i .u32 0]]]]))
def rd3 : V := (.d (.l 2 [[.b false, .l 7 [[.s [.c 100, .c 105, .c 115, .c 112, .c 108, .c 97, .c 121], .i .i64 1, .i .i64 6, .i .i64 0, .i .i64 0, .i .i64 0, .i .u32 0]]]]))
def rd4 : V := (.d (.l 2 [[.b false, .l 7 [[.s [.c 100, .c 105, .c 115, .c 112, .c 108, .c 97, .c 121], .i .i64 1, .i .i64 2, .i .i64 0, .i .i64 0, .i .i64 0, .i .u32 0]]]]))
def rd5 : V := (.d (.l 2 [[.b false, .l 7 [[.s [.c 109, .c 97, .c 114, .c 103, .c 105, .c 110, .c 45, .c 116, .c 111, .c 112], .i .i64 1, .i .i64 0, .i .i64 1, .i .i64 1024, .i .i64 0, .i .u32 0], [.s [.c 109, .c 97, .c 114, .c 103, .c 105, .c 110, .c 45, .c 114, .c 105, .c 103, .c 104, .c 116], .i .i64 1, .i .i64 0, .i .i64 1, .i .i64 0, .i .i64 0, .i .u32 0], [.s [.c 109, .c 97, .c 114, .c 103, .c 105, .c 110, .c 45, .c 98, .c 111, .c 116, .c 116, .c 111, .c 109], .i .i64 1, .i .i64 0, .i .i64 1, .i .i64 1024, .i .i64 0, .i .u32 0], [.s [.c 109, .c 97, .c 114, .c 103, .c 105, .c 110, .c 45, .c 108, .c 101, .c 102, .c 116], .i .i64 1, .i .i64 0, .i .i64 1, .i .i64 0, .i .i64 0, .i .u32 0]]]]))
def rd6 : V := (.d (.l 2 [[.b false, .l 7 [[.s [.c 112, .c 97, .c 100, .c 100, .c 105, .c 110, .c 103, .c 45, .c 108, .c 101, .c 102, .c 116], .i .i64 1, .i .i64 0, .i .i64 1, .i .i64 2560, .i .i64 0, .i .u32 0]]]]))
def rd7 : V := (.d (.l 2 [[.b false, .l 7 [[.s [.c 102, .c 111, .c 110, .c 116, .c 45, .c 115, .c 105, .c 122, .c 101], .i .i64 1, .i .i64 0, .i .i64 0, .i .i64 0, .i .i64 2048, .i .u32 0]]], [.b false, .l 7 [[.s [.c 109, .c 97, .c 114, .c 103, .c 105, .c 110, .c 45, .c 116, .c 111, .c 112], .i .i64 1, .i .i64 0, .i .i64 1, .i .i64 1024, .i .i64 0, .i .u32 0], [.s [.c 109, .c 97, .c 114, .c 103, .c 105, .c 110, .c 45, .c 114, .c 105, .c 103, .c 104, .c 116], .i .i64 1, .i .i64 0, .i .i64 1, .i .i64 0, .i .i64 0, .i .u32 0], [.s [.c 109, .c 97, .c 114, .c 103, .c 105, .c 110, .c 45, .c 98, .c 111, .c 116, .c 116, .c 111, .c 109], .i .i64 1, .i .i64 0, .i .i64 1, .i .i64 1024, .i .i64 0, .i .u32 0], [.s [.c 109, .c 97, .c 114, .c 103, .c 105, .c 110, .c 45, .c 108, .c 101, .c 102, .c 116], .i .i64 1, .i .i64 0, .i .i64 1, .i .i64 0, .i .i64 0, .i .u32 0]]]]))
def rd8 : V := (.d (.l 2 [[.b false, .l 7 [[.s [.c 99, .c 111, .c 108, .c 111, .c 114], .i .i64 2, .i .i64 0, .i .i64 0, .i .i64 0, .i .i64 0, .i .u32 0]]]]))
def ra0 : V := (.d (.l 2 [[.b false, .l 7 [[.s [.c 100, .c 105, .c 115, .c 112, .c 108, .c 97, .c 121], .i .i64 1, .i .i64 3, .i .i64 0, .i .i64 0, .i .i64 0, .i .u32 0]]], [.b false, .l 7 [[.s [.c 119, .c 105, .c 100, .c 116, .c 104], .i .i64 1, .i .i64 0, .i .i64 1, wD, .i .i64 0, .i .u32 0]]]]))
def ra1 : V := (.d (.l 2 [[.b false, .l 7 [[.s [.c 109, .c 97, .c 114, .c 103, .c 105, .c 110, .c 45, .c 116, .c 111, .c 112], .i .i64 1, .i .i64 0, .i .i64 1, .i .i64 0, .i .i64 0, .i .u32 0], [.s [.c 109, .c 97, .c 114, .c 103, .c 105, .c 110, .c 45, .c 114, .c 105, .c 103, .c 104, .c 116], .i .i64 1, .i .i64 0, .i .i64 1, .i .i64 0, .i .i64 0, .i .u32 0], [.s [.c 109, .c 97, .c 114, .c 103, .c 105, .c 110, .c 45, .c 98, .c 111, .c 116, .c 116, .c 111, .c 109], .i .i64 1, .i .i64 0, .i .i64 1, .i .i64 0, .i .i64 0, .i .u32 0], [.s [.c 109, .c 97, .c 114, .c 103, .c 105, .c 110, .c 45, .c 108, .c 101, .c 102, .c 116], .i .i64 1, .i .i64 0, .i .i64 1, .i .i64 0, .i .i64 0, .i .u32 0]]], [.b false, .l 7 [[.s [.c 119, .c 105, .c 100, .c 116, .c 104], .i .i64 1, .i .i64 0, .i .i64 1, .i .i64 128, .i .i64 0, .i .u32 0]]], [.b false, .l 7 [[.s [.c 104, .c 101, .c 105, .c 103, .c 104, .c 116], .i .i64 1, .i .i64 0, .i .i64 1, .i .i64 192, .i .i64 0, .i .u32 0]]], [.b false, .l 7 [[.s [.c 98, .c 97, .c 99, .c 107, .c 103, .c 114, .c 111, .c 117, .c 110, .c 100], .i .i64 1, .i .i64 0, .i .i64 0, .i .i64 0, .i .i64 0, .i .u32 4278190335]]]]))
theorem rd0_run : pcB (enH []) 40 114 [.d (declOf houseR 0)] rd0 = true := by decide +kernel
theorem rd1_run : pcB (enH []) 40 114 [.d (declOf houseR 1)] rd1 = true := by decide +kernel
theorem rd2_run : pcB (enH []) 40 114 [.d (declOf houseR 2)] rd2 = true := by decide +kernel
theorem rd3_run : pcB (enH []) 40 114 [.d (declOf houseR 3)] rd3 = true := by decide +kernel
theorem rd4_run : pcB (enH []) 40 114 [.d (declOf houseR 4)] rd4 = true := by decide +kernel
theorem rd5_run : pcB (enH []) 40 114 [.d (declOf houseR 5)] rd5 = true := by decide +kernel
theorem rd6_run : pcB (enH []) 40 114 [.d (declOf houseR 6)] rd6 = true := by decide +kernel
theorem rd7_run : pcB (enH []) 40 114 [.d (declOf houseR 7)] rd7 = true := by decide +kernel
theorem rd8_run : pcB (enH []) 40 114 [.d (declOf houseR 8)] rd8 = true := by decide +kernel
theorem ra0_run : pcB (enH []) 40 114 [.d (declOf cssR 0)] ra0 = true := by decide +kernel
theorem ra1_run : pcB (enH []) 40 114 [.d (declOf cssR 1)] ra1 = true := by decide +kernel
noncomputable def orcR : List (FuncId × (List V → Option V)) := [(114, orc1 [.d (declOf houseR 0)] rd0), (114, orc1 [.d (declOf houseR 1)] rd1), (114, orc1 [.d (declOf houseR 2)] rd2), (114, orc1 [.d (declOf houseR 3)] rd3), (114, orc1 [.d (declOf houseR 4)] rd4), (114, orc1 [.d (declOf houseR 5)] rd5), (114, orc1 [.d (declOf houseR 6)] rd6), (114, orc1 [.d (declOf houseR 7)] rd7), (114, orc1 [.d (declOf houseR 8)] rd8), (114, orc1 [.d (declOf cssR 0)] ra0), (114, orc1 [.d (declOf cssR 1)] ra1)]
/-- how much the i-th box grows: in 64ths as it is written; as a number. -/
def gX (i : Nat) : Ex := (((Ex.c 0).add ((Ex.v i).sub (Ex.c 48))).mul (Ex.c 64)).add (Ex.c 0)
def gE (i : Nat) : Ex := (gX i).div (Ex.c 64)
def gD (i : Nat) : D := .x .i64 (gX i) 0 576
def grD (i : Nat) : D := .x .i64 (gE i) 0 9
noncomputable def taN (i : Nat) : V := .d (.l 5 [[iN 1, .s (kB n_grow), iN 0, .s [], .b false], [iN 6, .s [.c 58], iN 0, .s [], .b false], [iN 4, .s [], gD i, .s [], .b true]])
noncomputable def daN (i : Nat) : V := .d (.l 3 [[.s (kB n_grow), .l 5 [[iN 4, .s [], gD i, .s [], .b true]], .b false]])
noncomputable def gaN (i : Nat) : V := .d (.l 2 [[.b false, .l 7 [[.s (kB n_grow), iN 1, iN 0, iN 0, iN 0, grD i, .i .u32 0]]]])
noncomputable def attB (i : Nat) : Bool := Bool.rec false (Bool.rec false (pcB (enH []) 40 114 [daN i] (gaN i)) (pcB (enH []) 40 101 [taN i] (daN i))) (pcB (enH []) 40 47 [runesB (atB i)] (taN i))
noncomputable def allU (p : Nat → Bool) (n : Nat) : Bool := Nat.rec true (fun k ih => Bool.rec false (p k) ih) n
theorem att_all : allU attB 12 = true := by decide +kernel
noncomputable def orcA (n : Nat) : List (FuncId × (List V → Option V)) := upN (fun i => [(47, orc1 [runesB (atB i)] (taN i)), (101, orc1 [taN i] (daN i)), (114, orc1 [daN i] (gaN i))]) n 0
variable [Val]
theorem orcR_ok (hG : Val.G = gS) : ∀ p ∈ orcR, OrcT Tryz.prog p.1 p.2 := by
  intro p hp
  rcases List.mem_cons.1 hp with rfl | hp
  · exact .one (pcH no_orc hG rd0_run)
  rcases List.mem_cons.1 hp with rfl | hp
  · exact .one (pcH no_orc hG rd1_run)
  rcases List.mem_cons.1 hp with rfl | hp
  · exact .one (pcH no_orc hG rd2_run)
  rcases List.mem_cons.1 hp with rfl | hp
  · exact .one (pcH no_orc hG rd3_run)
  rcases List.mem_cons.1 hp with rfl | hp
  · exact .one (pcH no_orc hG rd4_run)
  rcases List.mem_cons.1 hp with rfl | hp
  · exact .one (pcH no_orc hG rd5_run)
  rcases List.mem_cons.1 hp with rfl | hp
  · exact .one (pcH no_orc hG rd6_run)
  rcases List.mem_cons.1 hp with rfl | hp
  · exact .one (pcH no_orc hG rd7_run)
  rcases List.mem_cons.1 hp with rfl | hp
  · exact .one (pcH no_orc hG rd8_run)
  rcases List.mem_cons.1 hp with rfl | hp
  · exact .one (pcH no_orc hG ra0_run)
  rcases List.mem_cons.1 hp with rfl | hp
  · exact .one (pcH no_orc hG ra1_run)
  cases hp
theorem allU_ok {p : Nat → Bool} : ∀ {n : Nat}, allU p n = true → ∀ k, k < n → p k = true
  | 0, _, k, hk => by omega
  | n + 1, h, k, hk => by
    obtain ⟨h1, h2⟩ := brec_ok (show (Bool.rec false (p n) (allU p n) : Bool) = true from h)
    by_cases e : k = n
    · subst e; exact h2
    · exact allU_ok h1 k (by omega)
theorem upN_mem {α : Type} {f : Nat → List α} {x : α} : ∀ {n i : Nat}, x ∈ upN f n i → ∃ k, i ≤ k ∧ k < i + n ∧ x ∈ f k
  | 0, i, h => by cases h
  | n + 1, i, h => by
    rcases List.mem_append.1 (show x ∈ f i ++ upN f n (i + 1) from h) with h | h
    · exact ⟨i, Nat.le_refl _, by omega, h⟩
    · obtain ⟨k, a, b, c⟩ := upN_mem h
      exact ⟨k, by omega, by omega, c⟩
theorem orcA_ok (hG : Val.G = gS) {n : Nat} (hn : n ≤ 12) : ∀ p ∈ orcA n, OrcT Tryz.prog p.1 p.2 := by
  intro p hp
  obtain ⟨i, _, hi, hp⟩ := upN_mem hp
  obtain ⟨h1, h2⟩ := brec_ok (show (Bool.rec false (Bool.rec false (pcB (enH []) 40 114 [daN i] (gaN i)) (pcB (enH []) 40 101 [taN i] (daN i))) (pcB (enH []) 40 47 [runesB (atB i)] (taN i)) : Bool) = true from allU_ok att_all i (by omega))
  obtain ⟨h2, h3⟩ := brec_ok h2
  rcases List.mem_cons.1 hp with rfl | hp
  · exact .one (pcH no_orc hG h1)
  rcases List.mem_cons.1 hp with rfl | hp
  · exact .one (pcH no_orc hG h2)
  rcases List.mem_cons.1 hp with rfl | hp
  · exact .one (pcH no_orc hG h3)
  cases hp
end Go.Abs
