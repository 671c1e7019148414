/-
  what the declarations say.
-/
import Derived.Test.YtkkiefcapbddkaaGreatDoorLayH
set_option linter.all false
namespace Go.Abs
open Go.RowKit Go.Proofs
set_option maxRecDepth 1000000
def rowsOf (v : V) : List (List D) := match v with | .tu (.d (.l _ r) :: _) => r | _ => []
def declOf (v : V) (i : Nat) : D := match (rowsOf v)[i]? with | some [_, d] => d | _ => .z
def rd0 : V := (.d (.l 2 [[.b false, .l 7 [[.s [.c 100, .c 105, .c 115, .c 112, .c 108, .c 97, .c 121], .i .i64 1, .i .i64 1, .i .i64 0, .i .i64 0, .i .i64 0, .i .u32 0]]]]))
def rd1 : V := (.d (.l 2 [[.b false, .l 7 [[.s [.c 100, .c 105, .c 115, .c 112, .c 108, .c 97, .c 121], .i .i64 1, .i .i64 4, .i .i64 0, .i .i64 0, .i .i64 0, .i .u32 0]]]]))
def rd2 : V := (.d (.l 2 [[.b false, .l 7 [[.s [.c 100, .c 105, .c 115, .c 112, .c 108, .c 97, .c 121], .i .i64 1, .i .i64 5, .i .i64 0, .i .i64 0, .i .i64 0, .i .u32 0]]]]))
def rd3 : V := (.d (.l 2 [[.b false, .l 7 [[.s [.c 100, .c 105, .c 115, .c 112, .c 108, .c 97, .c 121], .i .i64 1, .i .i64 6, .i .i64 0, .i .i64 0, .i .i64 0, .i .u32 0]]]]))
def rd4 : V := (.d (.l 2 [[.b false, .l 7 [[.s [.c 100, .c 105, .c 115, .c 112, .c 108, .c 97, .c 121], .i .i64 1, .i .i64 2, .i .i64 0, .i .i64 0, .i .i64 0, .i .u32 0]]]]))
def rd5 : V := (.d (.l 2 [[.b false, .l 7 [[.s [.c 109, .c 97, .c 114, .c 103, .c 105, .c 110, .c 45, .c 116, .c 111, .c 112], .i .i64 1, .i .i64 0, .i .i64 1, .i .i64 1024, .i .i64 0, .i .u32 0], [.s [.c 109, .c 97, .c 114, .c 103, .c 105, .c 110, .c 45, .c 114, .c 105, .c 103, .c 104, .c 116], .i .i64 1, .i .i64 0, .i .i64 1, .i .i64 0, .i .i64 0, .i .u32 0], [.s [.c 109, .c 97, .c 114, .c 103, .c 105, .c 110, .c 45, .c 98, .c 111, .c 116, .c 116, .c 111, .c 109], .i .i64 1, .i .i64 0, .i .i64 1, .i .i64 1024, .i .i64 0, .i .u32 0], [.s [.c 109, .c 97, .c 114, .c 103, .c 105, .c 110, .c 45, .c 108, .c 101, .c 102, .c 116], .i .i64 1, .i .i64 0, .i .i64 1, .i .i64 0, .i .i64 0, .i .u32 0]]]]))
def rd6 : V := (.d (.l 2 [[.b false, .l 7 [[.s [.c 112, .c 97, .c 100, .c 100, .c 105, .c 110, .c 103, .c 45, .c 108, .c 101, .c 102, .c 116], .i .i64 1, .i .i64 0, .i .i64 1, .i .i64 2560, .i .i64 0, .i .u32 0]]]]))
def rd7 : V := (.d (.l 2 [[.b false, .l 7 [[.s [.c 102, .c 111, .c 110, .c 116, .c 45, .c 115, .c 105, .c 122, .c 101], .i .i64 1, .i .i64 0, .i .i64 0, .i .i64 0, .i .i64 2048, .i .u32 0]]], [.b false, .l 7 [[.s [.c 109, .c 97, .c 114, .c 103, .c 105, .c 110, .c 45, .c 116, .c 111, .c 112], .i .i64 1, .i .i64 0, .i .i64 1, .i .i64 1024, .i .i64 0, .i .u32 0], [.s [.c 109, .c 97, .c 114, .c 103, .c 105, .c 110, .c 45, .c 114, .c 105, .c 103, .c 104, .c 116], .i .i64 1, .i .i64 0, .i .i64 1, .i .i64 0, .i .i64 0, .i .u32 0], [.s [.c 109, .c 97, .c 114, .c 103, .c 105, .c 110, .c 45, .c 98, .c 111, .c 116, .c 116, .c 111, .c 109], .i .i64 1, .i .i64 0, .i .i64 1, .i .i64 1024, .i .i64 0, .i .u32 0], [.s [.c 109, .c 97, .c 114, .c 103, .c 105, .c 110, .c 45, .c 108, .c 101, .c 102, .c 116], .i .i64 1, .i .i64 0, .i .i64 1, .i .i64 0, .i .i64 0, .i .u32 0]]]]))
def rd8 : V := (.d (.l 2 [[.b false, .l 7 [[.s [.c 99, .c 111, .c 108, .c 111, .c 114], .i .i64 2, .i .i64 0, .i .i64 0, .i .i64 0, .i .i64 0, .i .u32 0]]]]))
def ra0 : V := (.d (.l 2 [[.b false, .l 7 [[.s [.c 100, .c 105, .c 115, .c 112, .c 108, .c 97, .c 121], .i .i64 1, .i .i64 3, .i .i64 0, .i .i64 0, .i .i64 0, .i .u32 0]]]]))
def ra1 : V := (.d (.l 2 [[.b false, .l 7 [[.s [.c 109, .c 97, .c 114, .c 103, .c 105, .c 110, .c 45, .c 116, .c 111, .c 112], .i .i64 1, .i .i64 0, .i .i64 1, .i .i64 0, .i .i64 0, .i .u32 0], [.s [.c 109, .c 97, .c 114, .c 103, .c 105, .c 110, .c 45, .c 114, .c 105, .c 103, .c 104, .c 116], .i .i64 1, .i .i64 0, .i .i64 1, .i .i64 0, .i .i64 0, .i .u32 0], [.s [.c 109, .c 97, .c 114, .c 103, .c 105, .c 110, .c 45, .c 98, .c 111, .c 116, .c 116, .c 111, .c 109], .i .i64 1, .i .i64 0, .i .i64 1, .i .i64 0, .i .i64 0, .i .u32 0], [.s [.c 109, .c 97, .c 114, .c 103, .c 105, .c 110, .c 45, .c 108, .c 101, .c 102, .c 116], .i .i64 1, .i .i64 0, .i .i64 1, .i .i64 0, .i .i64 0, .i .u32 0]]], [.b false, .l 7 [[.s [.c 102, .c 108, .c 101, .c 120, .c 45, .c 115, .c 104, .c 114, .c 105, .c 110, .c 107], .i .i64 1, .i .i64 0, .i .i64 0, .i .i64 0, .i .i64 0, .i .u32 0]]], [.b false, .l 7 [[.s [.c 119, .c 105, .c 100, .c 116, .c 104], .i .i64 1, .i .i64 0, .i .i64 1, .i .i64 128, .i .i64 0, .i .u32 0]]], [.b false, .l 7 [[.s [.c 104, .c 101, .c 105, .c 103, .c 104, .c 116], .i .i64 1, .i .i64 0, .i .i64 1, .i .i64 192, .i .i64 0, .i .u32 0]]], [.b false, .l 7 [[.s [.c 98, .c 97, .c 99, .c 107, .c 103, .c 114, .c 111, .c 117, .c 110, .c 100], .i .i64 1, .i .i64 0, .i .i64 0, .i .i64 0, .i .i64 0, .i .u32 4278190335]]]]))
theorem rd0_run : pcB (enH []) 40 114 [.d (declOf houseR 0)] rd0 = true := by decide +kernel
theorem rd1_run : pcB (enH []) 40 114 [.d (declOf houseR 1)] rd1 = true := by decide +kernel
theorem rd2_run : pcB (enH []) 40 114 [.d (declOf houseR 2)] rd2 = true := by decide +kernel
theorem rd3_run : pcB (enH []) 40 114 [.d (declOf houseR 3)] rd3 = true := by decide +kernel
theorem rd4_run : pcB (enH []) 40 114 [.d (declOf houseR 4)] rd4 = true := by decide +kernel
theorem rd5_run : pcB (enH []) 40 114 [.d (declOf houseR 5)] rd5 = true := by decide +kernel
theorem rd6_run : pcB (enH []) 40 114 [.d (declOf houseR 6)] rd6 = true := by decide +kernel
theorem rd7_run : pcB (enH []) 40 114 [.d (declOf houseR 7)] rd7 = true := by decide +kernel
theorem rd8_run : pcB (enH []) 40 114 [.d (declOf houseR 8)] rd8 = true := by decide +kernel
theorem ra0_run : pcB (enH []) 40 114 [.d (declOf cssOR 0)] ra0 = true := by decide +kernel
theorem ra1_run : pcB (enH []) 40 114 [.d (declOf cssOR 1)] ra1 = true := by decide +kernel
noncomputable def orcRO : List (FuncId × (List V → Option V)) := [(114, orc1 [.d (declOf houseR 0)] rd0), (114, orc1 [.d (declOf houseR 1)] rd1), (114, orc1 [.d (declOf houseR 2)] rd2), (114, orc1 [.d (declOf houseR 3)] rd3), (114, orc1 [.d (declOf houseR 4)] rd4), (114, orc1 [.d (declOf houseR 5)] rd5), (114, orc1 [.d (declOf houseR 6)] rd6), (114, orc1 [.d (declOf houseR 7)] rd7), (114, orc1 [.d (declOf houseR 8)] rd8), (114, orc1 [.d (declOf cssOR 0)] ra0), (114, orc1 [.d (declOf cssOR 1)] ra1)]
def ordN (o : Int) : List Nat := (if o < 0 then [45] else []) ++ [48 + o.natAbs]
def ordS (o : Int) : List Nat := List.append n_order (58 :: ordN o)
noncomputable def tokC (o : Int) : D := .l 5 [[iN 1, .s (kB n_order), iN 0, .s [], .b false], [iN 6, .s [.c 58], iN 0, .s [], .b false], [iN 4, .s [], iN (64 * o), .s [], .b true]]
noncomputable def decC (o : Int) : D := .l 3 [[.s (kB n_order), .l 5 [[iN 4, .s [], iN (64 * o), .s [], .b true]], .b false]]
noncomputable def ownC (o : Int) : D := .l 2 [[.b false, .l 7 [[.s (kB n_order), iN 1, iN 0, iN 0, iN 0, iN o, .i .u32 0]]]]
noncomputable def runC (l : List Nat) : D := .l 1 (l.map fun c => [.i .i32 (Int.ofNat c)])
noncomputable def ordB (o : Int) : Bool := Bool.rec false (Bool.rec false (pcB (enH []) 40 114 [.d (decC o)] (.d (ownC o))) (pcB (enH []) 40 101 [.d (tokC o)] (.d (decC o)))) (pcB (enH []) 40 47 [.d (runC (ordS o))] (.d (tokC o)))
noncomputable def allU (p : Nat → Bool) (n : Nat) : Bool := Nat.rec true (fun k ih => Bool.rec false (p k) ih) n
theorem ord_all : allU (fun k => ordB (Int.sub (Int.ofNat k) 9)) 19 = true := by decide +kernel
noncomputable def orcWi (i : Nat) : List (FuncId × (List V → Option V)) := [(47, orc1 [.d (.o (i + 101))] (.d (.o (i + 201)))), (101, orc1 [.d (.o (i + 201))] (.d (.o (i + 301)))), (114, orc1 [.d (.o (i + 301))] (ownO i))]
noncomputable def qOwn (n i : Nat) : Bool := pcB (enP (orcWi i)) 40 185 [treeO n, .d (iN (Int.ofNat (i + 2)))] (ownO i)
noncomputable def qSty (n : Nat) : Bool := pcB (enH (List.append (orcOwn n) orcRO)) 40 48 [treeO n, .d cssOL] (styO n)
variable [Val]
theorem orcRO_ok (hG : Val.G = gS) : ∀ p ∈ orcRO, OrcT Tryz.prog p.1 p.2 := by
  intro p hp
  rcases List.mem_cons.1 hp with rfl | hp
  · exact .one (pcH no_orc hG rd0_run)
  rcases List.mem_cons.1 hp with rfl | hp
  · exact .one (pcH no_orc hG rd1_run)
  rcases List.mem_cons.1 hp with rfl | hp
  · exact .one (pcH no_orc hG rd2_run)
  rcases List.mem_cons.1 hp with rfl | hp
  · exact .one (pcH no_orc hG rd3_run)
  rcases List.mem_cons.1 hp with rfl | hp
  · exact .one (pcH no_orc hG rd4_run)
  rcases List.mem_cons.1 hp with rfl | hp
  · exact .one (pcH no_orc hG rd5_run)
  rcases List.mem_cons.1 hp with rfl | hp
  · exact .one (pcH no_orc hG rd6_run)
  rcases List.mem_cons.1 hp with rfl | hp
  · exact .one (pcH no_orc hG rd7_run)
  rcases List.mem_cons.1 hp with rfl | hp
  · exact .one (pcH no_orc hG rd8_run)
  rcases List.mem_cons.1 hp with rfl | hp
  · exact .one (pcH no_orc hG ra0_run)
  rcases List.mem_cons.1 hp with rfl | hp
  · exact .one (pcH no_orc hG ra1_run)
  cases hp
end Go.Abs
