/-
  Quiet callees in a region that draws its order and ends in a store: the text's order.
-/
import Derived.Test.YteghacdpfhohoaaFix
import Derived.Test.YteghacdpfhohoaaMem
import Derived.StillTailTactics
import Derived.StillTactics
import Derived.Deep.RegionHeld3
import Derived.Deep.QuietTactic
import Derived.BigQuiet
import Derived.Deep.DeepCutAuto
namespace Go.Proofs.Yteghacdpfhohoaa
open Go.RowKit Num Mem
/-- a region that reads and calls quietly, and then stores: in the text's order. -/
theorem region_tail {P : Program} {id : Nat} {Q : Exit → Act → World → Prop} {a : Act} {w : World} {l : List Oper} (n : Nat) (hm : P.follows .mixedOrders = true) (hB : Region.lexTailB .any l.toArray n = true)
    (h : wpStill P l.toArray w.drew (fun a' => wpList P l.toArray Q (l.drop n) a' w.drew) (l.take n) a) : (Code.region id l.toArray true).wp P Q a w :=
  wp_region_still_tail n hm hB h
theorem sat_still (n : Int) (w : World) : Calls Try.prog 50 #[.int .i64 n] w fun e w' => e = .returned (.int .i64 (sat n)) ∧ w' = w := (fixed_Sat n w).mono fun _ _ ⟨h, h'⟩ => ⟨h, h'.symm⟩
theorem add_still (a b : Int) (w : World) : Calls Try.prog 53 #[.int .i64 a, .int .i64 b] w fun e w' => e = .returned (.int .i64 (add a b)) ∧ w' = w := (fixed_Add a b w).mono fun _ _ ⟨h, h'⟩ => ⟨h, h'.symm⟩
theorem sub_still (a b : Int) (w : World) : Calls Try.prog 51 #[.int .i64 a, .int .i64 b] w fun e w' => e = .returned (.int .i64 (sub a b)) ∧ w' = w := (fixed_Sub a b w).mono fun _ _ ⟨h, h'⟩ => ⟨h, h'.symm⟩
end Go.Proofs.Yteghacdpfhohoaa
