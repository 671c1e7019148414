/-
  the package variables, a world for the witness.
-/
import Derived.Test.YtkkiefcapbddkaaGreatDoorLayN
import Derived.Test.YtkkiefcapbddkaaGreatDoorSeatA
import Derived.Test.YtkkiefcapbddkaaGreatDoorCards
import Derived.Test.YtkkiefcapbddkaaGreatDoorTie
import Derived.WalkKit
import Derived.ProofKit
import Derived.OpenShut
import Derived.Deep.DeepHandedRow
import Derived.Deep.DeepWitnessRowRef
import Derived.Lib.LaidTab
import Derived.Lib.LaidU8
import Derived.Stop.LaidErr
import Derived.LaidLaws
set_option linter.all false
namespace Go.Proofs.YtkkiefcapbddkaaGreatDoor.topOrdered
open Go.ChangeShapes Go.WideShapes Go.ChangeAt Go.RowKit Mem Opn
set_option maxRecDepth 100000

theorem own : ownKnob Tryz.prog.godebug = none := by kernel_rfl
theorem laidOut : laidOutB Tryz.prog = true := by kernel_rfl
theorem gSp : Tryz.prog.globalNamed "strings.asciiSpace" = some 3 := by kernel_rfl
theorem gSpType : (Tryz.prog.globals[3]?).map (·.type) = some 461 := by kernel_rfl
theorem cells461 : Tryz.prog.cellsOf 461 = 256 := by kernel_rfl
theorem cells5 : Tryz.prog.cellsOf 5 = 1 := by kernel_rfl
def spZ : List Int := List.replicate 9 0 ++ (List.replicate 5 1 ++ (List.replicate 18 0 ++ (1 :: List.replicate 223 0)))
theorem spZ_laid : Rows.laid_strings_asciiSpace (H := Unit) = Lib.tabData .u8 spZ := by rfl
theorem space_at {W : World} (h : laidMetH Tryz.prog Rows.topOrderedRow.laid W) : Go.Abs.SpAt W := by
  have h1 : laidMet Tryz.prog Rows.topOrderedRow.laid W := h
  have h2 : laidMet Tryz.prog [("strings.asciiSpace", Lib.tabData .u8 spZ), ("unicode/utf8.first", Rows.laid_unicode_utf8_first)] W := by
    have := h1.tail.tail
    rw [← spZ_laid]
    exact this
  have h3 := Lib.tabIs_of_head gSp gSpType Tryz.underlying461 Tryz.underlying5 cells5 cells461 h2
  unfold Lib.TabIs World.var? at h3
  rw [gSp] at h3
  simp only [Option.bind_some] at h3
  split at h3
  · next c t fz hb =>
    cases h3
    refine ⟨_, t, fz, hb, by simp [spZ], fun j d v h4 h5 => ?_⟩
    rw [List.getElem?_toArray, List.getElem?_map] at h5
    have key : Go.Abs.spRow = spZ.map fun z => Go.Abs.D.i .u8 z := by rfl
    rw [key, List.getElem?_map] at h4
    cases hz : spZ[j]? with
    | none => rw [hz] at h4; cases h4
    | some z =>
      rw [hz] at h4 h5
      cases h4; cases h5
      exact ⟨z, rfl, rfl⟩
  · cases h3
noncomputable def laidWorld (os : Os) : World :=
  let N := (World.settled Tryz.prog os).heap.size
  let w0 := World.holding Tryz.prog os ⟨#[.cells #[.int .u16 9, .int .u16 13, .int .u16 1, .int .u16 32, .int .u16 133, .int .u16 101, .int .u16 160, .int .u16 5760, .int .u16 5600, .int .u16 8192, .int .u16 8202, .int .u16 1, .int .u16 8232, .int .u16 8233, .int .u16 1, .int .u16 8239, .int .u16 8287, .int .u16 48, .int .u16 12288, .int .u16 12288, .int .u16 1] 501,
    .cells #[.slice (some ⟨N, 0, none⟩) 7 7, .slice none 0 0, .int .i64 2] 498], #[], []⟩
  let put (h : Array Obj) (g : Nat) (cs : Array Value) : Array Obj := h.modify g fun
    | .cells _ t frozen => .cells cs t frozen
    | o => o
  let h1 := put w0.heap 1 (Lib.firstTab.map fun z => Value.int .u8 z).toArray
  let h2 := put h1 2 ((List.range 16).flatMap fun i => [Value.int .u8 (Lib.accLo i), Value.int .u8 (Lib.accHi i)]).toArray
  let h3 := put h2 3 (spZ.map fun z => Value.int .u8 z).toArray
  let h4 := put h3 4 #[.pointer (some ⟨N + 1, 0, none⟩)]
  { w0 with heap := h4 }
end Go.Proofs.YtkkiefcapbddkaaGreatDoor.topOrdered
