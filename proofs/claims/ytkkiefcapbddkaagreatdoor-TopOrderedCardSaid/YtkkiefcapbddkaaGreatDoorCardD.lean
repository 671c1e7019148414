/-
  the witness holds the package variables.
-/
import Derived.Test.YtkkiefcapbddkaaGreatDoorCardA
import Derived.Lib.LaidIn
set_option linter.all false
namespace Go.Proofs.YtkkiefcapbddkaaGreatDoor.topOrdered
open Go.ChangeShapes Go.WideShapes Go.ChangeAt Go.RowKit Mem Opn Lib
set_option maxRecDepth 100000
noncomputable abbrev N0 : Nat := (World.settled Tryz.prog default).heap.size
noncomputable abbrev witW (os : Os) : World := ((laidWorld os).forCall (fun _ _ => 0) ⟨#[], #[.slice none 0 0, .agg #[.int .i64 0, .int .i64 0, .slice none 0 0]], []⟩).memory
def l_a : List (String × DataW Unit) := [("unicode/utf8.acceptRanges", Rows.laid_unicode_utf8_acceptRanges)]
theorem h1_a (os : Os) : (DataW.laidRun Tryz.prog (witW os) 8 (l_a.map (·.1))).map (·.1) = some l_a := by kernel_rfl
theorem h2_a (os : Os) : (DataW.laidRun Tryz.prog (witW os) 8 (l_a.map (·.1))).map (fun x => nodupB (x.2.map MemPlace.codeOf)) = some true := by kernel_rfl
theorem h3_a (os : Os) : (DataW.laidRun Tryz.prog (witW os) 8 (l_a.map (·.1))).map (fun x => laidRowsB Tryz.prog (witW os) x.2) = some true := by kernel_rfl
theorem h4_a (os : Os) : (DataW.laidRun Tryz.prog (witW os) 8 (l_a.map (·.1))).map (fun x => x.2.all fun p => (List.contains [2] p.block)) = some true := by kernel_rfl
theorem in_a (os : Os) : LaidIn Tryz.prog (witW os) l_a [2] := LaidIn.of_run [2] 8 (h1_a os) (h2_a os) (h3_a os) (h4_a os)
def l_w : List (String × DataW Unit) := [("unicode.White_Space", Rows.laid_unicode_White_Space)]
theorem h1_w (os : Os) : (DataW.laidRun Tryz.prog (witW os) 8 (l_w.map (·.1))).map (·.1) = some l_w := by kernel_rfl
theorem h2_w (os : Os) : (DataW.laidRun Tryz.prog (witW os) 8 (l_w.map (·.1))).map (fun x => nodupB (x.2.map MemPlace.codeOf)) = some true := by kernel_rfl
theorem h3_w (os : Os) : (DataW.laidRun Tryz.prog (witW os) 8 (l_w.map (·.1))).map (fun x => laidRowsB Tryz.prog (witW os) x.2) = some true := by kernel_rfl
theorem h4_w (os : Os) : (DataW.laidRun Tryz.prog (witW os) 8 (l_w.map (·.1))).map (fun x => x.2.all fun p => (List.contains [4, N0 + 1, N0] p.block)) = some true := by kernel_rfl
theorem in_w (os : Os) : LaidIn Tryz.prog (witW os) l_w [4, N0 + 1, N0] := LaidIn.of_run [4, N0 + 1, N0] 8 (h1_w os) (h2_w os) (h3_w os) (h4_w os)
def l_s : List (String × DataW Unit) := [("strings.asciiSpace", Rows.laid_strings_asciiSpace)]
theorem h1_s (os : Os) : (DataW.laidRun Tryz.prog (witW os) 8 (l_s.map (·.1))).map (·.1) = some l_s := by kernel_rfl
theorem h2_s (os : Os) : (DataW.laidRun Tryz.prog (witW os) 8 (l_s.map (·.1))).map (fun x => nodupB (x.2.map MemPlace.codeOf)) = some true := by kernel_rfl
theorem h3_s (os : Os) : (DataW.laidRun Tryz.prog (witW os) 8 (l_s.map (·.1))).map (fun x => laidRowsB Tryz.prog (witW os) x.2) = some true := by kernel_rfl
theorem h4_s (os : Os) : (DataW.laidRun Tryz.prog (witW os) 8 (l_s.map (·.1))).map (fun x => x.2.all fun p => (List.contains [3] p.block)) = some true := by kernel_rfl
theorem in_s (os : Os) : LaidIn Tryz.prog (witW os) l_s [3] := LaidIn.of_run [3] 8 (h1_s os) (h2_s os) (h3_s os) (h4_s os)
def l_f : List (String × DataW Unit) := [("unicode/utf8.first", Rows.laid_unicode_utf8_first)]
theorem h1_f (os : Os) : (DataW.laidRun Tryz.prog (witW os) 8 (l_f.map (·.1))).map (·.1) = some l_f := by kernel_rfl
theorem h2_f (os : Os) : (DataW.laidRun Tryz.prog (witW os) 8 (l_f.map (·.1))).map (fun x => nodupB (x.2.map MemPlace.codeOf)) = some true := by kernel_rfl
theorem h3_f (os : Os) : (DataW.laidRun Tryz.prog (witW os) 8 (l_f.map (·.1))).map (fun x => laidRowsB Tryz.prog (witW os) x.2) = some true := by kernel_rfl
theorem h4_f (os : Os) : (DataW.laidRun Tryz.prog (witW os) 8 (l_f.map (·.1))).map (fun x => x.2.all fun p => (List.contains [1] p.block)) = some true := by kernel_rfl
theorem in_f (os : Os) : LaidIn Tryz.prog (witW os) l_f [1] := LaidIn.of_run [1] 8 (h1_f os) (h2_f os) (h3_f os) (h4_f os)
theorem laid_met (os : Os) : laidMet Tryz.prog Rows.topOrderedRow.laid (witW os) :=
  ((((in_a os).append (in_w os) (by kernel_rfl)).append (in_s os) (by kernel_rfl)).append (in_f os) (by kernel_rfl)).met
end Go.Proofs.YtkkiefcapbddkaaGreatDoor.topOrdered
