/-
  No cell of these rows narrows 'for every input' (looked for: loops, veiled, ifaces, maps, wideKeys, modest, calm, conditions, laid).
  DERIVED. THE GIVEN ROWS OF THIS SEAT. 8 by the template 'for every input the law returns true; each argument reads behind the call as it read before'; 0 by the template 'total and deterministic' (their statements: YtebolanengnpfaaTotals.lean).
  GIVEN WITH THE SEED: the statements are not yours to turn. If you find one false, say at which input.
  Laid BY PROGRAM, IN A SANDBOX (cutbox-rows.mjs): the forced cells as the released guide's own fill.sh prints them over the translation c665b88ddf4c40ab… (all of the seat's roots in one cut). By AI agents, Wed Nov 11 2026. No macro, syntax, notation, axiom, sorry.
-/
import Derived.Test.YtebolanengnpfaaChecked
import GoSem.Claim
import GoSem.ClaimJoined
import GoSem.ClaimMapViews
import Derived.JoinedTies
import Derived.KernelRfl
namespace Go.Proofs.Ytebolanengnpfaa
/- THE CELL 'sum', in the pinned program and in every row, IS THE sha256 OF THE DUMP (.gsa) THAT YtebolanengnpfaaProg.lean LOADS. Nothing in Lean hashes anything: it is a label: what it is worth is what the hold of that sum in a sandbox is worth. -/
noncomputable def Try.pinned : Pinned := { name := "ytebolanengnpfaa", sum := "c665b88ddf4c40abbf6f4afacc5e133ca98ae5e0874cd4bd9189ef33b1bb7d59", checked := Try.checked }
namespace Rows
def none {H : Type} : Left H := { results := [], args := [] }

/-- 'casementlaw15.LinesBreak': WHATEVER THE INPUT: true; the input reads as it did. -/
def linesBreakSpec : ChangeSpec := { name := "linesBreak", fn := fun _ => fun
  | [d1, d2, d3, d4] => { results := [.lit (.bool true)], args := [d1, d2, d3, d4] }
  | _ => none }
def linesBreakRow : OpenClaim := { program := "ytebolanengnpfaa", sum := "c665b88ddf4c40abbf6f4afacc5e133ca98ae5e0874cd4bd9189ef33b1bb7d59", func := "casement/casementlaw15.LinesBreak", spec := "linesBreak", apart := false }
def LinesBreakSaid : Prop := linesBreakRow.holds Try.pinned (OpenSpec.ofChange linesBreakSpec)

/-- ITS FALSE NEIGHBOUR: 'it returns false'. Refute it at one input. -/
def linesBreakWrong : ChangeSpec := { name := "linesBreak", fn := fun _ => fun
  | [d1, d2, d3, d4] => { results := [.lit (.bool false)], args := [d1, d2, d3, d4] }
  | _ => none }
def LinesBreakWrongFalsely : Prop := linesBreakRow.holds Try.pinned (OpenSpec.ofChange linesBreakWrong)

/-- 'casementlaw15.LinesWhole': WHATEVER THE INPUT: true; the input reads as it did. -/
def linesWholeSpec : ChangeSpec := { name := "linesWhole", fn := fun _ => fun
  | [d1, d2] => { results := [.lit (.bool true)], args := [d1, d2] }
  | _ => none }
def linesWholeRow : OpenClaim := { program := "ytebolanengnpfaa", sum := "c665b88ddf4c40abbf6f4afacc5e133ca98ae5e0874cd4bd9189ef33b1bb7d59", func := "casement/casementlaw15.LinesWhole", spec := "linesWhole", apart := false }
def LinesWholeSaid : Prop := linesWholeRow.holds Try.pinned (OpenSpec.ofChange linesWholeSpec)

/-- ITS FALSE NEIGHBOUR: 'it returns false'. Refute it at one input. -/
def linesWholeWrong : ChangeSpec := { name := "linesWhole", fn := fun _ => fun
  | [d1, d2] => { results := [.lit (.bool false)], args := [d1, d2] }
  | _ => none }
def LinesWholeWrongFalsely : Prop := linesWholeRow.holds Try.pinned (OpenSpec.ofChange linesWholeWrong)

/-- 'casementlaw15.LinesNarrow': WHATEVER THE INPUT: true; the input reads as it did. -/
def linesNarrowSpec : ChangeSpec := { name := "linesNarrow", fn := fun _ => fun
  | [d1, d2, d3] => { results := [.lit (.bool true)], args := [d1, d2, d3] }
  | _ => none }
def linesNarrowRow : OpenClaim := { program := "ytebolanengnpfaa", sum := "c665b88ddf4c40abbf6f4afacc5e133ca98ae5e0874cd4bd9189ef33b1bb7d59", func := "casement/casementlaw15.LinesNarrow", spec := "linesNarrow", apart := false }
def LinesNarrowSaid : Prop := linesNarrowRow.holds Try.pinned (OpenSpec.ofChange linesNarrowSpec)

/-- ITS FALSE NEIGHBOUR: 'it returns false'. Refute it at one input. -/
def linesNarrowWrong : ChangeSpec := { name := "linesNarrow", fn := fun _ => fun
  | [d1, d2, d3] => { results := [.lit (.bool false)], args := [d1, d2, d3] }
  | _ => none }
def LinesNarrowWrongFalsely : Prop := linesNarrowRow.holds Try.pinned (OpenSpec.ofChange linesNarrowWrong)

/-- 'casementlaw15.LinesRoom': WHATEVER THE INPUT: true; the input reads as it did. -/
def linesRoomSpec : ChangeSpec := { name := "linesRoom", fn := fun _ => fun
  | [d] => { results := [.lit (.bool true)], args := [d] }
  | _ => none }
def linesRoomRow : OpenClaim := { program := "ytebolanengnpfaa", sum := "c665b88ddf4c40abbf6f4afacc5e133ca98ae5e0874cd4bd9189ef33b1bb7d59", func := "casement/casementlaw15.LinesRoom", spec := "linesRoom", apart := false }
def LinesRoomSaid : Prop := linesRoomRow.holds Try.pinned (OpenSpec.ofChange linesRoomSpec)

/-- ITS FALSE NEIGHBOUR: 'it returns false'. Refute it at one input. -/
def linesRoomWrong : ChangeSpec := { name := "linesRoom", fn := fun _ => fun
  | [d] => { results := [.lit (.bool false)], args := [d] }
  | _ => none }
def LinesRoomWrongFalsely : Prop := linesRoomRow.holds Try.pinned (OpenSpec.ofChange linesRoomWrong)

/-- 'casementlaw15.LinesNumbers': WHATEVER THE INPUT: true; the input reads as it did. -/
def linesNumbersSpec : ChangeSpec := { name := "linesNumbers", fn := fun _ => fun
  | [] => { results := [.lit (.bool true)], args := [] }
  | _ => none }
def linesNumbersRow : OpenClaim := { program := "ytebolanengnpfaa", sum := "c665b88ddf4c40abbf6f4afacc5e133ca98ae5e0874cd4bd9189ef33b1bb7d59", func := "casement/casementlaw15.LinesNumbers", spec := "linesNumbers", apart := false }
def LinesNumbersSaid : Prop := linesNumbersRow.holds Try.pinned (OpenSpec.ofChange linesNumbersSpec)

/-- ITS FALSE NEIGHBOUR: 'it returns false'. Refute it at one input. -/
def linesNumbersWrong : ChangeSpec := { name := "linesNumbers", fn := fun _ => fun
  | [] => { results := [.lit (.bool false)], args := [] }
  | _ => none }
def LinesNumbersWrongFalsely : Prop := linesNumbersRow.holds Try.pinned (OpenSpec.ofChange linesNumbersWrong)

/-- 'casementlaw15.LinesSet': WHATEVER THE INPUT: true; the input reads as it did. -/
def linesSetSpec : ChangeSpec := { name := "linesSet", fn := fun _ => fun
  | [d1, d2, d3, d4] => { results := [.lit (.bool true)], args := [d1, d2, d3, d4] }
  | _ => none }
def linesSetRow : OpenClaim := { program := "ytebolanengnpfaa", sum := "c665b88ddf4c40abbf6f4afacc5e133ca98ae5e0874cd4bd9189ef33b1bb7d59", func := "casement/casementlaw15.LinesSet", spec := "linesSet", apart := false }
def LinesSetSaid : Prop := linesSetRow.holds Try.pinned (OpenSpec.ofChange linesSetSpec)

/-- ITS FALSE NEIGHBOUR: 'it returns false'. Refute it at one input. -/
def linesSetWrong : ChangeSpec := { name := "linesSet", fn := fun _ => fun
  | [d1, d2, d3, d4] => { results := [.lit (.bool false)], args := [d1, d2, d3, d4] }
  | _ => none }
def LinesSetWrongFalsely : Prop := linesSetRow.holds Try.pinned (OpenSpec.ofChange linesSetWrong)

/-- 'casementlaw15.LinesApart': WHATEVER THE INPUT: true; the input reads as it did. -/
def linesApartSpec : ChangeSpec := { name := "linesApart", fn := fun _ => fun
  | [d1, d2, d3] => { results := [.lit (.bool true)], args := [d1, d2, d3] }
  | _ => none }
def linesApartRow : OpenClaim := { program := "ytebolanengnpfaa", sum := "c665b88ddf4c40abbf6f4afacc5e133ca98ae5e0874cd4bd9189ef33b1bb7d59", func := "casement/casementlaw15.LinesApart", spec := "linesApart", apart := false }
def LinesApartSaid : Prop := linesApartRow.holds Try.pinned (OpenSpec.ofChange linesApartSpec)

/-- ITS FALSE NEIGHBOUR: 'it returns false'. Refute it at one input. -/
def linesApartWrong : ChangeSpec := { name := "linesApart", fn := fun _ => fun
  | [d1, d2, d3] => { results := [.lit (.bool false)], args := [d1, d2, d3] }
  | _ => none }
def LinesApartWrongFalsely : Prop := linesApartRow.holds Try.pinned (OpenSpec.ofChange linesApartWrong)

/-- 'casementlaw15.LinesKept': WHATEVER THE INPUT: true; the input reads as it did. -/
def linesKeptSpec : ChangeSpec := { name := "linesKept", fn := fun _ => fun
  | [d1, d2] => { results := [.lit (.bool true)], args := [d1, d2] }
  | _ => none }
def linesKeptRow : OpenClaim := { program := "ytebolanengnpfaa", sum := "c665b88ddf4c40abbf6f4afacc5e133ca98ae5e0874cd4bd9189ef33b1bb7d59", func := "casement/casementlaw15.LinesKept", spec := "linesKept", unfollowed := true, recurses := true, apart := false }
def LinesKeptSaid : Prop := linesKeptRow.holds Try.pinned (OpenSpec.ofChange linesKeptSpec)

/-- ITS FALSE NEIGHBOUR: 'it returns false'. Refute it at one input. -/
def linesKeptWrong : ChangeSpec := { name := "linesKept", fn := fun _ => fun
  | [d1, d2] => { results := [.lit (.bool false)], args := [d1, d2] }
  | _ => none }
def LinesKeptWrongFalsely : Prop := linesKeptRow.holds Try.pinned (OpenSpec.ofChange linesKeptWrong)

/- THE SECOND FORM. 'bulk': how many values and letters a reading holds, each counted each time it is reached (what is shared counts as often as it is met; a slice's spare places count too). A statement '..UptoSaid' is the law's where the arguments, and the package variables that the reading takes, are together of bulk at most 1048576: NARROWER than '..Said'. Prove '..Said' where nothing that the law and all that it calls make is longer than what came in: it says more and counts as full. Else prove '..UptoSaid'. A law counts once. -/
mutual
def uptoBulk {H : Type} : DataW H → Nat
  | .lit (.string bytes) => bytes.length + 1
  | .lit _ => 1
  | .nil => 1
  | .ptr d => uptoBulk d + 1
  | .slice elems spare => uptoBulkAll elems + uptoBulkAll spare + 1
  | .agg parts => uptoBulkAll parts + 1
  | .iface _ d => uptoBulk d + 1
  | .map entries => uptoBulkEntries entries + 1
  | .held _ => 1
def uptoBulkAll {H : Type} : List (DataW H) → Nat
  | [] => 0
  | d :: r => uptoBulk d + uptoBulkAll r
def uptoBulkEntries {H : Type} : List (Lit × DataW H) → Nat
  | [] => 0
  | x :: r => uptoBulkEntry x + uptoBulkEntries r
def uptoBulkEntry {H : Type} : Lit × DataW H → Nat
  | (.string bytes, d) => bytes.length + uptoBulk d + 1
  | (_, d) => uptoBulk d + 1
 end
def uptoSmall : (H : Type) → List (DataW H) → Bool := fun _ ds => decide (uptoBulkAll ds ≤ 1048576)
def OpenSpec.upto (s : _root_.Go.ChangeSpec) : _root_.Go.OpenSpec := { _root_.Go.OpenSpec.ofChange s with cond := some uptoSmall }

/-- 'casementlaw15.LinesBreak', WHERE WHAT IT READS IS OF BULK AT MOST 1048576: true; the input reads as it did. -/
def linesBreakUptoRow : OpenClaim := { program := "ytebolanengnpfaa", sum := "c665b88ddf4c40abbf6f4afacc5e133ca98ae5e0874cd4bd9189ef33b1bb7d59", func := "casement/casementlaw15.LinesBreak", spec := "linesBreak", apart := false, narrowed := true }
def LinesBreakUptoSaid : Prop := linesBreakUptoRow.holds Try.pinned (OpenSpec.upto linesBreakSpec)

/-- 'casementlaw15.LinesWhole', WHERE WHAT IT READS IS OF BULK AT MOST 1048576: true; the input reads as it did. -/
def linesWholeUptoRow : OpenClaim := { program := "ytebolanengnpfaa", sum := "c665b88ddf4c40abbf6f4afacc5e133ca98ae5e0874cd4bd9189ef33b1bb7d59", func := "casement/casementlaw15.LinesWhole", spec := "linesWhole", apart := false, narrowed := true }
def LinesWholeUptoSaid : Prop := linesWholeUptoRow.holds Try.pinned (OpenSpec.upto linesWholeSpec)

/-- 'casementlaw15.LinesNarrow', WHERE WHAT IT READS IS OF BULK AT MOST 1048576: true; the input reads as it did. -/
def linesNarrowUptoRow : OpenClaim := { program := "ytebolanengnpfaa", sum := "c665b88ddf4c40abbf6f4afacc5e133ca98ae5e0874cd4bd9189ef33b1bb7d59", func := "casement/casementlaw15.LinesNarrow", spec := "linesNarrow", apart := false, narrowed := true }
def LinesNarrowUptoSaid : Prop := linesNarrowUptoRow.holds Try.pinned (OpenSpec.upto linesNarrowSpec)

/-- 'casementlaw15.LinesRoom', WHERE WHAT IT READS IS OF BULK AT MOST 1048576: true; the input reads as it did. -/
def linesRoomUptoRow : OpenClaim := { program := "ytebolanengnpfaa", sum := "c665b88ddf4c40abbf6f4afacc5e133ca98ae5e0874cd4bd9189ef33b1bb7d59", func := "casement/casementlaw15.LinesRoom", spec := "linesRoom", apart := false, narrowed := true }
def LinesRoomUptoSaid : Prop := linesRoomUptoRow.holds Try.pinned (OpenSpec.upto linesRoomSpec)

/-- 'casementlaw15.LinesNumbers', WHERE WHAT IT READS IS OF BULK AT MOST 1048576: true; the input reads as it did. -/
def linesNumbersUptoRow : OpenClaim := { program := "ytebolanengnpfaa", sum := "c665b88ddf4c40abbf6f4afacc5e133ca98ae5e0874cd4bd9189ef33b1bb7d59", func := "casement/casementlaw15.LinesNumbers", spec := "linesNumbers", apart := false, narrowed := true }
def LinesNumbersUptoSaid : Prop := linesNumbersUptoRow.holds Try.pinned (OpenSpec.upto linesNumbersSpec)

/-- 'casementlaw15.LinesSet', WHERE WHAT IT READS IS OF BULK AT MOST 1048576: true; the input reads as it did. -/
def linesSetUptoRow : OpenClaim := { program := "ytebolanengnpfaa", sum := "c665b88ddf4c40abbf6f4afacc5e133ca98ae5e0874cd4bd9189ef33b1bb7d59", func := "casement/casementlaw15.LinesSet", spec := "linesSet", apart := false, narrowed := true }
def LinesSetUptoSaid : Prop := linesSetUptoRow.holds Try.pinned (OpenSpec.upto linesSetSpec)

/-- 'casementlaw15.LinesApart', WHERE WHAT IT READS IS OF BULK AT MOST 1048576: true; the input reads as it did. -/
def linesApartUptoRow : OpenClaim := { program := "ytebolanengnpfaa", sum := "c665b88ddf4c40abbf6f4afacc5e133ca98ae5e0874cd4bd9189ef33b1bb7d59", func := "casement/casementlaw15.LinesApart", spec := "linesApart", apart := false, narrowed := true }
def LinesApartUptoSaid : Prop := linesApartUptoRow.holds Try.pinned (OpenSpec.upto linesApartSpec)

/-- 'casementlaw15.LinesKept', WHERE WHAT IT READS IS OF BULK AT MOST 1048576: true; the input reads as it did. -/
def linesKeptUptoRow : OpenClaim := { program := "ytebolanengnpfaa", sum := "c665b88ddf4c40abbf6f4afacc5e133ca98ae5e0874cd4bd9189ef33b1bb7d59", func := "casement/casementlaw15.LinesKept", spec := "linesKept", unfollowed := true, recurses := true, apart := false, narrowed := true }
def LinesKeptUptoSaid : Prop := linesKeptUptoRow.holds Try.pinned (OpenSpec.upto linesKeptSpec)

end Rows
end Go.Proofs.Ytebolanengnpfaa
