/-
  No cell of these rows narrows 'for every input' (looked for: loops, veiled, ifaces, maps, wideKeys, modest, calm, conditions, laid).
  DERIVED. THE GIVEN ROWS OF THIS SEAT. 11 by the template 'for every input the law returns true; each argument reads behind the call as it read before'; 0 by the template 'total and deterministic' (their statements: YtldpmhahndpfnaaTotals.lean).
  GIVEN WITH THE SEED: the statements are not yours to turn. If you find one false, say at which input.
  Laid BY PROGRAM, IN A SANDBOX (cutbox-rows.mjs): the forced cells as the released guide's own fill.sh prints them over the translation 950097c4dafa1bcc… (all of the seat's roots in one cut). By AI agents, Wed Nov 11 2026. No macro, syntax, notation, axiom, sorry.
-/
import Derived.Test.YtldpmhahndpfnaaChecked
import GoSem.Claim
import GoSem.ClaimJoined
import GoSem.ClaimMapViews
import Derived.JoinedTies
import Derived.KernelRfl
namespace Go.Proofs.Ytldpmhahndpfnaa
/- THE CELL 'sum', in the pinned program and in every row, IS THE sha256 OF THE DUMP (.gsa) THAT YtldpmhahndpfnaaProg.lean LOADS. Nothing in Lean hashes anything: it is a label: what it is worth is what the hold of that sum in a sandbox is worth. -/
noncomputable def Try.pinned : Pinned := { name := "ytldpmhahndpfnaa", sum := "950097c4dafa1bcc005ac014b4d433687e6db178874ba17b7f7d57cb48fbc09c", checked := Try.checked }
namespace Rows
def none {H : Type} : Left H := { results := [], args := [] }

/-- 'casementlaw2.RectMoves': WHATEVER THE INPUT: true; the input reads as it did. -/
def rectMovesSpec : ChangeSpec := { name := "rectMoves", fn := fun _ => fun
  | [d1, d2, d3, d4] => { results := [.lit (.bool true)], args := [d1, d2, d3, d4] }
  | _ => none }
def rectMovesRow : OpenClaim := { program := "ytldpmhahndpfnaa", sum := "950097c4dafa1bcc005ac014b4d433687e6db178874ba17b7f7d57cb48fbc09c", func := "casement/casementlaw2.RectMoves", spec := "rectMoves", apart := false }
def RectMovesSaid : Prop := rectMovesRow.holds Try.pinned (OpenSpec.ofChange rectMovesSpec)

/-- ITS FALSE NEIGHBOUR: 'it returns false'. Refute it at one input. -/
def rectMovesWrong : ChangeSpec := { name := "rectMoves", fn := fun _ => fun
  | [d1, d2, d3, d4] => { results := [.lit (.bool false)], args := [d1, d2, d3, d4] }
  | _ => none }
def RectMovesWrongFalsely : Prop := rectMovesRow.holds Try.pinned (OpenSpec.ofChange rectMovesWrong)

/-- 'casementlaw1.FixedShares': WHATEVER THE INPUT: true; the input reads as it did. -/
def fixedSharesSpec : ChangeSpec := { name := "fixedShares", fn := fun _ => fun
  | [d1, d2] => { results := [.lit (.bool true)], args := [d1, d2] }
  | _ => none }
def fixedSharesRow : OpenClaim := { program := "ytldpmhahndpfnaa", sum := "950097c4dafa1bcc005ac014b4d433687e6db178874ba17b7f7d57cb48fbc09c", func := "casement/casementlaw1.FixedShares", spec := "fixedShares", apart := false }
def FixedSharesSaid : Prop := fixedSharesRow.holds Try.pinned (OpenSpec.ofChange fixedSharesSpec)

/-- ITS FALSE NEIGHBOUR: 'it returns false'. Refute it at one input. -/
def fixedSharesWrong : ChangeSpec := { name := "fixedShares", fn := fun _ => fun
  | [d1, d2] => { results := [.lit (.bool false)], args := [d1, d2] }
  | _ => none }
def FixedSharesWrongFalsely : Prop := fixedSharesRow.holds Try.pinned (OpenSpec.ofChange fixedSharesWrong)

/-- 'casementlaw1.FixedAdds': WHATEVER THE INPUT: true; the input reads as it did. -/
def fixedAddsSpec : ChangeSpec := { name := "fixedAdds", fn := fun _ => fun
  | [d1, d2, d3] => { results := [.lit (.bool true)], args := [d1, d2, d3] }
  | _ => none }
def fixedAddsRow : OpenClaim := { program := "ytldpmhahndpfnaa", sum := "950097c4dafa1bcc005ac014b4d433687e6db178874ba17b7f7d57cb48fbc09c", func := "casement/casementlaw1.FixedAdds", spec := "fixedAdds", apart := false }
def FixedAddsSaid : Prop := fixedAddsRow.holds Try.pinned (OpenSpec.ofChange fixedAddsSpec)

/-- ITS FALSE NEIGHBOUR: 'it returns false'. Refute it at one input. -/
def fixedAddsWrong : ChangeSpec := { name := "fixedAdds", fn := fun _ => fun
  | [d1, d2, d3] => { results := [.lit (.bool false)], args := [d1, d2, d3] }
  | _ => none }
def FixedAddsWrongFalsely : Prop := fixedAddsRow.holds Try.pinned (OpenSpec.ofChange fixedAddsWrong)

/-- 'casementlaw1.FixedWhole': WHATEVER THE INPUT: true; the input reads as it did. -/
def fixedWholeSpec : ChangeSpec := { name := "fixedWhole", fn := fun _ => fun
  | [d1, d2] => { results := [.lit (.bool true)], args := [d1, d2] }
  | _ => none }
def fixedWholeRow : OpenClaim := { program := "ytldpmhahndpfnaa", sum := "950097c4dafa1bcc005ac014b4d433687e6db178874ba17b7f7d57cb48fbc09c", func := "casement/casementlaw1.FixedWhole", spec := "fixedWhole", apart := false }
def FixedWholeSaid : Prop := fixedWholeRow.holds Try.pinned (OpenSpec.ofChange fixedWholeSpec)

/-- ITS FALSE NEIGHBOUR: 'it returns false'. Refute it at one input. -/
def fixedWholeWrong : ChangeSpec := { name := "fixedWhole", fn := fun _ => fun
  | [d1, d2] => { results := [.lit (.bool false)], args := [d1, d2] }
  | _ => none }
def FixedWholeWrongFalsely : Prop := fixedWholeRow.holds Try.pinned (OpenSpec.ofChange fixedWholeWrong)

/-- 'casementlaw1.FixedParts': WHATEVER THE INPUT: true; the input reads as it did. -/
def fixedPartsSpec : ChangeSpec := { name := "fixedParts", fn := fun _ => fun
  | [d1, d2, d3] => { results := [.lit (.bool true)], args := [d1, d2, d3] }
  | _ => none }
def fixedPartsRow : OpenClaim := { program := "ytldpmhahndpfnaa", sum := "950097c4dafa1bcc005ac014b4d433687e6db178874ba17b7f7d57cb48fbc09c", func := "casement/casementlaw1.FixedParts", spec := "fixedParts", apart := false }
def FixedPartsSaid : Prop := fixedPartsRow.holds Try.pinned (OpenSpec.ofChange fixedPartsSpec)

/-- ITS FALSE NEIGHBOUR: 'it returns false'. Refute it at one input. -/
def fixedPartsWrong : ChangeSpec := { name := "fixedParts", fn := fun _ => fun
  | [d1, d2, d3] => { results := [.lit (.bool false)], args := [d1, d2, d3] }
  | _ => none }
def FixedPartsWrongFalsely : Prop := fixedPartsRow.holds Try.pinned (OpenSpec.ofChange fixedPartsWrong)

/-- 'casementlaw1.FixedKept': WHATEVER THE INPUT: true; the input reads as it did. -/
def fixedKeptSpec : ChangeSpec := { name := "fixedKept", fn := fun _ => fun
  | [d1, d2] => { results := [.lit (.bool true)], args := [d1, d2] }
  | _ => none }
def fixedKeptRow : OpenClaim := { program := "ytldpmhahndpfnaa", sum := "950097c4dafa1bcc005ac014b4d433687e6db178874ba17b7f7d57cb48fbc09c", func := "casement/casementlaw1.FixedKept", spec := "fixedKept", unfollowed := true, recurses := true, apart := false }
def FixedKeptSaid : Prop := fixedKeptRow.holds Try.pinned (OpenSpec.ofChange fixedKeptSpec)

/-- ITS FALSE NEIGHBOUR: 'it returns false'. Refute it at one input. -/
def fixedKeptWrong : ChangeSpec := { name := "fixedKept", fn := fun _ => fun
  | [d1, d2] => { results := [.lit (.bool false)], args := [d1, d2] }
  | _ => none }
def FixedKeptWrongFalsely : Prop := fixedKeptRow.holds Try.pinned (OpenSpec.ofChange fixedKeptWrong)

/-- 'casementlaw2.RectRails': WHATEVER THE INPUT: true; the input reads as it did. -/
def rectRailsSpec : ChangeSpec := { name := "rectRails", fn := fun _ => fun
  | [d1, d2, d3, d4] => { results := [.lit (.bool true)], args := [d1, d2, d3, d4] }
  | _ => none }
def rectRailsRow : OpenClaim := { program := "ytldpmhahndpfnaa", sum := "950097c4dafa1bcc005ac014b4d433687e6db178874ba17b7f7d57cb48fbc09c", func := "casement/casementlaw2.RectRails", spec := "rectRails", apart := false }
def RectRailsSaid : Prop := rectRailsRow.holds Try.pinned (OpenSpec.ofChange rectRailsSpec)

/-- ITS FALSE NEIGHBOUR: 'it returns false'. Refute it at one input. -/
def rectRailsWrong : ChangeSpec := { name := "rectRails", fn := fun _ => fun
  | [d1, d2, d3, d4] => { results := [.lit (.bool false)], args := [d1, d2, d3, d4] }
  | _ => none }
def RectRailsWrongFalsely : Prop := rectRailsRow.holds Try.pinned (OpenSpec.ofChange rectRailsWrong)

/-- 'casementlaw2.RectNumbers': WHATEVER THE INPUT: true; the input reads as it did. -/
def rectNumbersSpec : ChangeSpec := { name := "rectNumbers", fn := fun _ => fun
  | [] => { results := [.lit (.bool true)], args := [] }
  | _ => none }
def rectNumbersRow : OpenClaim := { program := "ytldpmhahndpfnaa", sum := "950097c4dafa1bcc005ac014b4d433687e6db178874ba17b7f7d57cb48fbc09c", func := "casement/casementlaw2.RectNumbers", spec := "rectNumbers", apart := false }
def RectNumbersSaid : Prop := rectNumbersRow.holds Try.pinned (OpenSpec.ofChange rectNumbersSpec)

/-- ITS FALSE NEIGHBOUR: 'it returns false'. Refute it at one input. -/
def rectNumbersWrong : ChangeSpec := { name := "rectNumbers", fn := fun _ => fun
  | [] => { results := [.lit (.bool false)], args := [] }
  | _ => none }
def RectNumbersWrongFalsely : Prop := rectNumbersRow.holds Try.pinned (OpenSpec.ofChange rectNumbersWrong)

/-- 'casementlaw2.RectPoints': WHATEVER THE INPUT: true; the input reads as it did. -/
def rectPointsSpec : ChangeSpec := { name := "rectPoints", fn := fun _ => fun
  | [d1, d2, d3, d4] => { results := [.lit (.bool true)], args := [d1, d2, d3, d4] }
  | _ => none }
def rectPointsRow : OpenClaim := { program := "ytldpmhahndpfnaa", sum := "950097c4dafa1bcc005ac014b4d433687e6db178874ba17b7f7d57cb48fbc09c", func := "casement/casementlaw2.RectPoints", spec := "rectPoints", apart := false }
def RectPointsSaid : Prop := rectPointsRow.holds Try.pinned (OpenSpec.ofChange rectPointsSpec)

/-- ITS FALSE NEIGHBOUR: 'it returns false'. Refute it at one input. -/
def rectPointsWrong : ChangeSpec := { name := "rectPoints", fn := fun _ => fun
  | [d1, d2, d3, d4] => { results := [.lit (.bool false)], args := [d1, d2, d3, d4] }
  | _ => none }
def RectPointsWrongFalsely : Prop := rectPointsRow.holds Try.pinned (OpenSpec.ofChange rectPointsWrong)

/-- 'casementlaw1.FixedNumbers': WHATEVER THE INPUT: true; the input reads as it did. -/
def fixedNumbersSpec : ChangeSpec := { name := "fixedNumbers", fn := fun _ => fun
  | [] => { results := [.lit (.bool true)], args := [] }
  | _ => none }
def fixedNumbersRow : OpenClaim := { program := "ytldpmhahndpfnaa", sum := "950097c4dafa1bcc005ac014b4d433687e6db178874ba17b7f7d57cb48fbc09c", func := "casement/casementlaw1.FixedNumbers", spec := "fixedNumbers", apart := false }
def FixedNumbersSaid : Prop := fixedNumbersRow.holds Try.pinned (OpenSpec.ofChange fixedNumbersSpec)

/-- ITS FALSE NEIGHBOUR: 'it returns false'. Refute it at one input. -/
def fixedNumbersWrong : ChangeSpec := { name := "fixedNumbers", fn := fun _ => fun
  | [] => { results := [.lit (.bool false)], args := [] }
  | _ => none }
def FixedNumbersWrongFalsely : Prop := fixedNumbersRow.holds Try.pinned (OpenSpec.ofChange fixedNumbersWrong)

/-- 'casementlaw1.FixedReckons': WHATEVER THE INPUT: true; the input reads as it did. -/
def fixedReckonsSpec : ChangeSpec := { name := "fixedReckons", fn := fun _ => fun
  | [d1, d2, d3, d4] => { results := [.lit (.bool true)], args := [d1, d2, d3, d4] }
  | _ => none }
def fixedReckonsRow : OpenClaim := { program := "ytldpmhahndpfnaa", sum := "950097c4dafa1bcc005ac014b4d433687e6db178874ba17b7f7d57cb48fbc09c", func := "casement/casementlaw1.FixedReckons", spec := "fixedReckons", apart := false }
def FixedReckonsSaid : Prop := fixedReckonsRow.holds Try.pinned (OpenSpec.ofChange fixedReckonsSpec)

/-- ITS FALSE NEIGHBOUR: 'it returns false'. Refute it at one input. -/
def fixedReckonsWrong : ChangeSpec := { name := "fixedReckons", fn := fun _ => fun
  | [d1, d2, d3, d4] => { results := [.lit (.bool false)], args := [d1, d2, d3, d4] }
  | _ => none }
def FixedReckonsWrongFalsely : Prop := fixedReckonsRow.holds Try.pinned (OpenSpec.ofChange fixedReckonsWrong)

/- THE SECOND FORM. 'bulk': how many values and letters a reading holds, each counted each time it is reached (what is shared counts as often as it is met; a slice's spare places count too). A statement '..UptoSaid' is the law's where the arguments, and the package variables that the reading takes, are together of bulk at most 1048576: NARROWER than '..Said'. Prove '..Said' where nothing that the law and all that it calls make is longer than what came in: it says more and counts as full. Else prove '..UptoSaid'. A law counts once. -/
mutual
def uptoBulk {H : Type} : DataW H → Nat
  | .lit (.string bytes) => bytes.length + 1
  | .lit _ => 1
  | .nil => 1
  | .ptr d => uptoBulk d + 1
  | .slice elems spare => uptoBulkAll elems + uptoBulkAll spare + 1
  | .agg parts => uptoBulkAll parts + 1
  | .iface _ d => uptoBulk d + 1
  | .map entries => uptoBulkEntries entries + 1
  | .held _ => 1
def uptoBulkAll {H : Type} : List (DataW H) → Nat
  | [] => 0
  | d :: r => uptoBulk d + uptoBulkAll r
def uptoBulkEntries {H : Type} : List (Lit × DataW H) → Nat
  | [] => 0
  | x :: r => uptoBulkEntry x + uptoBulkEntries r
def uptoBulkEntry {H : Type} : Lit × DataW H → Nat
  | (.string bytes, d) => bytes.length + uptoBulk d + 1
  | (_, d) => uptoBulk d + 1
 end
def uptoSmall : (H : Type) → List (DataW H) → Bool := fun _ ds => decide (uptoBulkAll ds ≤ 1048576)
def OpenSpec.upto (s : _root_.Go.ChangeSpec) : _root_.Go.OpenSpec := { _root_.Go.OpenSpec.ofChange s with cond := some uptoSmall }

/-- 'casementlaw2.RectMoves', WHERE WHAT IT READS IS OF BULK AT MOST 1048576: true; the input reads as it did. -/
def rectMovesUptoRow : OpenClaim := { program := "ytldpmhahndpfnaa", sum := "950097c4dafa1bcc005ac014b4d433687e6db178874ba17b7f7d57cb48fbc09c", func := "casement/casementlaw2.RectMoves", spec := "rectMoves", apart := false, narrowed := true }
def RectMovesUptoSaid : Prop := rectMovesUptoRow.holds Try.pinned (OpenSpec.upto rectMovesSpec)

/-- 'casementlaw1.FixedShares', WHERE WHAT IT READS IS OF BULK AT MOST 1048576: true; the input reads as it did. -/
def fixedSharesUptoRow : OpenClaim := { program := "ytldpmhahndpfnaa", sum := "950097c4dafa1bcc005ac014b4d433687e6db178874ba17b7f7d57cb48fbc09c", func := "casement/casementlaw1.FixedShares", spec := "fixedShares", apart := false, narrowed := true }
def FixedSharesUptoSaid : Prop := fixedSharesUptoRow.holds Try.pinned (OpenSpec.upto fixedSharesSpec)

/-- 'casementlaw1.FixedAdds', WHERE WHAT IT READS IS OF BULK AT MOST 1048576: true; the input reads as it did. -/
def fixedAddsUptoRow : OpenClaim := { program := "ytldpmhahndpfnaa", sum := "950097c4dafa1bcc005ac014b4d433687e6db178874ba17b7f7d57cb48fbc09c", func := "casement/casementlaw1.FixedAdds", spec := "fixedAdds", apart := false, narrowed := true }
def FixedAddsUptoSaid : Prop := fixedAddsUptoRow.holds Try.pinned (OpenSpec.upto fixedAddsSpec)

/-- 'casementlaw1.FixedWhole', WHERE WHAT IT READS IS OF BULK AT MOST 1048576: true; the input reads as it did. -/
def fixedWholeUptoRow : OpenClaim := { program := "ytldpmhahndpfnaa", sum := "950097c4dafa1bcc005ac014b4d433687e6db178874ba17b7f7d57cb48fbc09c", func := "casement/casementlaw1.FixedWhole", spec := "fixedWhole", apart := false, narrowed := true }
def FixedWholeUptoSaid : Prop := fixedWholeUptoRow.holds Try.pinned (OpenSpec.upto fixedWholeSpec)

/-- 'casementlaw1.FixedParts', WHERE WHAT IT READS IS OF BULK AT MOST 1048576: true; the input reads as it did. -/
def fixedPartsUptoRow : OpenClaim := { program := "ytldpmhahndpfnaa", sum := "950097c4dafa1bcc005ac014b4d433687e6db178874ba17b7f7d57cb48fbc09c", func := "casement/casementlaw1.FixedParts", spec := "fixedParts", apart := false, narrowed := true }
def FixedPartsUptoSaid : Prop := fixedPartsUptoRow.holds Try.pinned (OpenSpec.upto fixedPartsSpec)

/-- 'casementlaw1.FixedKept', WHERE WHAT IT READS IS OF BULK AT MOST 1048576: true; the input reads as it did. -/
def fixedKeptUptoRow : OpenClaim := { program := "ytldpmhahndpfnaa", sum := "950097c4dafa1bcc005ac014b4d433687e6db178874ba17b7f7d57cb48fbc09c", func := "casement/casementlaw1.FixedKept", spec := "fixedKept", unfollowed := true, recurses := true, apart := false, narrowed := true }
def FixedKeptUptoSaid : Prop := fixedKeptUptoRow.holds Try.pinned (OpenSpec.upto fixedKeptSpec)

/-- 'casementlaw2.RectRails', WHERE WHAT IT READS IS OF BULK AT MOST 1048576: true; the input reads as it did. -/
def rectRailsUptoRow : OpenClaim := { program := "ytldpmhahndpfnaa", sum := "950097c4dafa1bcc005ac014b4d433687e6db178874ba17b7f7d57cb48fbc09c", func := "casement/casementlaw2.RectRails", spec := "rectRails", apart := false, narrowed := true }
def RectRailsUptoSaid : Prop := rectRailsUptoRow.holds Try.pinned (OpenSpec.upto rectRailsSpec)

/-- 'casementlaw2.RectNumbers', WHERE WHAT IT READS IS OF BULK AT MOST 1048576: true; the input reads as it did. -/
def rectNumbersUptoRow : OpenClaim := { program := "ytldpmhahndpfnaa", sum := "950097c4dafa1bcc005ac014b4d433687e6db178874ba17b7f7d57cb48fbc09c", func := "casement/casementlaw2.RectNumbers", spec := "rectNumbers", apart := false, narrowed := true }
def RectNumbersUptoSaid : Prop := rectNumbersUptoRow.holds Try.pinned (OpenSpec.upto rectNumbersSpec)

/-- 'casementlaw2.RectPoints', WHERE WHAT IT READS IS OF BULK AT MOST 1048576: true; the input reads as it did. -/
def rectPointsUptoRow : OpenClaim := { program := "ytldpmhahndpfnaa", sum := "950097c4dafa1bcc005ac014b4d433687e6db178874ba17b7f7d57cb48fbc09c", func := "casement/casementlaw2.RectPoints", spec := "rectPoints", apart := false, narrowed := true }
def RectPointsUptoSaid : Prop := rectPointsUptoRow.holds Try.pinned (OpenSpec.upto rectPointsSpec)

/-- 'casementlaw1.FixedNumbers', WHERE WHAT IT READS IS OF BULK AT MOST 1048576: true; the input reads as it did. -/
def fixedNumbersUptoRow : OpenClaim := { program := "ytldpmhahndpfnaa", sum := "950097c4dafa1bcc005ac014b4d433687e6db178874ba17b7f7d57cb48fbc09c", func := "casement/casementlaw1.FixedNumbers", spec := "fixedNumbers", apart := false, narrowed := true }
def FixedNumbersUptoSaid : Prop := fixedNumbersUptoRow.holds Try.pinned (OpenSpec.upto fixedNumbersSpec)

/-- 'casementlaw1.FixedReckons', WHERE WHAT IT READS IS OF BULK AT MOST 1048576: true; the input reads as it did. -/
def fixedReckonsUptoRow : OpenClaim := { program := "ytldpmhahndpfnaa", sum := "950097c4dafa1bcc005ac014b4d433687e6db178874ba17b7f7d57cb48fbc09c", func := "casement/casementlaw1.FixedReckons", spec := "fixedReckons", apart := false, narrowed := true }
def FixedReckonsUptoSaid : Prop := fixedReckonsUptoRow.holds Try.pinned (OpenSpec.upto fixedReckonsSpec)

end Rows
end Go.Proofs.Ytldpmhahndpfnaa
