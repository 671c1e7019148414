/-
  No cell of these rows narrows 'for every input' (looked for: loops, veiled, ifaces, maps, wideKeys, modest, calm, conditions, laid).
  DERIVED. THE GIVEN ROWS OF THIS SEAT. 9 by the template 'for every input the law returns true; each argument reads behind the call as it read before'; 0 by the template 'total and deterministic' (their statements: YtkkabnkhdhlhkaaTotals.lean).
  GIVEN WITH THE SEED: the statements are not yours to turn. If you find one false, say at which input.
  Laid BY PROGRAM, IN A SANDBOX (cutbox-rows.mjs): the forced cells as the released guide's own fill.sh prints them over the translation b01d3f5ce3da6a71… (all of the seat's roots in one cut). By AI agents, Wed Nov 11 2026. No macro, syntax, notation, axiom, sorry.
-/
import Derived.Test.YtkkabnkhdhlhkaaChecked
import GoSem.Claim
import GoSem.ClaimJoined
import GoSem.ClaimMapViews
import Derived.JoinedTies
import Derived.KernelRfl
namespace Go.Proofs.Ytkkabnkhdhlhkaa
/- THE CELL 'sum', in the pinned program and in every row, IS THE sha256 OF THE DUMP (.gsa) THAT YtkkabnkhdhlhkaaProg.lean LOADS. Nothing in Lean hashes anything: it is a label: what it is worth is what the hold of that sum in a sandbox is worth. -/
noncomputable def Try.pinned : Pinned := { name := "ytkkabnkhdhlhkaa", sum := "b01d3f5ce3da6a712f2985869c1ecc5ae26f45c253a41f096abfb69605a1c707", checked := Try.checked }
namespace Rows
def none {H : Type} : Left H := { results := [], args := [] }

/-- 'casementlaw16.BlockFills': WHATEVER THE INPUT: true; the input reads as it did. -/
def blockFillsSpec : ChangeSpec := { name := "blockFills", fn := fun _ => fun
  | [d1, d2] => { results := [.lit (.bool true)], args := [d1, d2] }
  | _ => none }
def blockFillsRow : OpenClaim := { program := "ytkkabnkhdhlhkaa", sum := "b01d3f5ce3da6a712f2985869c1ecc5ae26f45c253a41f096abfb69605a1c707", func := "casement/casementlaw16.BlockFills", spec := "blockFills", unfollowed := true, recurses := true, apart := false }
def BlockFillsSaid : Prop := blockFillsRow.holds Try.pinned (OpenSpec.ofChange blockFillsSpec)

/-- ITS FALSE NEIGHBOUR: 'it returns false'. Refute it at one input. -/
def blockFillsWrong : ChangeSpec := { name := "blockFills", fn := fun _ => fun
  | [d1, d2] => { results := [.lit (.bool false)], args := [d1, d2] }
  | _ => none }
def BlockFillsWrongFalsely : Prop := blockFillsRow.holds Try.pinned (OpenSpec.ofChange blockFillsWrong)

/-- 'casementlaw16.BlockCollapses': WHATEVER THE INPUT: true; the input reads as it did. -/
def blockCollapsesSpec : ChangeSpec := { name := "blockCollapses", fn := fun _ => fun
  | [d1, d2] => { results := [.lit (.bool true)], args := [d1, d2] }
  | _ => none }
def blockCollapsesRow : OpenClaim := { program := "ytkkabnkhdhlhkaa", sum := "b01d3f5ce3da6a712f2985869c1ecc5ae26f45c253a41f096abfb69605a1c707", func := "casement/casementlaw16.BlockCollapses", spec := "blockCollapses", unfollowed := true, recurses := true, apart := false }
def BlockCollapsesSaid : Prop := blockCollapsesRow.holds Try.pinned (OpenSpec.ofChange blockCollapsesSpec)

/-- ITS FALSE NEIGHBOUR: 'it returns false'. Refute it at one input. -/
def blockCollapsesWrong : ChangeSpec := { name := "blockCollapses", fn := fun _ => fun
  | [d1, d2] => { results := [.lit (.bool false)], args := [d1, d2] }
  | _ => none }
def BlockCollapsesWrongFalsely : Prop := blockCollapsesRow.holds Try.pinned (OpenSpec.ofChange blockCollapsesWrong)

/-- 'casementlaw16.BlockFits': WHATEVER THE INPUT: true; the input reads as it did. -/
def blockFitsSpec : ChangeSpec := { name := "blockFits", fn := fun _ => fun
  | [d1, d2, d3, d4] => { results := [.lit (.bool true)], args := [d1, d2, d3, d4] }
  | _ => none }
def blockFitsRow : OpenClaim := { program := "ytkkabnkhdhlhkaa", sum := "b01d3f5ce3da6a712f2985869c1ecc5ae26f45c253a41f096abfb69605a1c707", func := "casement/casementlaw16.BlockFits", spec := "blockFits", unfollowed := true, recurses := true, apart := false }
def BlockFitsSaid : Prop := blockFitsRow.holds Try.pinned (OpenSpec.ofChange blockFitsSpec)

/-- ITS FALSE NEIGHBOUR: 'it returns false'. Refute it at one input. -/
def blockFitsWrong : ChangeSpec := { name := "blockFits", fn := fun _ => fun
  | [d1, d2, d3, d4] => { results := [.lit (.bool false)], args := [d1, d2, d3, d4] }
  | _ => none }
def BlockFitsWrongFalsely : Prop := blockFitsRow.holds Try.pinned (OpenSpec.ofChange blockFitsWrong)

/-- 'casementlaw16.BlockNumbers': WHATEVER THE INPUT: true; the input reads as it did. -/
def blockNumbersSpec : ChangeSpec := { name := "blockNumbers", fn := fun _ => fun
  | [] => { results := [.lit (.bool true)], args := [] }
  | _ => none }
def blockNumbersRow : OpenClaim := { program := "ytkkabnkhdhlhkaa", sum := "b01d3f5ce3da6a712f2985869c1ecc5ae26f45c253a41f096abfb69605a1c707", func := "casement/casementlaw16.BlockNumbers", spec := "blockNumbers", unfollowed := true, recurses := true, apart := false }
def BlockNumbersSaid : Prop := blockNumbersRow.holds Try.pinned (OpenSpec.ofChange blockNumbersSpec)

/-- ITS FALSE NEIGHBOUR: 'it returns false'. Refute it at one input. -/
def blockNumbersWrong : ChangeSpec := { name := "blockNumbers", fn := fun _ => fun
  | [] => { results := [.lit (.bool false)], args := [] }
  | _ => none }
def BlockNumbersWrongFalsely : Prop := blockNumbersRow.holds Try.pinned (OpenSpec.ofChange blockNumbersWrong)

/-- 'casementlaw20.PlaceFills': WHATEVER THE INPUT: true; the input reads as it did. -/
def placeFillsSpec : ChangeSpec := { name := "placeFills", fn := fun _ => fun
  | [d1, d2, d3] => { results := [.lit (.bool true)], args := [d1, d2, d3] }
  | _ => none }
def placeFillsRow : OpenClaim := { program := "ytkkabnkhdhlhkaa", sum := "b01d3f5ce3da6a712f2985869c1ecc5ae26f45c253a41f096abfb69605a1c707", func := "casement/casementlaw20.PlaceFills", spec := "placeFills", unfollowed := true, recurses := true, apart := false }
def PlaceFillsSaid : Prop := placeFillsRow.holds Try.pinned (OpenSpec.ofChange placeFillsSpec)

/-- ITS FALSE NEIGHBOUR: 'it returns false'. Refute it at one input. -/
def placeFillsWrong : ChangeSpec := { name := "placeFills", fn := fun _ => fun
  | [d1, d2, d3] => { results := [.lit (.bool false)], args := [d1, d2, d3] }
  | _ => none }
def PlaceFillsWrongFalsely : Prop := placeFillsRow.holds Try.pinned (OpenSpec.ofChange placeFillsWrong)

/-- 'casementlaw20.PlaceNumbers': WHATEVER THE INPUT: true; the input reads as it did. -/
def placeNumbersSpec : ChangeSpec := { name := "placeNumbers", fn := fun _ => fun
  | [] => { results := [.lit (.bool true)], args := [] }
  | _ => none }
def placeNumbersRow : OpenClaim := { program := "ytkkabnkhdhlhkaa", sum := "b01d3f5ce3da6a712f2985869c1ecc5ae26f45c253a41f096abfb69605a1c707", func := "casement/casementlaw20.PlaceNumbers", spec := "placeNumbers", unfollowed := true, recurses := true, apart := false }
def PlaceNumbersSaid : Prop := placeNumbersRow.holds Try.pinned (OpenSpec.ofChange placeNumbersSpec)

/-- ITS FALSE NEIGHBOUR: 'it returns false'. Refute it at one input. -/
def placeNumbersWrong : ChangeSpec := { name := "placeNumbers", fn := fun _ => fun
  | [] => { results := [.lit (.bool false)], args := [] }
  | _ => none }
def PlaceNumbersWrongFalsely : Prop := placeNumbersRow.holds Try.pinned (OpenSpec.ofChange placeNumbersWrong)

/-- 'casementlaw20.PlacePlaces': WHATEVER THE INPUT: true; the input reads as it did. -/
def placePlacesSpec : ChangeSpec := { name := "placePlaces", fn := fun _ => fun
  | [d1, d2, d3, d4, d5, d6, d7] => { results := [.lit (.bool true)], args := [d1, d2, d3, d4, d5, d6, d7] }
  | _ => none }
def placePlacesRow : OpenClaim := { program := "ytkkabnkhdhlhkaa", sum := "b01d3f5ce3da6a712f2985869c1ecc5ae26f45c253a41f096abfb69605a1c707", func := "casement/casementlaw20.PlacePlaces", spec := "placePlaces", unfollowed := true, recurses := true, apart := false }
def PlacePlacesSaid : Prop := placePlacesRow.holds Try.pinned (OpenSpec.ofChange placePlacesSpec)

/-- ITS FALSE NEIGHBOUR: 'it returns false'. Refute it at one input. -/
def placePlacesWrong : ChangeSpec := { name := "placePlaces", fn := fun _ => fun
  | [d1, d2, d3, d4, d5, d6, d7] => { results := [.lit (.bool false)], args := [d1, d2, d3, d4, d5, d6, d7] }
  | _ => none }
def PlacePlacesWrongFalsely : Prop := placePlacesRow.holds Try.pinned (OpenSpec.ofChange placePlacesWrong)

/-- 'casementlaw20.PlaceStays': WHATEVER THE INPUT: true; the input reads as it did. -/
def placeStaysSpec : ChangeSpec := { name := "placeStays", fn := fun _ => fun
  | [d1, d2, d3, d4] => { results := [.lit (.bool true)], args := [d1, d2, d3, d4] }
  | _ => none }
def placeStaysRow : OpenClaim := { program := "ytkkabnkhdhlhkaa", sum := "b01d3f5ce3da6a712f2985869c1ecc5ae26f45c253a41f096abfb69605a1c707", func := "casement/casementlaw20.PlaceStays", spec := "placeStays", unfollowed := true, recurses := true, apart := false }
def PlaceStaysSaid : Prop := placeStaysRow.holds Try.pinned (OpenSpec.ofChange placeStaysSpec)

/-- ITS FALSE NEIGHBOUR: 'it returns false'. Refute it at one input. -/
def placeStaysWrong : ChangeSpec := { name := "placeStays", fn := fun _ => fun
  | [d1, d2, d3, d4] => { results := [.lit (.bool false)], args := [d1, d2, d3, d4] }
  | _ => none }
def PlaceStaysWrongFalsely : Prop := placeStaysRow.holds Try.pinned (OpenSpec.ofChange placeStaysWrong)

/-- 'casementlaw20.PlaceMoves': WHATEVER THE INPUT: true; the input reads as it did. -/
def placeMovesSpec : ChangeSpec := { name := "placeMoves", fn := fun _ => fun
  | [d1, d2, d3, d4, d5] => { results := [.lit (.bool true)], args := [d1, d2, d3, d4, d5] }
  | _ => none }
def placeMovesRow : OpenClaim := { program := "ytkkabnkhdhlhkaa", sum := "b01d3f5ce3da6a712f2985869c1ecc5ae26f45c253a41f096abfb69605a1c707", func := "casement/casementlaw20.PlaceMoves", spec := "placeMoves", unfollowed := true, recurses := true, apart := false }
def PlaceMovesSaid : Prop := placeMovesRow.holds Try.pinned (OpenSpec.ofChange placeMovesSpec)

/-- ITS FALSE NEIGHBOUR: 'it returns false'. Refute it at one input. -/
def placeMovesWrong : ChangeSpec := { name := "placeMoves", fn := fun _ => fun
  | [d1, d2, d3, d4, d5] => { results := [.lit (.bool false)], args := [d1, d2, d3, d4, d5] }
  | _ => none }
def PlaceMovesWrongFalsely : Prop := placeMovesRow.holds Try.pinned (OpenSpec.ofChange placeMovesWrong)

/- THE SECOND FORM. 'bulk': how many values and letters a reading holds, each counted each time it is reached (what is shared counts as often as it is met; a slice's spare places count too). A statement '..UptoSaid' is the law's where the arguments, and the package variables that the reading takes, are together of bulk at most 1048576: NARROWER than '..Said'. Prove '..Said' where nothing that the law and all that it calls make is longer than what came in: it says more and counts as full. Else prove '..UptoSaid'. A law counts once. -/
mutual
def uptoBulk {H : Type} : DataW H → Nat
  | .lit (.string bytes) => bytes.length + 1
  | .lit _ => 1
  | .nil => 1
  | .ptr d => uptoBulk d + 1
  | .slice elems spare => uptoBulkAll elems + uptoBulkAll spare + 1
  | .agg parts => uptoBulkAll parts + 1
  | .iface _ d => uptoBulk d + 1
  | .map entries => uptoBulkEntries entries + 1
  | .held _ => 1
def uptoBulkAll {H : Type} : List (DataW H) → Nat
  | [] => 0
  | d :: r => uptoBulk d + uptoBulkAll r
def uptoBulkEntries {H : Type} : List (Lit × DataW H) → Nat
  | [] => 0
  | x :: r => uptoBulkEntry x + uptoBulkEntries r
def uptoBulkEntry {H : Type} : Lit × DataW H → Nat
  | (.string bytes, d) => bytes.length + uptoBulk d + 1
  | (_, d) => uptoBulk d + 1
 end
def uptoSmall : (H : Type) → List (DataW H) → Bool := fun _ ds => decide (uptoBulkAll ds ≤ 1048576)
def OpenSpec.upto (s : _root_.Go.ChangeSpec) : _root_.Go.OpenSpec := { _root_.Go.OpenSpec.ofChange s with cond := some uptoSmall }

/-- 'casementlaw16.BlockFills', WHERE WHAT IT READS IS OF BULK AT MOST 1048576: true; the input reads as it did. -/
def blockFillsUptoRow : OpenClaim := { program := "ytkkabnkhdhlhkaa", sum := "b01d3f5ce3da6a712f2985869c1ecc5ae26f45c253a41f096abfb69605a1c707", func := "casement/casementlaw16.BlockFills", spec := "blockFills", unfollowed := true, recurses := true, apart := false, narrowed := true }
def BlockFillsUptoSaid : Prop := blockFillsUptoRow.holds Try.pinned (OpenSpec.upto blockFillsSpec)

/-- 'casementlaw16.BlockCollapses', WHERE WHAT IT READS IS OF BULK AT MOST 1048576: true; the input reads as it did. -/
def blockCollapsesUptoRow : OpenClaim := { program := "ytkkabnkhdhlhkaa", sum := "b01d3f5ce3da6a712f2985869c1ecc5ae26f45c253a41f096abfb69605a1c707", func := "casement/casementlaw16.BlockCollapses", spec := "blockCollapses", unfollowed := true, recurses := true, apart := false, narrowed := true }
def BlockCollapsesUptoSaid : Prop := blockCollapsesUptoRow.holds Try.pinned (OpenSpec.upto blockCollapsesSpec)

/-- 'casementlaw16.BlockFits', WHERE WHAT IT READS IS OF BULK AT MOST 1048576: true; the input reads as it did. -/
def blockFitsUptoRow : OpenClaim := { program := "ytkkabnkhdhlhkaa", sum := "b01d3f5ce3da6a712f2985869c1ecc5ae26f45c253a41f096abfb69605a1c707", func := "casement/casementlaw16.BlockFits", spec := "blockFits", unfollowed := true, recurses := true, apart := false, narrowed := true }
def BlockFitsUptoSaid : Prop := blockFitsUptoRow.holds Try.pinned (OpenSpec.upto blockFitsSpec)

/-- 'casementlaw16.BlockNumbers', WHERE WHAT IT READS IS OF BULK AT MOST 1048576: true; the input reads as it did. -/
def blockNumbersUptoRow : OpenClaim := { program := "ytkkabnkhdhlhkaa", sum := "b01d3f5ce3da6a712f2985869c1ecc5ae26f45c253a41f096abfb69605a1c707", func := "casement/casementlaw16.BlockNumbers", spec := "blockNumbers", unfollowed := true, recurses := true, apart := false, narrowed := true }
def BlockNumbersUptoSaid : Prop := blockNumbersUptoRow.holds Try.pinned (OpenSpec.upto blockNumbersSpec)

/-- 'casementlaw20.PlaceFills', WHERE WHAT IT READS IS OF BULK AT MOST 1048576: true; the input reads as it did. -/
def placeFillsUptoRow : OpenClaim := { program := "ytkkabnkhdhlhkaa", sum := "b01d3f5ce3da6a712f2985869c1ecc5ae26f45c253a41f096abfb69605a1c707", func := "casement/casementlaw20.PlaceFills", spec := "placeFills", unfollowed := true, recurses := true, apart := false, narrowed := true }
def PlaceFillsUptoSaid : Prop := placeFillsUptoRow.holds Try.pinned (OpenSpec.upto placeFillsSpec)

/-- 'casementlaw20.PlaceNumbers', WHERE WHAT IT READS IS OF BULK AT MOST 1048576: true; the input reads as it did. -/
def placeNumbersUptoRow : OpenClaim := { program := "ytkkabnkhdhlhkaa", sum := "b01d3f5ce3da6a712f2985869c1ecc5ae26f45c253a41f096abfb69605a1c707", func := "casement/casementlaw20.PlaceNumbers", spec := "placeNumbers", unfollowed := true, recurses := true, apart := false, narrowed := true }
def PlaceNumbersUptoSaid : Prop := placeNumbersUptoRow.holds Try.pinned (OpenSpec.upto placeNumbersSpec)

/-- 'casementlaw20.PlacePlaces', WHERE WHAT IT READS IS OF BULK AT MOST 1048576: true; the input reads as it did. -/
def placePlacesUptoRow : OpenClaim := { program := "ytkkabnkhdhlhkaa", sum := "b01d3f5ce3da6a712f2985869c1ecc5ae26f45c253a41f096abfb69605a1c707", func := "casement/casementlaw20.PlacePlaces", spec := "placePlaces", unfollowed := true, recurses := true, apart := false, narrowed := true }
def PlacePlacesUptoSaid : Prop := placePlacesUptoRow.holds Try.pinned (OpenSpec.upto placePlacesSpec)

/-- 'casementlaw20.PlaceStays', WHERE WHAT IT READS IS OF BULK AT MOST 1048576: true; the input reads as it did. -/
def placeStaysUptoRow : OpenClaim := { program := "ytkkabnkhdhlhkaa", sum := "b01d3f5ce3da6a712f2985869c1ecc5ae26f45c253a41f096abfb69605a1c707", func := "casement/casementlaw20.PlaceStays", spec := "placeStays", unfollowed := true, recurses := true, apart := false, narrowed := true }
def PlaceStaysUptoSaid : Prop := placeStaysUptoRow.holds Try.pinned (OpenSpec.upto placeStaysSpec)

/-- 'casementlaw20.PlaceMoves', WHERE WHAT IT READS IS OF BULK AT MOST 1048576: true; the input reads as it did. -/
def placeMovesUptoRow : OpenClaim := { program := "ytkkabnkhdhlhkaa", sum := "b01d3f5ce3da6a712f2985869c1ecc5ae26f45c253a41f096abfb69605a1c707", func := "casement/casementlaw20.PlaceMoves", spec := "placeMoves", unfollowed := true, recurses := true, apart := false, narrowed := true }
def PlaceMovesUptoSaid : Prop := placeMovesUptoRow.holds Try.pinned (OpenSpec.upto placeMovesSpec)

end Rows
end Go.Proofs.Ytkkabnkhdhlhkaa
