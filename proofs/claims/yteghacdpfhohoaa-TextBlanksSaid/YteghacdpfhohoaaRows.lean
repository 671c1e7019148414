/-
  No cell of these rows narrows 'for every input' (looked for: loops, veiled, ifaces, maps, wideKeys, modest, calm, conditions, laid).
  DERIVED. THE GIVEN ROWS OF THIS SEAT. 11 by the template 'for every input the law returns true; each argument reads behind the call as it read before'; 0 by the template 'total and deterministic' (their statements: YteghacdpfhohoaaTotals.lean).
  GIVEN WITH THE SEED: the statements are not yours to turn. If you find one false, say at which input.
  Laid BY PROGRAM, IN A SANDBOX (cutbox-rows.mjs): the forced cells as the released guide's own fill.sh prints them over the translation 3b5dc04524658498… (all of the seat's roots in one cut). By AI agents, Wed Nov 11 2026. No macro, syntax, notation, axiom, sorry.
-/
import Derived.Test.YteghacdpfhohoaaChecked
import GoSem.Claim
import GoSem.ClaimJoined
import GoSem.ClaimMapViews
import Derived.JoinedTies
import Derived.KernelRfl
namespace Go.Proofs.Yteghacdpfhohoaa
/- THE CELL 'sum', in the pinned program and in every row, IS THE sha256 OF THE DUMP (.gsa) THAT YteghacdpfhohoaaProg.lean LOADS. Nothing in Lean hashes anything: it is a label: what it is worth is what the hold of that sum in a sandbox is worth. -/
noncomputable def Try.pinned : Pinned := { name := "yteghacdpfhohoaa", sum := "3b5dc04524658498e6f3d9b35e1252ff28d53cbcbf00825c438ca99534ecc467", checked := Try.checked }
namespace Rows
def none {H : Type} : Left H := { results := [], args := [] }

/-- 'casementlaw18.FlexFills': WHATEVER THE INPUT: true; the input reads as it did. -/
def flexFillsSpec : ChangeSpec := { name := "flexFills", fn := fun _ => fun
  | [d1, d2] => { results := [.lit (.bool true)], args := [d1, d2] }
  | _ => none }
def flexFillsRow : OpenClaim := { program := "yteghacdpfhohoaa", sum := "3b5dc04524658498e6f3d9b35e1252ff28d53cbcbf00825c438ca99534ecc467", func := "casement/casementlaw18.FlexFills", spec := "flexFills", recurses := true, apart := false }
def FlexFillsSaid : Prop := flexFillsRow.holds Try.pinned (OpenSpec.ofChange flexFillsSpec)

/-- ITS FALSE NEIGHBOUR: 'it returns false'. Refute it at one input. -/
def flexFillsWrong : ChangeSpec := { name := "flexFills", fn := fun _ => fun
  | [d1, d2] => { results := [.lit (.bool false)], args := [d1, d2] }
  | _ => none }
def FlexFillsWrongFalsely : Prop := flexFillsRow.holds Try.pinned (OpenSpec.ofChange flexFillsWrong)

/-- 'casementlaw18.FlexTurned': WHATEVER THE INPUT: true; the input reads as it did. -/
def flexTurnedSpec : ChangeSpec := { name := "flexTurned", fn := fun _ => fun
  | [d1, d2, d3] => { results := [.lit (.bool true)], args := [d1, d2, d3] }
  | _ => none }
def flexTurnedRow : OpenClaim := { program := "yteghacdpfhohoaa", sum := "3b5dc04524658498e6f3d9b35e1252ff28d53cbcbf00825c438ca99534ecc467", func := "casement/casementlaw18.FlexTurned", spec := "flexTurned", recurses := true, apart := false }
def FlexTurnedSaid : Prop := flexTurnedRow.holds Try.pinned (OpenSpec.ofChange flexTurnedSpec)

/-- ITS FALSE NEIGHBOUR: 'it returns false'. Refute it at one input. -/
def flexTurnedWrong : ChangeSpec := { name := "flexTurned", fn := fun _ => fun
  | [d1, d2, d3] => { results := [.lit (.bool false)], args := [d1, d2, d3] }
  | _ => none }
def FlexTurnedWrongFalsely : Prop := flexTurnedRow.holds Try.pinned (OpenSpec.ofChange flexTurnedWrong)

/-- 'casementlaw14.TextWidths': WHATEVER THE INPUT: true; the input reads as it did. -/
def textWidthsSpec : ChangeSpec := { name := "textWidths", fn := fun _ => fun
  | [d1, d2, d3, d4, d5] => { results := [.lit (.bool true)], args := [d1, d2, d3, d4, d5] }
  | _ => none }
def textWidthsRow : OpenClaim := { program := "yteghacdpfhohoaa", sum := "3b5dc04524658498e6f3d9b35e1252ff28d53cbcbf00825c438ca99534ecc467", func := "casement/casementlaw14.TextWidths", spec := "textWidths", recurses := true, apart := false }
def TextWidthsSaid : Prop := textWidthsRow.holds Try.pinned (OpenSpec.ofChange textWidthsSpec)

/-- ITS FALSE NEIGHBOUR: 'it returns false'. Refute it at one input. -/
def textWidthsWrong : ChangeSpec := { name := "textWidths", fn := fun _ => fun
  | [d1, d2, d3, d4, d5] => { results := [.lit (.bool false)], args := [d1, d2, d3, d4, d5] }
  | _ => none }
def TextWidthsWrongFalsely : Prop := textWidthsRow.holds Try.pinned (OpenSpec.ofChange textWidthsWrong)

/-- 'casementlaw14.TextSums': WHATEVER THE INPUT: true; the input reads as it did. -/
def textSumsSpec : ChangeSpec := { name := "textSums", fn := fun _ => fun
  | [d1, d2, d3, d4] => { results := [.lit (.bool true)], args := [d1, d2, d3, d4] }
  | _ => none }
def textSumsRow : OpenClaim := { program := "yteghacdpfhohoaa", sum := "3b5dc04524658498e6f3d9b35e1252ff28d53cbcbf00825c438ca99534ecc467", func := "casement/casementlaw14.TextSums", spec := "textSums", recurses := true, apart := false }
def TextSumsSaid : Prop := textSumsRow.holds Try.pinned (OpenSpec.ofChange textSumsSpec)

/-- ITS FALSE NEIGHBOUR: 'it returns false'. Refute it at one input. -/
def textSumsWrong : ChangeSpec := { name := "textSums", fn := fun _ => fun
  | [d1, d2, d3, d4] => { results := [.lit (.bool false)], args := [d1, d2, d3, d4] }
  | _ => none }
def TextSumsWrongFalsely : Prop := textSumsRow.holds Try.pinned (OpenSpec.ofChange textSumsWrong)

/-- 'casementlaw14.TextKept': WHATEVER THE INPUT: true; the input reads as it did. -/
def textKeptSpec : ChangeSpec := { name := "textKept", fn := fun _ => fun
  | [d1, d2] => { results := [.lit (.bool true)], args := [d1, d2] }
  | _ => none }
def textKeptRow : OpenClaim := { program := "yteghacdpfhohoaa", sum := "3b5dc04524658498e6f3d9b35e1252ff28d53cbcbf00825c438ca99534ecc467", func := "casement/casementlaw14.TextKept", spec := "textKept", unfollowed := true, recurses := true, apart := false }
def TextKeptSaid : Prop := textKeptRow.holds Try.pinned (OpenSpec.ofChange textKeptSpec)

/-- ITS FALSE NEIGHBOUR: 'it returns false'. Refute it at one input. -/
def textKeptWrong : ChangeSpec := { name := "textKept", fn := fun _ => fun
  | [d1, d2] => { results := [.lit (.bool false)], args := [d1, d2] }
  | _ => none }
def TextKeptWrongFalsely : Prop := textKeptRow.holds Try.pinned (OpenSpec.ofChange textKeptWrong)

/-- 'casementlaw14.TextNumbers': WHATEVER THE INPUT: true; the input reads as it did. -/
def textNumbersSpec : ChangeSpec := { name := "textNumbers", fn := fun _ => fun
  | [] => { results := [.lit (.bool true)], args := [] }
  | _ => none }
def textNumbersRow : OpenClaim := { program := "yteghacdpfhohoaa", sum := "3b5dc04524658498e6f3d9b35e1252ff28d53cbcbf00825c438ca99534ecc467", func := "casement/casementlaw14.TextNumbers", spec := "textNumbers", recurses := true, apart := false }
def TextNumbersSaid : Prop := textNumbersRow.holds Try.pinned (OpenSpec.ofChange textNumbersSpec)

/-- ITS FALSE NEIGHBOUR: 'it returns false'. Refute it at one input. -/
def textNumbersWrong : ChangeSpec := { name := "textNumbers", fn := fun _ => fun
  | [] => { results := [.lit (.bool false)], args := [] }
  | _ => none }
def TextNumbersWrongFalsely : Prop := textNumbersRow.holds Try.pinned (OpenSpec.ofChange textNumbersWrong)

/-- 'casementlaw14.TextBlanks': WHATEVER THE INPUT: true; the input reads as it did. -/
def textBlanksSpec : ChangeSpec := { name := "textBlanks", fn := fun _ => fun
  | [d1, d2] => { results := [.lit (.bool true)], args := [d1, d2] }
  | _ => none }
def textBlanksRow : OpenClaim := { program := "yteghacdpfhohoaa", sum := "3b5dc04524658498e6f3d9b35e1252ff28d53cbcbf00825c438ca99534ecc467", func := "casement/casementlaw14.TextBlanks", spec := "textBlanks", recurses := true, apart := false }
def TextBlanksSaid : Prop := textBlanksRow.holds Try.pinned (OpenSpec.ofChange textBlanksSpec)

/-- ITS FALSE NEIGHBOUR: 'it returns false'. Refute it at one input. -/
def textBlanksWrong : ChangeSpec := { name := "textBlanks", fn := fun _ => fun
  | [d1, d2] => { results := [.lit (.bool false)], args := [d1, d2] }
  | _ => none }
def TextBlanksWrongFalsely : Prop := textBlanksRow.holds Try.pinned (OpenSpec.ofChange textBlanksWrong)

/-- 'casementlaw18.FlexOrder': WHATEVER THE INPUT: true; the input reads as it did. -/
def flexOrderSpec : ChangeSpec := { name := "flexOrder", fn := fun _ => fun
  | [d1, d2, d3] => { results := [.lit (.bool true)], args := [d1, d2, d3] }
  | _ => none }
def flexOrderRow : OpenClaim := { program := "yteghacdpfhohoaa", sum := "3b5dc04524658498e6f3d9b35e1252ff28d53cbcbf00825c438ca99534ecc467", func := "casement/casementlaw18.FlexOrder", spec := "flexOrder", recurses := true, apart := false }
def FlexOrderSaid : Prop := flexOrderRow.holds Try.pinned (OpenSpec.ofChange flexOrderSpec)

/-- ITS FALSE NEIGHBOUR: 'it returns false'. Refute it at one input. -/
def flexOrderWrong : ChangeSpec := { name := "flexOrder", fn := fun _ => fun
  | [d1, d2, d3] => { results := [.lit (.bool false)], args := [d1, d2, d3] }
  | _ => none }
def FlexOrderWrongFalsely : Prop := flexOrderRow.holds Try.pinned (OpenSpec.ofChange flexOrderWrong)

/-- 'casementlaw18.FlexKept': WHATEVER THE INPUT: true; the input reads as it did. -/
def flexKeptSpec : ChangeSpec := { name := "flexKept", fn := fun _ => fun
  | [d1, d2] => { results := [.lit (.bool true)], args := [d1, d2] }
  | _ => none }
def flexKeptRow : OpenClaim := { program := "yteghacdpfhohoaa", sum := "3b5dc04524658498e6f3d9b35e1252ff28d53cbcbf00825c438ca99534ecc467", func := "casement/casementlaw18.FlexKept", spec := "flexKept", unfollowed := true, recurses := true, apart := false }
def FlexKeptSaid : Prop := flexKeptRow.holds Try.pinned (OpenSpec.ofChange flexKeptSpec)

/-- ITS FALSE NEIGHBOUR: 'it returns false'. Refute it at one input. -/
def flexKeptWrong : ChangeSpec := { name := "flexKept", fn := fun _ => fun
  | [d1, d2] => { results := [.lit (.bool false)], args := [d1, d2] }
  | _ => none }
def FlexKeptWrongFalsely : Prop := flexKeptRow.holds Try.pinned (OpenSpec.ofChange flexKeptWrong)

/-- 'casementlaw18.FlexNumbers': WHATEVER THE INPUT: true; the input reads as it did. -/
def flexNumbersSpec : ChangeSpec := { name := "flexNumbers", fn := fun _ => fun
  | [] => { results := [.lit (.bool true)], args := [] }
  | _ => none }
def flexNumbersRow : OpenClaim := { program := "yteghacdpfhohoaa", sum := "3b5dc04524658498e6f3d9b35e1252ff28d53cbcbf00825c438ca99534ecc467", func := "casement/casementlaw18.FlexNumbers", spec := "flexNumbers", apart := false }
def FlexNumbersSaid : Prop := flexNumbersRow.holds Try.pinned (OpenSpec.ofChange flexNumbersSpec)

/-- ITS FALSE NEIGHBOUR: 'it returns false'. Refute it at one input. -/
def flexNumbersWrong : ChangeSpec := { name := "flexNumbers", fn := fun _ => fun
  | [] => { results := [.lit (.bool false)], args := [] }
  | _ => none }
def FlexNumbersWrongFalsely : Prop := flexNumbersRow.holds Try.pinned (OpenSpec.ofChange flexNumbersWrong)

/-- 'casementlaw18.FlexEven': WHATEVER THE INPUT: true; the input reads as it did. -/
def flexEvenSpec : ChangeSpec := { name := "flexEven", fn := fun _ => fun
  | [d1, d2, d3, d4] => { results := [.lit (.bool true)], args := [d1, d2, d3, d4] }
  | _ => none }
def flexEvenRow : OpenClaim := { program := "yteghacdpfhohoaa", sum := "3b5dc04524658498e6f3d9b35e1252ff28d53cbcbf00825c438ca99534ecc467", func := "casement/casementlaw18.FlexEven", spec := "flexEven", recurses := true, apart := false }
def FlexEvenSaid : Prop := flexEvenRow.holds Try.pinned (OpenSpec.ofChange flexEvenSpec)

/-- ITS FALSE NEIGHBOUR: 'it returns false'. Refute it at one input. -/
def flexEvenWrong : ChangeSpec := { name := "flexEven", fn := fun _ => fun
  | [d1, d2, d3, d4] => { results := [.lit (.bool false)], args := [d1, d2, d3, d4] }
  | _ => none }
def FlexEvenWrongFalsely : Prop := flexEvenRow.holds Try.pinned (OpenSpec.ofChange flexEvenWrong)

/- THE SECOND FORM. 'bulk': how many values and letters a reading holds, each counted each time it is reached (what is shared counts as often as it is met; a slice's spare places count too). A statement '..UptoSaid' is the law's where the arguments, and the package variables that the reading takes, are together of bulk at most 1048576: NARROWER than '..Said'. Prove '..Said' where nothing that the law and all that it calls make is longer than what came in: it says more and counts as full. Else prove '..UptoSaid'. A law counts once. -/
mutual
def uptoBulk {H : Type} : DataW H → Nat
  | .lit (.string bytes) => bytes.length + 1
  | .lit _ => 1
  | .nil => 1
  | .ptr d => uptoBulk d + 1
  | .slice elems spare => uptoBulkAll elems + uptoBulkAll spare + 1
  | .agg parts => uptoBulkAll parts + 1
  | .iface _ d => uptoBulk d + 1
  | .map entries => uptoBulkEntries entries + 1
  | .held _ => 1
def uptoBulkAll {H : Type} : List (DataW H) → Nat
  | [] => 0
  | d :: r => uptoBulk d + uptoBulkAll r
def uptoBulkEntries {H : Type} : List (Lit × DataW H) → Nat
  | [] => 0
  | x :: r => uptoBulkEntry x + uptoBulkEntries r
def uptoBulkEntry {H : Type} : Lit × DataW H → Nat
  | (.string bytes, d) => bytes.length + uptoBulk d + 1
  | (_, d) => uptoBulk d + 1
 end
def uptoSmall : (H : Type) → List (DataW H) → Bool := fun _ ds => decide (uptoBulkAll ds ≤ 1048576)
def OpenSpec.upto (s : _root_.Go.ChangeSpec) : _root_.Go.OpenSpec := { _root_.Go.OpenSpec.ofChange s with cond := some uptoSmall }

/-- 'casementlaw18.FlexFills', WHERE WHAT IT READS IS OF BULK AT MOST 1048576: true; the input reads as it did. -/
def flexFillsUptoRow : OpenClaim := { program := "yteghacdpfhohoaa", sum := "3b5dc04524658498e6f3d9b35e1252ff28d53cbcbf00825c438ca99534ecc467", func := "casement/casementlaw18.FlexFills", spec := "flexFills", recurses := true, apart := false, narrowed := true }
def FlexFillsUptoSaid : Prop := flexFillsUptoRow.holds Try.pinned (OpenSpec.upto flexFillsSpec)

/-- 'casementlaw18.FlexTurned', WHERE WHAT IT READS IS OF BULK AT MOST 1048576: true; the input reads as it did. -/
def flexTurnedUptoRow : OpenClaim := { program := "yteghacdpfhohoaa", sum := "3b5dc04524658498e6f3d9b35e1252ff28d53cbcbf00825c438ca99534ecc467", func := "casement/casementlaw18.FlexTurned", spec := "flexTurned", recurses := true, apart := false, narrowed := true }
def FlexTurnedUptoSaid : Prop := flexTurnedUptoRow.holds Try.pinned (OpenSpec.upto flexTurnedSpec)

/-- 'casementlaw14.TextWidths', WHERE WHAT IT READS IS OF BULK AT MOST 1048576: true; the input reads as it did. -/
def textWidthsUptoRow : OpenClaim := { program := "yteghacdpfhohoaa", sum := "3b5dc04524658498e6f3d9b35e1252ff28d53cbcbf00825c438ca99534ecc467", func := "casement/casementlaw14.TextWidths", spec := "textWidths", recurses := true, apart := false, narrowed := true }
def TextWidthsUptoSaid : Prop := textWidthsUptoRow.holds Try.pinned (OpenSpec.upto textWidthsSpec)

/-- 'casementlaw14.TextSums', WHERE WHAT IT READS IS OF BULK AT MOST 1048576: true; the input reads as it did. -/
def textSumsUptoRow : OpenClaim := { program := "yteghacdpfhohoaa", sum := "3b5dc04524658498e6f3d9b35e1252ff28d53cbcbf00825c438ca99534ecc467", func := "casement/casementlaw14.TextSums", spec := "textSums", recurses := true, apart := false, narrowed := true }
def TextSumsUptoSaid : Prop := textSumsUptoRow.holds Try.pinned (OpenSpec.upto textSumsSpec)

/-- 'casementlaw14.TextKept', WHERE WHAT IT READS IS OF BULK AT MOST 1048576: true; the input reads as it did. -/
def textKeptUptoRow : OpenClaim := { program := "yteghacdpfhohoaa", sum := "3b5dc04524658498e6f3d9b35e1252ff28d53cbcbf00825c438ca99534ecc467", func := "casement/casementlaw14.TextKept", spec := "textKept", unfollowed := true, recurses := true, apart := false, narrowed := true }
def TextKeptUptoSaid : Prop := textKeptUptoRow.holds Try.pinned (OpenSpec.upto textKeptSpec)

/-- 'casementlaw14.TextNumbers', WHERE WHAT IT READS IS OF BULK AT MOST 1048576: true; the input reads as it did. -/
def textNumbersUptoRow : OpenClaim := { program := "yteghacdpfhohoaa", sum := "3b5dc04524658498e6f3d9b35e1252ff28d53cbcbf00825c438ca99534ecc467", func := "casement/casementlaw14.TextNumbers", spec := "textNumbers", recurses := true, apart := false, narrowed := true }
def TextNumbersUptoSaid : Prop := textNumbersUptoRow.holds Try.pinned (OpenSpec.upto textNumbersSpec)

/-- 'casementlaw14.TextBlanks', WHERE WHAT IT READS IS OF BULK AT MOST 1048576: true; the input reads as it did. -/
def textBlanksUptoRow : OpenClaim := { program := "yteghacdpfhohoaa", sum := "3b5dc04524658498e6f3d9b35e1252ff28d53cbcbf00825c438ca99534ecc467", func := "casement/casementlaw14.TextBlanks", spec := "textBlanks", recurses := true, apart := false, narrowed := true }
def TextBlanksUptoSaid : Prop := textBlanksUptoRow.holds Try.pinned (OpenSpec.upto textBlanksSpec)

/-- 'casementlaw18.FlexOrder', WHERE WHAT IT READS IS OF BULK AT MOST 1048576: true; the input reads as it did. -/
def flexOrderUptoRow : OpenClaim := { program := "yteghacdpfhohoaa", sum := "3b5dc04524658498e6f3d9b35e1252ff28d53cbcbf00825c438ca99534ecc467", func := "casement/casementlaw18.FlexOrder", spec := "flexOrder", recurses := true, apart := false, narrowed := true }
def FlexOrderUptoSaid : Prop := flexOrderUptoRow.holds Try.pinned (OpenSpec.upto flexOrderSpec)

/-- 'casementlaw18.FlexKept', WHERE WHAT IT READS IS OF BULK AT MOST 1048576: true; the input reads as it did. -/
def flexKeptUptoRow : OpenClaim := { program := "yteghacdpfhohoaa", sum := "3b5dc04524658498e6f3d9b35e1252ff28d53cbcbf00825c438ca99534ecc467", func := "casement/casementlaw18.FlexKept", spec := "flexKept", unfollowed := true, recurses := true, apart := false, narrowed := true }
def FlexKeptUptoSaid : Prop := flexKeptUptoRow.holds Try.pinned (OpenSpec.upto flexKeptSpec)

/-- 'casementlaw18.FlexNumbers', WHERE WHAT IT READS IS OF BULK AT MOST 1048576: true; the input reads as it did. -/
def flexNumbersUptoRow : OpenClaim := { program := "yteghacdpfhohoaa", sum := "3b5dc04524658498e6f3d9b35e1252ff28d53cbcbf00825c438ca99534ecc467", func := "casement/casementlaw18.FlexNumbers", spec := "flexNumbers", apart := false, narrowed := true }
def FlexNumbersUptoSaid : Prop := flexNumbersUptoRow.holds Try.pinned (OpenSpec.upto flexNumbersSpec)

/-- 'casementlaw18.FlexEven', WHERE WHAT IT READS IS OF BULK AT MOST 1048576: true; the input reads as it did. -/
def flexEvenUptoRow : OpenClaim := { program := "yteghacdpfhohoaa", sum := "3b5dc04524658498e6f3d9b35e1252ff28d53cbcbf00825c438ca99534ecc467", func := "casement/casementlaw18.FlexEven", spec := "flexEven", recurses := true, apart := false, narrowed := true }
def FlexEvenUptoSaid : Prop := flexEvenUptoRow.holds Try.pinned (OpenSpec.upto flexEvenSpec)

end Rows
end Go.Proofs.Yteghacdpfhohoaa
