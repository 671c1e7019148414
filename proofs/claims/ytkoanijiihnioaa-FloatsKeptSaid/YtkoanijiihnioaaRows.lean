/-
  No cell of these rows narrows 'for every input' (looked for: loops, veiled, ifaces, maps, wideKeys, modest, calm, conditions, laid).
  DERIVED. THE GIVEN ROWS OF THIS SEAT. 11 by the template 'for every input the law returns true; each argument reads behind the call as it read before'; 0 by the template 'total and deterministic' (their statements: YtkoanijiihnioaaTotals.lean).
  GIVEN WITH THE SEED: the statements are not yours to turn. If you find one false, say at which input.
  Laid BY PROGRAM, IN A SANDBOX (cutbox-rows.mjs): the forced cells as the released guide's own fill.sh prints them over the translation 5112751e8cbc661c… (all of the seat's roots in one cut). By AI agents, Wed Nov 11 2026. No macro, syntax, notation, axiom, sorry.
-/
import Derived.Test.YtkoanijiihnioaaChecked
import GoSem.Claim
import GoSem.ClaimJoined
import GoSem.ClaimMapViews
import Derived.JoinedTies
import Derived.KernelRfl
namespace Go.Proofs.Ytkoanijiihnioaa
/- THE CELL 'sum', in the pinned program and in every row, IS THE sha256 OF THE DUMP (.gsa) THAT YtkoanijiihnioaaProg.lean LOADS. Nothing in Lean hashes anything: it is a label: what it is worth is what the hold of that sum in a sandbox is worth. -/
noncomputable def Try.pinned : Pinned := { name := "ytkoanijiihnioaa", sum := "5112751e8cbc661c0d5bbf2f43dd88c5a6da2889fa04cc2b9372057fed5ab5ba", checked := Try.checked }
namespace Rows
def none {H : Type} : Left H := { results := [], args := [] }

/-- 'casementlaw17.FloatsClears': WHATEVER THE INPUT: true; the input reads as it did. -/
def floatsClearsSpec : ChangeSpec := { name := "floatsClears", fn := fun _ => fun
  | [d1, d2, d3, d4] => { results := [.lit (.bool true)], args := [d1, d2, d3, d4] }
  | _ => none }
def floatsClearsRow : OpenClaim := { program := "ytkoanijiihnioaa", sum := "5112751e8cbc661c0d5bbf2f43dd88c5a6da2889fa04cc2b9372057fed5ab5ba", func := "casement/casementlaw17.FloatsClears", spec := "floatsClears", recurses := true, apart := false }
def FloatsClearsSaid : Prop := floatsClearsRow.holds Try.pinned (OpenSpec.ofChange floatsClearsSpec)

/-- ITS FALSE NEIGHBOUR: 'it returns false'. Refute it at one input. -/
def floatsClearsWrong : ChangeSpec := { name := "floatsClears", fn := fun _ => fun
  | [d1, d2, d3, d4] => { results := [.lit (.bool false)], args := [d1, d2, d3, d4] }
  | _ => none }
def FloatsClearsWrongFalsely : Prop := floatsClearsRow.holds Try.pinned (OpenSpec.ofChange floatsClearsWrong)

/-- 'casementlaw17.FloatsKept': WHATEVER THE INPUT: true; the input reads as it did. -/
def floatsKeptSpec : ChangeSpec := { name := "floatsKept", fn := fun _ => fun
  | [d1, d2] => { results := [.lit (.bool true)], args := [d1, d2] }
  | _ => none }
def floatsKeptRow : OpenClaim := { program := "ytkoanijiihnioaa", sum := "5112751e8cbc661c0d5bbf2f43dd88c5a6da2889fa04cc2b9372057fed5ab5ba", func := "casement/casementlaw17.FloatsKept", spec := "floatsKept", recurses := true, apart := false }
def FloatsKeptSaid : Prop := floatsKeptRow.holds Try.pinned (OpenSpec.ofChange floatsKeptSpec)

/-- ITS FALSE NEIGHBOUR: 'it returns false'. Refute it at one input. -/
def floatsKeptWrong : ChangeSpec := { name := "floatsKept", fn := fun _ => fun
  | [d1, d2] => { results := [.lit (.bool false)], args := [d1, d2] }
  | _ => none }
def FloatsKeptWrongFalsely : Prop := floatsKeptRow.holds Try.pinned (OpenSpec.ofChange floatsKeptWrong)

/-- 'casementlaw17.FloatsApart': WHATEVER THE INPUT: true; the input reads as it did. -/
def floatsApartSpec : ChangeSpec := { name := "floatsApart", fn := fun _ => fun
  | [d1, d2, d3] => { results := [.lit (.bool true)], args := [d1, d2, d3] }
  | _ => none }
def floatsApartRow : OpenClaim := { program := "ytkoanijiihnioaa", sum := "5112751e8cbc661c0d5bbf2f43dd88c5a6da2889fa04cc2b9372057fed5ab5ba", func := "casement/casementlaw17.FloatsApart", spec := "floatsApart", recurses := true, apart := false }
def FloatsApartSaid : Prop := floatsApartRow.holds Try.pinned (OpenSpec.ofChange floatsApartSpec)

/-- ITS FALSE NEIGHBOUR: 'it returns false'. Refute it at one input. -/
def floatsApartWrong : ChangeSpec := { name := "floatsApart", fn := fun _ => fun
  | [d1, d2, d3] => { results := [.lit (.bool false)], args := [d1, d2, d3] }
  | _ => none }
def FloatsApartWrongFalsely : Prop := floatsApartRow.holds Try.pinned (OpenSpec.ofChange floatsApartWrong)

/-- 'casementlaw19.TableFills': WHATEVER THE INPUT: true; the input reads as it did. -/
def tableFillsSpec : ChangeSpec := { name := "tableFills", fn := fun _ => fun
  | [d1, d2, d3] => { results := [.lit (.bool true)], args := [d1, d2, d3] }
  | _ => none }
def tableFillsRow : OpenClaim := { program := "ytkoanijiihnioaa", sum := "5112751e8cbc661c0d5bbf2f43dd88c5a6da2889fa04cc2b9372057fed5ab5ba", func := "casement/casementlaw19.TableFills", spec := "tableFills", recurses := true, apart := false }
def TableFillsSaid : Prop := tableFillsRow.holds Try.pinned (OpenSpec.ofChange tableFillsSpec)

/-- ITS FALSE NEIGHBOUR: 'it returns false'. Refute it at one input. -/
def tableFillsWrong : ChangeSpec := { name := "tableFills", fn := fun _ => fun
  | [d1, d2, d3] => { results := [.lit (.bool false)], args := [d1, d2, d3] }
  | _ => none }
def TableFillsWrongFalsely : Prop := tableFillsRow.holds Try.pinned (OpenSpec.ofChange tableFillsWrong)

/-- 'casementlaw19.TableWider': WHATEVER THE INPUT: true; the input reads as it did. -/
def tableWiderSpec : ChangeSpec := { name := "tableWider", fn := fun _ => fun
  | [d1, d2] => { results := [.lit (.bool true)], args := [d1, d2] }
  | _ => none }
def tableWiderRow : OpenClaim := { program := "ytkoanijiihnioaa", sum := "5112751e8cbc661c0d5bbf2f43dd88c5a6da2889fa04cc2b9372057fed5ab5ba", func := "casement/casementlaw19.TableWider", spec := "tableWider", recurses := true, apart := false }
def TableWiderSaid : Prop := tableWiderRow.holds Try.pinned (OpenSpec.ofChange tableWiderSpec)

/-- ITS FALSE NEIGHBOUR: 'it returns false'. Refute it at one input. -/
def tableWiderWrong : ChangeSpec := { name := "tableWider", fn := fun _ => fun
  | [d1, d2] => { results := [.lit (.bool false)], args := [d1, d2] }
  | _ => none }
def TableWiderWrongFalsely : Prop := tableWiderRow.holds Try.pinned (OpenSpec.ofChange tableWiderWrong)

/-- 'casementlaw17.FloatsNumbers': WHATEVER THE INPUT: true; the input reads as it did. -/
def floatsNumbersSpec : ChangeSpec := { name := "floatsNumbers", fn := fun _ => fun
  | [] => { results := [.lit (.bool true)], args := [] }
  | _ => none }
def floatsNumbersRow : OpenClaim := { program := "ytkoanijiihnioaa", sum := "5112751e8cbc661c0d5bbf2f43dd88c5a6da2889fa04cc2b9372057fed5ab5ba", func := "casement/casementlaw17.FloatsNumbers", spec := "floatsNumbers", apart := false }
def FloatsNumbersSaid : Prop := floatsNumbersRow.holds Try.pinned (OpenSpec.ofChange floatsNumbersSpec)

/-- ITS FALSE NEIGHBOUR: 'it returns false'. Refute it at one input. -/
def floatsNumbersWrong : ChangeSpec := { name := "floatsNumbers", fn := fun _ => fun
  | [] => { results := [.lit (.bool false)], args := [] }
  | _ => none }
def FloatsNumbersWrongFalsely : Prop := floatsNumbersRow.holds Try.pinned (OpenSpec.ofChange floatsNumbersWrong)

/-- 'casementlaw17.FloatsPlays': WHATEVER THE INPUT: true; the input reads as it did. -/
def floatsPlaysSpec : ChangeSpec := { name := "floatsPlays", fn := fun _ => fun
  | [d1, d2, d3, d4] => { results := [.lit (.bool true)], args := [d1, d2, d3, d4] }
  | _ => none }
def floatsPlaysRow : OpenClaim := { program := "ytkoanijiihnioaa", sum := "5112751e8cbc661c0d5bbf2f43dd88c5a6da2889fa04cc2b9372057fed5ab5ba", func := "casement/casementlaw17.FloatsPlays", spec := "floatsPlays", recurses := true, apart := false }
def FloatsPlaysSaid : Prop := floatsPlaysRow.holds Try.pinned (OpenSpec.ofChange floatsPlaysSpec)

/-- ITS FALSE NEIGHBOUR: 'it returns false'. Refute it at one input. -/
def floatsPlaysWrong : ChangeSpec := { name := "floatsPlays", fn := fun _ => fun
  | [d1, d2, d3, d4] => { results := [.lit (.bool false)], args := [d1, d2, d3, d4] }
  | _ => none }
def FloatsPlaysWrongFalsely : Prop := floatsPlaysRow.holds Try.pinned (OpenSpec.ofChange floatsPlaysWrong)

/-- 'casementlaw17.FloatsBands': WHATEVER THE INPUT: true; the input reads as it did. -/
def floatsBandsSpec : ChangeSpec := { name := "floatsBands", fn := fun _ => fun
  | [d1, d2, d3, d4] => { results := [.lit (.bool true)], args := [d1, d2, d3, d4] }
  | _ => none }
def floatsBandsRow : OpenClaim := { program := "ytkoanijiihnioaa", sum := "5112751e8cbc661c0d5bbf2f43dd88c5a6da2889fa04cc2b9372057fed5ab5ba", func := "casement/casementlaw17.FloatsBands", spec := "floatsBands", recurses := true, apart := false }
def FloatsBandsSaid : Prop := floatsBandsRow.holds Try.pinned (OpenSpec.ofChange floatsBandsSpec)

/-- ITS FALSE NEIGHBOUR: 'it returns false'. Refute it at one input. -/
def floatsBandsWrong : ChangeSpec := { name := "floatsBands", fn := fun _ => fun
  | [d1, d2, d3, d4] => { results := [.lit (.bool false)], args := [d1, d2, d3, d4] }
  | _ => none }
def FloatsBandsWrongFalsely : Prop := floatsBandsRow.holds Try.pinned (OpenSpec.ofChange floatsBandsWrong)

/-- 'casementlaw19.TableNumbers': WHATEVER THE INPUT: true; the input reads as it did. -/
def tableNumbersSpec : ChangeSpec := { name := "tableNumbers", fn := fun _ => fun
  | [] => { results := [.lit (.bool true)], args := [] }
  | _ => none }
def tableNumbersRow : OpenClaim := { program := "ytkoanijiihnioaa", sum := "5112751e8cbc661c0d5bbf2f43dd88c5a6da2889fa04cc2b9372057fed5ab5ba", func := "casement/casementlaw19.TableNumbers", spec := "tableNumbers", apart := false }
def TableNumbersSaid : Prop := tableNumbersRow.holds Try.pinned (OpenSpec.ofChange tableNumbersSpec)

/-- ITS FALSE NEIGHBOUR: 'it returns false'. Refute it at one input. -/
def tableNumbersWrong : ChangeSpec := { name := "tableNumbers", fn := fun _ => fun
  | [] => { results := [.lit (.bool false)], args := [] }
  | _ => none }
def TableNumbersWrongFalsely : Prop := tableNumbersRow.holds Try.pinned (OpenSpec.ofChange tableNumbersWrong)

/-- 'casementlaw19.TableReckons': WHATEVER THE INPUT: true; the input reads as it did. -/
def tableReckonsSpec : ChangeSpec := { name := "tableReckons", fn := fun _ => fun
  | [d1, d2, d3, d4] => { results := [.lit (.bool true)], args := [d1, d2, d3, d4] }
  | _ => none }
def tableReckonsRow : OpenClaim := { program := "ytkoanijiihnioaa", sum := "5112751e8cbc661c0d5bbf2f43dd88c5a6da2889fa04cc2b9372057fed5ab5ba", func := "casement/casementlaw19.TableReckons", spec := "tableReckons", recurses := true, apart := false }
def TableReckonsSaid : Prop := tableReckonsRow.holds Try.pinned (OpenSpec.ofChange tableReckonsSpec)

/-- ITS FALSE NEIGHBOUR: 'it returns false'. Refute it at one input. -/
def tableReckonsWrong : ChangeSpec := { name := "tableReckons", fn := fun _ => fun
  | [d1, d2, d3, d4] => { results := [.lit (.bool false)], args := [d1, d2, d3, d4] }
  | _ => none }
def TableReckonsWrongFalsely : Prop := tableReckonsRow.holds Try.pinned (OpenSpec.ofChange tableReckonsWrong)

/-- 'casementlaw19.TableKept': WHATEVER THE INPUT: true; the input reads as it did. -/
def tableKeptSpec : ChangeSpec := { name := "tableKept", fn := fun _ => fun
  | [d1, d2] => { results := [.lit (.bool true)], args := [d1, d2] }
  | _ => none }
def tableKeptRow : OpenClaim := { program := "ytkoanijiihnioaa", sum := "5112751e8cbc661c0d5bbf2f43dd88c5a6da2889fa04cc2b9372057fed5ab5ba", func := "casement/casementlaw19.TableKept", spec := "tableKept", unfollowed := true, recurses := true, apart := false }
def TableKeptSaid : Prop := tableKeptRow.holds Try.pinned (OpenSpec.ofChange tableKeptSpec)

/-- ITS FALSE NEIGHBOUR: 'it returns false'. Refute it at one input. -/
def tableKeptWrong : ChangeSpec := { name := "tableKept", fn := fun _ => fun
  | [d1, d2] => { results := [.lit (.bool false)], args := [d1, d2] }
  | _ => none }
def TableKeptWrongFalsely : Prop := tableKeptRow.holds Try.pinned (OpenSpec.ofChange tableKeptWrong)

/- THE SECOND FORM. 'bulk': how many values and letters a reading holds, each counted each time it is reached (what is shared counts as often as it is met; a slice's spare places count too). A statement '..UptoSaid' is the law's where the arguments, and the package variables that the reading takes, are together of bulk at most 1048576: NARROWER than '..Said'. Prove '..Said' where nothing that the law and all that it calls make is longer than what came in: it says more and counts as full. Else prove '..UptoSaid'. A law counts once. -/
mutual
def uptoBulk {H : Type} : DataW H → Nat
  | .lit (.string bytes) => bytes.length + 1
  | .lit _ => 1
  | .nil => 1
  | .ptr d => uptoBulk d + 1
  | .slice elems spare => uptoBulkAll elems + uptoBulkAll spare + 1
  | .agg parts => uptoBulkAll parts + 1
  | .iface _ d => uptoBulk d + 1
  | .map entries => uptoBulkEntries entries + 1
  | .held _ => 1
def uptoBulkAll {H : Type} : List (DataW H) → Nat
  | [] => 0
  | d :: r => uptoBulk d + uptoBulkAll r
def uptoBulkEntries {H : Type} : List (Lit × DataW H) → Nat
  | [] => 0
  | x :: r => uptoBulkEntry x + uptoBulkEntries r
def uptoBulkEntry {H : Type} : Lit × DataW H → Nat
  | (.string bytes, d) => bytes.length + uptoBulk d + 1
  | (_, d) => uptoBulk d + 1
 end
def uptoSmall : (H : Type) → List (DataW H) → Bool := fun _ ds => decide (uptoBulkAll ds ≤ 1048576)
def OpenSpec.upto (s : _root_.Go.ChangeSpec) : _root_.Go.OpenSpec := { _root_.Go.OpenSpec.ofChange s with cond := some uptoSmall }

/-- 'casementlaw17.FloatsClears', WHERE WHAT IT READS IS OF BULK AT MOST 1048576: true; the input reads as it did. -/
def floatsClearsUptoRow : OpenClaim := { program := "ytkoanijiihnioaa", sum := "5112751e8cbc661c0d5bbf2f43dd88c5a6da2889fa04cc2b9372057fed5ab5ba", func := "casement/casementlaw17.FloatsClears", spec := "floatsClears", recurses := true, apart := false, narrowed := true }
def FloatsClearsUptoSaid : Prop := floatsClearsUptoRow.holds Try.pinned (OpenSpec.upto floatsClearsSpec)

/-- 'casementlaw17.FloatsKept', WHERE WHAT IT READS IS OF BULK AT MOST 1048576: true; the input reads as it did. -/
def floatsKeptUptoRow : OpenClaim := { program := "ytkoanijiihnioaa", sum := "5112751e8cbc661c0d5bbf2f43dd88c5a6da2889fa04cc2b9372057fed5ab5ba", func := "casement/casementlaw17.FloatsKept", spec := "floatsKept", recurses := true, apart := false, narrowed := true }
def FloatsKeptUptoSaid : Prop := floatsKeptUptoRow.holds Try.pinned (OpenSpec.upto floatsKeptSpec)

/-- 'casementlaw17.FloatsApart', WHERE WHAT IT READS IS OF BULK AT MOST 1048576: true; the input reads as it did. -/
def floatsApartUptoRow : OpenClaim := { program := "ytkoanijiihnioaa", sum := "5112751e8cbc661c0d5bbf2f43dd88c5a6da2889fa04cc2b9372057fed5ab5ba", func := "casement/casementlaw17.FloatsApart", spec := "floatsApart", recurses := true, apart := false, narrowed := true }
def FloatsApartUptoSaid : Prop := floatsApartUptoRow.holds Try.pinned (OpenSpec.upto floatsApartSpec)

/-- 'casementlaw19.TableFills', WHERE WHAT IT READS IS OF BULK AT MOST 1048576: true; the input reads as it did. -/
def tableFillsUptoRow : OpenClaim := { program := "ytkoanijiihnioaa", sum := "5112751e8cbc661c0d5bbf2f43dd88c5a6da2889fa04cc2b9372057fed5ab5ba", func := "casement/casementlaw19.TableFills", spec := "tableFills", recurses := true, apart := false, narrowed := true }
def TableFillsUptoSaid : Prop := tableFillsUptoRow.holds Try.pinned (OpenSpec.upto tableFillsSpec)

/-- 'casementlaw19.TableWider', WHERE WHAT IT READS IS OF BULK AT MOST 1048576: true; the input reads as it did. -/
def tableWiderUptoRow : OpenClaim := { program := "ytkoanijiihnioaa", sum := "5112751e8cbc661c0d5bbf2f43dd88c5a6da2889fa04cc2b9372057fed5ab5ba", func := "casement/casementlaw19.TableWider", spec := "tableWider", recurses := true, apart := false, narrowed := true }
def TableWiderUptoSaid : Prop := tableWiderUptoRow.holds Try.pinned (OpenSpec.upto tableWiderSpec)

/-- 'casementlaw17.FloatsNumbers', WHERE WHAT IT READS IS OF BULK AT MOST 1048576: true; the input reads as it did. -/
def floatsNumbersUptoRow : OpenClaim := { program := "ytkoanijiihnioaa", sum := "5112751e8cbc661c0d5bbf2f43dd88c5a6da2889fa04cc2b9372057fed5ab5ba", func := "casement/casementlaw17.FloatsNumbers", spec := "floatsNumbers", apart := false, narrowed := true }
def FloatsNumbersUptoSaid : Prop := floatsNumbersUptoRow.holds Try.pinned (OpenSpec.upto floatsNumbersSpec)

/-- 'casementlaw17.FloatsPlays', WHERE WHAT IT READS IS OF BULK AT MOST 1048576: true; the input reads as it did. -/
def floatsPlaysUptoRow : OpenClaim := { program := "ytkoanijiihnioaa", sum := "5112751e8cbc661c0d5bbf2f43dd88c5a6da2889fa04cc2b9372057fed5ab5ba", func := "casement/casementlaw17.FloatsPlays", spec := "floatsPlays", recurses := true, apart := false, narrowed := true }
def FloatsPlaysUptoSaid : Prop := floatsPlaysUptoRow.holds Try.pinned (OpenSpec.upto floatsPlaysSpec)

/-- 'casementlaw17.FloatsBands', WHERE WHAT IT READS IS OF BULK AT MOST 1048576: true; the input reads as it did. -/
def floatsBandsUptoRow : OpenClaim := { program := "ytkoanijiihnioaa", sum := "5112751e8cbc661c0d5bbf2f43dd88c5a6da2889fa04cc2b9372057fed5ab5ba", func := "casement/casementlaw17.FloatsBands", spec := "floatsBands", recurses := true, apart := false, narrowed := true }
def FloatsBandsUptoSaid : Prop := floatsBandsUptoRow.holds Try.pinned (OpenSpec.upto floatsBandsSpec)

/-- 'casementlaw19.TableNumbers', WHERE WHAT IT READS IS OF BULK AT MOST 1048576: true; the input reads as it did. -/
def tableNumbersUptoRow : OpenClaim := { program := "ytkoanijiihnioaa", sum := "5112751e8cbc661c0d5bbf2f43dd88c5a6da2889fa04cc2b9372057fed5ab5ba", func := "casement/casementlaw19.TableNumbers", spec := "tableNumbers", apart := false, narrowed := true }
def TableNumbersUptoSaid : Prop := tableNumbersUptoRow.holds Try.pinned (OpenSpec.upto tableNumbersSpec)

/-- 'casementlaw19.TableReckons', WHERE WHAT IT READS IS OF BULK AT MOST 1048576: true; the input reads as it did. -/
def tableReckonsUptoRow : OpenClaim := { program := "ytkoanijiihnioaa", sum := "5112751e8cbc661c0d5bbf2f43dd88c5a6da2889fa04cc2b9372057fed5ab5ba", func := "casement/casementlaw19.TableReckons", spec := "tableReckons", recurses := true, apart := false, narrowed := true }
def TableReckonsUptoSaid : Prop := tableReckonsUptoRow.holds Try.pinned (OpenSpec.upto tableReckonsSpec)

/-- 'casementlaw19.TableKept', WHERE WHAT IT READS IS OF BULK AT MOST 1048576: true; the input reads as it did. -/
def tableKeptUptoRow : OpenClaim := { program := "ytkoanijiihnioaa", sum := "5112751e8cbc661c0d5bbf2f43dd88c5a6da2889fa04cc2b9372057fed5ab5ba", func := "casement/casementlaw19.TableKept", spec := "tableKept", unfollowed := true, recurses := true, apart := false, narrowed := true }
def TableKeptUptoSaid : Prop := tableKeptUptoRow.holds Try.pinned (OpenSpec.upto tableKeptSpec)

end Rows
end Go.Proofs.Ytkoanijiihnioaa
