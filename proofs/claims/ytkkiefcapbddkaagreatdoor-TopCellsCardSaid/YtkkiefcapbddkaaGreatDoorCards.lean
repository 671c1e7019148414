/-
  DERIVED. GIVEN WITH THE SEED: THE CARDS: each row of YtkkiefcapbddkaaGreatDoorRows.lean that lists a variable, with what it lists TIED to the program's text (the seventh form; the later family's looks); each row that meets fmt, with fmt's text TOLD by the authors' own Lean function (tested against real Go, not proved from fmt's source: count such statements apart). THE CARD IS WHAT COUNTS. Prove the row's statement (the work); the ties are given (YtkkiefcapbddkaaGreatDoorTie.lean); close each card by the builder's one call (the guide's Derived/Test/ToyasCard.lean, 'card_holds'). Laid BY PROGRAM, IN A SANDBOX (cutbox-door.mjs). By AI agents, Wed Nov 11 2026. No macro, syntax, notation, axiom, sorry.
-/
import Derived.Test.YtkkiefcapbddkaaGreatDoorRows
import GoSem.ClaimSeven
namespace Go.Proofs.YtkkiefcapbddkaaGreatDoor
namespace Rows

/-- THE TIED CARD OF 'casementtop.TopOrdered'. -/
def topOrderedCard : Claim7 := { stood := { row := topOrderedRow, standIns := [], harness := (true, "a82048598bdb44953602d76ee421eb5b60200ed997e55fe6edeaa66ea3890d2b"), looks := false }, kinds := [], alts := [], laidByText := true, laidKinds := [.data, .listed, .data, .pinned], laidTests := true, laidLooks := .later }
def TopOrderedCardSaid : Prop := Claim7.holds Tryz.pinned (.plain (OpenSpec.ofChange topOrderedSpec)) topOrderedCard

/-- THE TIED CARD OF 'casementtop.TopGrown'. -/
def topGrownCard : Claim7 := { stood := { row := topGrownRow, standIns := [], harness := (true, "a82048598bdb44953602d76ee421eb5b60200ed997e55fe6edeaa66ea3890d2b"), looks := false }, kinds := [], alts := [], laidByText := true, laidKinds := [.data, .listed, .data, .pinned], laidTests := true, laidLooks := .later }
def TopGrownCardSaid : Prop := Claim7.holds Tryz.pinned (.plain (OpenSpec.ofChange topGrownSpec)) topGrownCard

/-- THE TIED CARD OF 'casementtop.TopCells'. -/
def topCellsCard : Claim7 := { stood := { row := topCellsRow, standIns := [], harness := (true, "a82048598bdb44953602d76ee421eb5b60200ed997e55fe6edeaa66ea3890d2b"), looks := false }, kinds := [], alts := [], laidByText := true, laidKinds := [.data, .listed, .data, .pinned], laidTests := true, laidLooks := .later }
def TopCellsCardSaid : Prop := Claim7.holds Tryz.pinned (.plain (OpenSpec.ofChange topCellsSpec)) topCellsCard

/-- THE TIED CARD OF 'casementtop.TopHeavy'. -/
def topHeavyCard : Claim7 := { stood := { row := topHeavyRow, standIns := [], harness := (true, "a82048598bdb44953602d76ee421eb5b60200ed997e55fe6edeaa66ea3890d2b"), looks := false }, kinds := [], alts := [], laidByText := true, laidKinds := [.data, .listed, .data, .pinned], laidTests := true, laidLooks := .later }
def TopHeavyCardSaid : Prop := Claim7.holds Tryz.pinned (.plain (OpenSpec.ofChange topHeavySpec)) topHeavyCard

/-- THE SECOND FORM's CARD OF 'casementtop.TopOrdered'. -/
def topOrderedUptoCard : Claim7 := { stood := { row := topOrderedUptoRow, standIns := [], harness := (true, "a82048598bdb44953602d76ee421eb5b60200ed997e55fe6edeaa66ea3890d2b"), looks := false }, kinds := [], alts := [], laidByText := true, laidKinds := [.data, .listed, .data, .pinned], laidTests := true, laidLooks := .later }
def TopOrderedUptoCardSaid : Prop := Claim7.holds Tryz.pinned (.plain (OpenSpec.upto topOrderedSpec)) topOrderedUptoCard

/-- THE SECOND FORM's CARD OF 'casementtop.TopGrown'. -/
def topGrownUptoCard : Claim7 := { stood := { row := topGrownUptoRow, standIns := [], harness := (true, "a82048598bdb44953602d76ee421eb5b60200ed997e55fe6edeaa66ea3890d2b"), looks := false }, kinds := [], alts := [], laidByText := true, laidKinds := [.data, .listed, .data, .pinned], laidTests := true, laidLooks := .later }
def TopGrownUptoCardSaid : Prop := Claim7.holds Tryz.pinned (.plain (OpenSpec.upto topGrownSpec)) topGrownUptoCard

/-- THE SECOND FORM's CARD OF 'casementtop.TopCells'. -/
def topCellsUptoCard : Claim7 := { stood := { row := topCellsUptoRow, standIns := [], harness := (true, "a82048598bdb44953602d76ee421eb5b60200ed997e55fe6edeaa66ea3890d2b"), looks := false }, kinds := [], alts := [], laidByText := true, laidKinds := [.data, .listed, .data, .pinned], laidTests := true, laidLooks := .later }
def TopCellsUptoCardSaid : Prop := Claim7.holds Tryz.pinned (.plain (OpenSpec.upto topCellsSpec)) topCellsUptoCard

/-- THE SECOND FORM's CARD OF 'casementtop.TopHeavy'. -/
def topHeavyUptoCard : Claim7 := { stood := { row := topHeavyUptoRow, standIns := [], harness := (true, "a82048598bdb44953602d76ee421eb5b60200ed997e55fe6edeaa66ea3890d2b"), looks := false }, kinds := [], alts := [], laidByText := true, laidKinds := [.data, .listed, .data, .pinned], laidTests := true, laidLooks := .later }
def TopHeavyUptoCardSaid : Prop := Claim7.holds Tryz.pinned (.plain (OpenSpec.upto topHeavySpec)) topHeavyUptoCard
end Rows
end Go.Proofs.YtkkiefcapbddkaaGreatDoor
