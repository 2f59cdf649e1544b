/-
  DERIVED. GIVEN WITH THE SEED: THE CARDS: each row of YtghhphdkojjalaaGreatDoorRows.lean that lists a variable, with what it lists TIED to the program's text (the seventh form; the later family's looks); each row that meets fmt, with fmt's text TOLD by the authors' own Lean function (tested against real Go, not proved from fmt's source: count such statements apart). THE CARD IS WHAT COUNTS. Prove the row's statement (the work); the ties are given (YtghhphdkojjalaaGreatDoorTie.lean); close each card by the builder's one call (the guide's Derived/Test/ToyasCard.lean, 'card_holds'). Laid BY PROGRAM, IN A SANDBOX (cutbox-door.mjs). By AI agents, Wed Nov 11 2026. No macro, syntax, notation, axiom, sorry.
-/
import Derived.Test.YtghhphdkojjalaaGreatDoorRows
import GoSem.ClaimSeven
namespace Go.Proofs.YtghhphdkojjalaaGreatDoor
namespace Rows

/-- THE TIED CARD OF 'droguelaw08.TableDiags'. -/
def tableDiagsCard : Claim7 := { stood := { row := tableDiagsRow, standIns := [], harness := (true, "49544d265d92c4a0a83ca44b137a5c85b55cae2b6bce50425ae5d9e5acdad53d"), looks := true }, kinds := [], alts := [], laidByText := true, laidKinds := [.data, .data, .data, .sentinel, .sentinel, .listed, .data], laidTests := true, laidLooks := .later }
def TableDiagsCardSaid : Prop := Claim7.holds Tryz.pinned (.plain (OpenSpec.ofChange tableDiagsSpec)) tableDiagsCard

/-- THE TIED CARD OF 'droguelaw08.TableTypes'. -/
def tableTypesCard : Claim7 := { stood := { row := tableTypesRow, standIns := [], harness := (true, "49544d265d92c4a0a83ca44b137a5c85b55cae2b6bce50425ae5d9e5acdad53d"), looks := true }, kinds := [], alts := [], laidByText := true, laidKinds := [.data, .data, .data, .sentinel, .sentinel, .listed, .data], laidTests := true, laidLooks := .later }
def TableTypesCardSaid : Prop := Claim7.holds Tryz.pinned (.plain (OpenSpec.ofChange tableTypesSpec)) tableTypesCard

/-- THE TIED CARD OF 'droguelaw08.TableOrder'. -/
def tableOrderCard : Claim7 := { stood := { row := tableOrderRow, standIns := [], harness := (true, "49544d265d92c4a0a83ca44b137a5c85b55cae2b6bce50425ae5d9e5acdad53d"), looks := true }, kinds := [], alts := [], laidByText := true, laidKinds := [.data, .data, .data, .sentinel, .sentinel, .listed, .data], laidTests := true, laidLooks := .later }
def TableOrderCardSaid : Prop := Claim7.holds Tryz.pinned (.plain (OpenSpec.ofChange tableOrderSpec)) tableOrderCard

/-- THE TIED CARD OF 'droguelaw08.TableParts'. -/
def tablePartsCard : Claim7 := { stood := { row := tablePartsRow, standIns := [], harness := (true, "49544d265d92c4a0a83ca44b137a5c85b55cae2b6bce50425ae5d9e5acdad53d"), looks := true }, kinds := [], alts := [], laidByText := true, laidKinds := [.data, .data, .data, .sentinel, .sentinel, .listed, .data], laidTests := true, laidLooks := .later }
def TablePartsCardSaid : Prop := Claim7.holds Tryz.pinned (.plain (OpenSpec.ofChange tablePartsSpec)) tablePartsCard

/-- THE TIED CARD OF 'droguelaw08.TableNames'. -/
def tableNamesCard : Claim7 := { stood := { row := tableNamesRow, standIns := [], harness := (true, "49544d265d92c4a0a83ca44b137a5c85b55cae2b6bce50425ae5d9e5acdad53d"), looks := true }, kinds := [], alts := [], laidByText := true, laidKinds := [.data, .data, .data, .sentinel, .sentinel, .listed, .data], laidTests := true, laidLooks := .later }
def TableNamesCardSaid : Prop := Claim7.holds Tryz.pinned (.plain (OpenSpec.ofChange tableNamesSpec)) tableNamesCard

/-- THE TIED CARD OF 'droguelaw08.TableBoxes'. -/
def tableBoxesCard : Claim7 := { stood := { row := tableBoxesRow, standIns := [], harness := (true, "49544d265d92c4a0a83ca44b137a5c85b55cae2b6bce50425ae5d9e5acdad53d"), looks := true }, kinds := [], alts := [], laidByText := true, laidKinds := [.data, .data, .data, .sentinel, .sentinel, .listed, .data], laidTests := true, laidLooks := .later }
def TableBoxesCardSaid : Prop := Claim7.holds Tryz.pinned (.plain (OpenSpec.ofChange tableBoxesSpec)) tableBoxesCard

/-- THE SECOND FORM's CARD OF 'droguelaw08.TableDiags'. -/
def tableDiagsUptoCard : Claim7 := { stood := { row := tableDiagsUptoRow, standIns := [], harness := (true, "49544d265d92c4a0a83ca44b137a5c85b55cae2b6bce50425ae5d9e5acdad53d"), looks := true }, kinds := [], alts := [], laidByText := true, laidKinds := [.data, .data, .data, .sentinel, .sentinel, .listed, .data], laidTests := true, laidLooks := .later }
def TableDiagsUptoCardSaid : Prop := Claim7.holds Tryz.pinned (.plain (OpenSpec.upto tableDiagsSpec)) tableDiagsUptoCard

/-- THE SECOND FORM's CARD OF 'droguelaw08.TableTypes'. -/
def tableTypesUptoCard : Claim7 := { stood := { row := tableTypesUptoRow, standIns := [], harness := (true, "49544d265d92c4a0a83ca44b137a5c85b55cae2b6bce50425ae5d9e5acdad53d"), looks := true }, kinds := [], alts := [], laidByText := true, laidKinds := [.data, .data, .data, .sentinel, .sentinel, .listed, .data], laidTests := true, laidLooks := .later }
def TableTypesUptoCardSaid : Prop := Claim7.holds Tryz.pinned (.plain (OpenSpec.upto tableTypesSpec)) tableTypesUptoCard

/-- THE SECOND FORM's CARD OF 'droguelaw08.TableOrder'. -/
def tableOrderUptoCard : Claim7 := { stood := { row := tableOrderUptoRow, standIns := [], harness := (true, "49544d265d92c4a0a83ca44b137a5c85b55cae2b6bce50425ae5d9e5acdad53d"), looks := true }, kinds := [], alts := [], laidByText := true, laidKinds := [.data, .data, .data, .sentinel, .sentinel, .listed, .data], laidTests := true, laidLooks := .later }
def TableOrderUptoCardSaid : Prop := Claim7.holds Tryz.pinned (.plain (OpenSpec.upto tableOrderSpec)) tableOrderUptoCard

/-- THE SECOND FORM's CARD OF 'droguelaw08.TableParts'. -/
def tablePartsUptoCard : Claim7 := { stood := { row := tablePartsUptoRow, standIns := [], harness := (true, "49544d265d92c4a0a83ca44b137a5c85b55cae2b6bce50425ae5d9e5acdad53d"), looks := true }, kinds := [], alts := [], laidByText := true, laidKinds := [.data, .data, .data, .sentinel, .sentinel, .listed, .data], laidTests := true, laidLooks := .later }
def TablePartsUptoCardSaid : Prop := Claim7.holds Tryz.pinned (.plain (OpenSpec.upto tablePartsSpec)) tablePartsUptoCard

/-- THE SECOND FORM's CARD OF 'droguelaw08.TableNames'. -/
def tableNamesUptoCard : Claim7 := { stood := { row := tableNamesUptoRow, standIns := [], harness := (true, "49544d265d92c4a0a83ca44b137a5c85b55cae2b6bce50425ae5d9e5acdad53d"), looks := true }, kinds := [], alts := [], laidByText := true, laidKinds := [.data, .data, .data, .sentinel, .sentinel, .listed, .data], laidTests := true, laidLooks := .later }
def TableNamesUptoCardSaid : Prop := Claim7.holds Tryz.pinned (.plain (OpenSpec.upto tableNamesSpec)) tableNamesUptoCard

/-- THE SECOND FORM's CARD OF 'droguelaw08.TableBoxes'. -/
def tableBoxesUptoCard : Claim7 := { stood := { row := tableBoxesUptoRow, standIns := [], harness := (true, "49544d265d92c4a0a83ca44b137a5c85b55cae2b6bce50425ae5d9e5acdad53d"), looks := true }, kinds := [], alts := [], laidByText := true, laidKinds := [.data, .data, .data, .sentinel, .sentinel, .listed, .data], laidTests := true, laidLooks := .later }
def TableBoxesUptoCardSaid : Prop := Claim7.holds Tryz.pinned (.plain (OpenSpec.upto tableBoxesSpec)) tableBoxesUptoCard
end Rows
end Go.Proofs.YtghhphdkojjalaaGreatDoor
