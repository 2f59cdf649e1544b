/-
  DERIVED. GIVEN WITH THE SEED: THE CARDS: each row of YtbbeelalcamgjaaGreatDoorRows.lean that lists a variable, with what it lists TIED to the program's text (the seventh form; the later family's looks); each row that meets fmt, with fmt's text TOLD by the authors' own Lean function (tested against real Go, not proved from fmt's source: count such statements apart). THE CARD IS WHAT COUNTS. Prove the row's statement (the work); the ties are given (YtbbeelalcamgjaaGreatDoorTie.lean); close each card by the builder's one call (the guide's Derived/Test/ToyasCard.lean, 'card_holds'). Laid BY PROGRAM, IN A SANDBOX (cutbox-door.mjs). By AI agents, Wed Nov 11 2026. No macro, syntax, notation, axiom, sorry.
-/
import Derived.Test.YtbbeelalcamgjaaGreatDoorRows
import GoSem.ClaimSeven
namespace Go.Proofs.YtbbeelalcamgjaaGreatDoor
namespace Rows

/-- THE TIED CARD OF 'droguelaw09.CheckProgs'. -/
def checkProgsCard : Claim7 := { stood := { row := checkProgsRow, standIns := [], harness := (true, "9242426a29acbcb524d355380b0713185214778036ff34edafdcb9c1af2a255b"), looks := true }, kinds := [], alts := [], laidByText := true, laidKinds := [.data, .data, .data, .data, .sentinel, .sentinel, .listed, .data, .pinned], laidTests := true, laidLooks := .later }
def CheckProgsCardSaid : Prop := Claim7.holds Tryz.pinned (.plain (OpenSpec.ofChange checkProgsSpec)) checkProgsCard

/-- THE TIED CARD OF 'droguelaw09.CheckPlaces'. -/
def checkPlacesCard : Claim7 := { stood := { row := checkPlacesRow, standIns := [], harness := (true, "9242426a29acbcb524d355380b0713185214778036ff34edafdcb9c1af2a255b"), looks := true }, kinds := [], alts := [], laidByText := true, laidKinds := [.data, .data, .data, .data, .sentinel, .sentinel, .listed, .data, .pinned], laidTests := true, laidLooks := .later }
def CheckPlacesCardSaid : Prop := Claim7.holds Tryz.pinned (.plain (OpenSpec.ofChange checkPlacesSpec)) checkPlacesCard

/-- THE TIED CARD OF 'droguelaw09.CheckSteps'. -/
def checkStepsCard : Claim7 := { stood := { row := checkStepsRow, standIns := [], harness := (true, "9242426a29acbcb524d355380b0713185214778036ff34edafdcb9c1af2a255b"), looks := true }, kinds := [], alts := [], laidByText := true, laidKinds := [.data, .data, .data, .data, .sentinel, .sentinel, .listed, .data, .pinned], laidTests := true, laidLooks := .later }
def CheckStepsCardSaid : Prop := Claim7.holds Tryz.pinned (.plain (OpenSpec.ofChange checkStepsSpec)) checkStepsCard

/-- THE TIED CARD OF 'droguelaw09.CheckFuncs'. -/
def checkFuncsCard : Claim7 := { stood := { row := checkFuncsRow, standIns := [], harness := (true, "9242426a29acbcb524d355380b0713185214778036ff34edafdcb9c1af2a255b"), looks := true }, kinds := [], alts := [], laidByText := true, laidKinds := [.data, .data, .data, .data, .sentinel, .sentinel, .listed, .data, .pinned], laidTests := true, laidLooks := .later }
def CheckFuncsCardSaid : Prop := Claim7.holds Tryz.pinned (.plain (OpenSpec.ofChange checkFuncsSpec)) checkFuncsCard

/-- THE TIED CARD OF 'droguelaw09.CheckMain'. -/
def checkMainCard : Claim7 := { stood := { row := checkMainRow, standIns := [], harness := (true, "9242426a29acbcb524d355380b0713185214778036ff34edafdcb9c1af2a255b"), looks := true }, kinds := [], alts := [], laidByText := true, laidKinds := [.data, .data, .data, .data, .sentinel, .sentinel, .listed, .data, .pinned], laidTests := true, laidLooks := .later }
def CheckMainCardSaid : Prop := Claim7.holds Tryz.pinned (.plain (OpenSpec.ofChange checkMainSpec)) checkMainCard

/-- THE TIED CARD OF 'droguelaw09.CheckRight'. -/
def checkRightCard : Claim7 := { stood := { row := checkRightRow, standIns := [], harness := (true, "9242426a29acbcb524d355380b0713185214778036ff34edafdcb9c1af2a255b"), looks := true }, kinds := [], alts := [], laidByText := true, laidKinds := [.data, .data, .data, .data, .sentinel, .sentinel, .listed, .data, .pinned], laidTests := true, laidLooks := .later }
def CheckRightCardSaid : Prop := Claim7.holds Tryz.pinned (.plain (OpenSpec.ofChange checkRightSpec)) checkRightCard

/-- THE SECOND FORM's CARD OF 'droguelaw09.CheckProgs'. -/
def checkProgsUptoCard : Claim7 := { stood := { row := checkProgsUptoRow, standIns := [], harness := (true, "9242426a29acbcb524d355380b0713185214778036ff34edafdcb9c1af2a255b"), looks := true }, kinds := [], alts := [], laidByText := true, laidKinds := [.data, .data, .data, .data, .sentinel, .sentinel, .listed, .data, .pinned], laidTests := true, laidLooks := .later }
def CheckProgsUptoCardSaid : Prop := Claim7.holds Tryz.pinned (.plain (OpenSpec.upto checkProgsSpec)) checkProgsUptoCard

/-- THE SECOND FORM's CARD OF 'droguelaw09.CheckPlaces'. -/
def checkPlacesUptoCard : Claim7 := { stood := { row := checkPlacesUptoRow, standIns := [], harness := (true, "9242426a29acbcb524d355380b0713185214778036ff34edafdcb9c1af2a255b"), looks := true }, kinds := [], alts := [], laidByText := true, laidKinds := [.data, .data, .data, .data, .sentinel, .sentinel, .listed, .data, .pinned], laidTests := true, laidLooks := .later }
def CheckPlacesUptoCardSaid : Prop := Claim7.holds Tryz.pinned (.plain (OpenSpec.upto checkPlacesSpec)) checkPlacesUptoCard

/-- THE SECOND FORM's CARD OF 'droguelaw09.CheckSteps'. -/
def checkStepsUptoCard : Claim7 := { stood := { row := checkStepsUptoRow, standIns := [], harness := (true, "9242426a29acbcb524d355380b0713185214778036ff34edafdcb9c1af2a255b"), looks := true }, kinds := [], alts := [], laidByText := true, laidKinds := [.data, .data, .data, .data, .sentinel, .sentinel, .listed, .data, .pinned], laidTests := true, laidLooks := .later }
def CheckStepsUptoCardSaid : Prop := Claim7.holds Tryz.pinned (.plain (OpenSpec.upto checkStepsSpec)) checkStepsUptoCard

/-- THE SECOND FORM's CARD OF 'droguelaw09.CheckFuncs'. -/
def checkFuncsUptoCard : Claim7 := { stood := { row := checkFuncsUptoRow, standIns := [], harness := (true, "9242426a29acbcb524d355380b0713185214778036ff34edafdcb9c1af2a255b"), looks := true }, kinds := [], alts := [], laidByText := true, laidKinds := [.data, .data, .data, .data, .sentinel, .sentinel, .listed, .data, .pinned], laidTests := true, laidLooks := .later }
def CheckFuncsUptoCardSaid : Prop := Claim7.holds Tryz.pinned (.plain (OpenSpec.upto checkFuncsSpec)) checkFuncsUptoCard

/-- THE SECOND FORM's CARD OF 'droguelaw09.CheckMain'. -/
def checkMainUptoCard : Claim7 := { stood := { row := checkMainUptoRow, standIns := [], harness := (true, "9242426a29acbcb524d355380b0713185214778036ff34edafdcb9c1af2a255b"), looks := true }, kinds := [], alts := [], laidByText := true, laidKinds := [.data, .data, .data, .data, .sentinel, .sentinel, .listed, .data, .pinned], laidTests := true, laidLooks := .later }
def CheckMainUptoCardSaid : Prop := Claim7.holds Tryz.pinned (.plain (OpenSpec.upto checkMainSpec)) checkMainUptoCard

/-- THE SECOND FORM's CARD OF 'droguelaw09.CheckRight'. -/
def checkRightUptoCard : Claim7 := { stood := { row := checkRightUptoRow, standIns := [], harness := (true, "9242426a29acbcb524d355380b0713185214778036ff34edafdcb9c1af2a255b"), looks := true }, kinds := [], alts := [], laidByText := true, laidKinds := [.data, .data, .data, .data, .sentinel, .sentinel, .listed, .data, .pinned], laidTests := true, laidLooks := .later }
def CheckRightUptoCardSaid : Prop := Claim7.holds Tryz.pinned (.plain (OpenSpec.upto checkRightSpec)) checkRightUptoCard
end Rows
end Go.Proofs.YtbbeelalcamgjaaGreatDoor
