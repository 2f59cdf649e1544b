/-
  DERIVED. GIVEN WITH THE SEED: THE CARDS: each row of YtgknieohkniojaaDoorRows.lean that lists a variable, with what it lists TIED to the program's text (the seventh form; the later family's looks); each row that meets fmt, with fmt's text TOLD by the authors' own Lean function (tested against real Go, not proved from fmt's source: count such statements apart). THE CARD IS WHAT COUNTS. Prove the row's statement (the work); the ties are given (YtgknieohkniojaaDoorTie.lean); close each card by the builder's one call (the guide's Derived/Test/ToyasCard.lean, 'card_holds'). Laid BY PROGRAM, IN A SANDBOX (cutbox-door.mjs). By AI agents, Wed Nov 11 2026. No macro, syntax, notation, axiom, sorry.
-/
import Derived.Test.YtgknieohkniojaaDoorRows
import GoSem.ClaimSeven
namespace Go.Proofs.YtgknieohkniojaaDoor
namespace Rows

/-- THE TIED CARD OF 'droguelaw02.BitsCalls'. -/
def bitsCallsCard : Claim7 := { stood := { row := bitsCallsRow, standIns := [], harness := (true, "9295b955cc89ea01dc10a212d3bb8874e736bfb4ce157a7f326887aee0c80cde"), looks := false }, kinds := [], alts := [], laidByText := true, laidKinds := [.data], laidTests := true, laidLooks := .later }
def BitsCallsCardSaid : Prop := Claim7.holds Tryd.pinned (.plain (OpenSpec.ofChange bitsCallsSpec)) bitsCallsCard

/-- THE TIED CARD OF 'droguelaw02.BitsTwo'. -/
def bitsTwoCard : Claim7 := { stood := { row := bitsTwoRow, standIns := [], harness := (true, "9295b955cc89ea01dc10a212d3bb8874e736bfb4ce157a7f326887aee0c80cde"), looks := false }, kinds := [], alts := [], laidByText := true, laidKinds := [.data], laidTests := true, laidLooks := .later }
def BitsTwoCardSaid : Prop := Claim7.holds Tryd.pinned (.plain (OpenSpec.ofChange bitsTwoSpec)) bitsTwoCard

/-- THE TIED CARD OF 'droguelaw02.BitsLaws'. -/
def bitsLawsCard : Claim7 := { stood := { row := bitsLawsRow, standIns := [], harness := (true, "9295b955cc89ea01dc10a212d3bb8874e736bfb4ce157a7f326887aee0c80cde"), looks := false }, kinds := [], alts := [], laidByText := true, laidKinds := [.data], laidTests := true, laidLooks := .later }
def BitsLawsCardSaid : Prop := Claim7.holds Tryd.pinned (.plain (OpenSpec.ofChange bitsLawsSpec)) bitsLawsCard

/-- THE TIED CARD OF 'droguelaw02.BitsOrder'. -/
def bitsOrderCard : Claim7 := { stood := { row := bitsOrderRow, standIns := [], harness := (true, "9295b955cc89ea01dc10a212d3bb8874e736bfb4ce157a7f326887aee0c80cde"), looks := false }, kinds := [], alts := [], laidByText := true, laidKinds := [.data], laidTests := true, laidLooks := .later }
def BitsOrderCardSaid : Prop := Claim7.holds Tryd.pinned (.plain (OpenSpec.ofChange bitsOrderSpec)) bitsOrderCard

/-- THE TIED CARD OF 'droguelaw02.BitsSteps'. -/
def bitsStepsCard : Claim7 := { stood := { row := bitsStepsRow, standIns := [], harness := (true, "9295b955cc89ea01dc10a212d3bb8874e736bfb4ce157a7f326887aee0c80cde"), looks := false }, kinds := [], alts := [], laidByText := true, laidKinds := [.data], laidTests := true, laidLooks := .later }
def BitsStepsCardSaid : Prop := Claim7.holds Tryd.pinned (.plain (OpenSpec.ofChange bitsStepsSpec)) bitsStepsCard

/-- THE SECOND FORM's CARD OF 'droguelaw02.BitsCalls'. -/
def bitsCallsUptoCard : Claim7 := { stood := { row := bitsCallsUptoRow, standIns := [], harness := (true, "9295b955cc89ea01dc10a212d3bb8874e736bfb4ce157a7f326887aee0c80cde"), looks := false }, kinds := [], alts := [], laidByText := true, laidKinds := [.data], laidTests := true, laidLooks := .later }
def BitsCallsUptoCardSaid : Prop := Claim7.holds Tryd.pinned (.plain (OpenSpec.upto bitsCallsSpec)) bitsCallsUptoCard

/-- THE SECOND FORM's CARD OF 'droguelaw02.BitsTwo'. -/
def bitsTwoUptoCard : Claim7 := { stood := { row := bitsTwoUptoRow, standIns := [], harness := (true, "9295b955cc89ea01dc10a212d3bb8874e736bfb4ce157a7f326887aee0c80cde"), looks := false }, kinds := [], alts := [], laidByText := true, laidKinds := [.data], laidTests := true, laidLooks := .later }
def BitsTwoUptoCardSaid : Prop := Claim7.holds Tryd.pinned (.plain (OpenSpec.upto bitsTwoSpec)) bitsTwoUptoCard

/-- THE SECOND FORM's CARD OF 'droguelaw02.BitsLaws'. -/
def bitsLawsUptoCard : Claim7 := { stood := { row := bitsLawsUptoRow, standIns := [], harness := (true, "9295b955cc89ea01dc10a212d3bb8874e736bfb4ce157a7f326887aee0c80cde"), looks := false }, kinds := [], alts := [], laidByText := true, laidKinds := [.data], laidTests := true, laidLooks := .later }
def BitsLawsUptoCardSaid : Prop := Claim7.holds Tryd.pinned (.plain (OpenSpec.upto bitsLawsSpec)) bitsLawsUptoCard

/-- THE SECOND FORM's CARD OF 'droguelaw02.BitsOrder'. -/
def bitsOrderUptoCard : Claim7 := { stood := { row := bitsOrderUptoRow, standIns := [], harness := (true, "9295b955cc89ea01dc10a212d3bb8874e736bfb4ce157a7f326887aee0c80cde"), looks := false }, kinds := [], alts := [], laidByText := true, laidKinds := [.data], laidTests := true, laidLooks := .later }
def BitsOrderUptoCardSaid : Prop := Claim7.holds Tryd.pinned (.plain (OpenSpec.upto bitsOrderSpec)) bitsOrderUptoCard

/-- THE SECOND FORM's CARD OF 'droguelaw02.BitsSteps'. -/
def bitsStepsUptoCard : Claim7 := { stood := { row := bitsStepsUptoRow, standIns := [], harness := (true, "9295b955cc89ea01dc10a212d3bb8874e736bfb4ce157a7f326887aee0c80cde"), looks := false }, kinds := [], alts := [], laidByText := true, laidKinds := [.data], laidTests := true, laidLooks := .later }
def BitsStepsUptoCardSaid : Prop := Claim7.holds Tryd.pinned (.plain (OpenSpec.upto bitsStepsSpec)) bitsStepsUptoCard
end Rows
end Go.Proofs.YtgknieohkniojaaDoor
