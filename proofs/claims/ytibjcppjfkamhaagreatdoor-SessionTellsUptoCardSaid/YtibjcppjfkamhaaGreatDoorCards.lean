/-
  DERIVED. GIVEN WITH THE SEED: THE CARDS: each row of YtibjcppjfkamhaaGreatDoorRows.lean that lists a variable, with what it lists TIED to the program's text (the seventh form; the later family's looks); each row that meets fmt, with fmt's text TOLD by the authors' own Lean function (tested against real Go, not proved from fmt's source: count such statements apart). THE CARD IS WHAT COUNTS. Prove the row's statement (the work); the ties are given (YtibjcppjfkamhaaGreatDoorTie.lean); close each card by the builder's one call (the guide's Derived/Test/ToyasCard.lean, 'card_holds'). Laid BY PROGRAM, IN A SANDBOX (cutbox-door.mjs). By AI agents, Wed Nov 11 2026. No macro, syntax, notation, axiom, sorry.
-/
import Derived.Test.YtibjcppjfkamhaaGreatDoorRows
import GoSem.ClaimSeven
namespace Go.Proofs.YtibjcppjfkamhaaGreatDoor
namespace Rows

/-- THE TIED CARD OF 'qctop.TopSum'. -/
def topSumCard : Claim7 := { stood := { row := topSumRow, standIns := [], harness := (true, "9730562cf8515f08868af7f33240e1eb2ae7e5a62971601fa886b5ff0a6d4f3a"), looks := true }, kinds := [], alts := [], laidByText := true, laidKinds := [.data, .data, .data, .sentinel, .sentinel], laidTests := true, laidLooks := .later }
def TopSumCardSaid : Prop := Claim7.holds Tryz.pinned (.plain (OpenSpec.ofChange topSumSpec)) topSumCard

/-- THE TIED CARD OF 'qctop.TopChanged'. -/
def topChangedCard : Claim7 := { stood := { row := topChangedRow, standIns := [], harness := (true, "9730562cf8515f08868af7f33240e1eb2ae7e5a62971601fa886b5ff0a6d4f3a"), looks := true }, kinds := [], alts := [], laidByText := true, laidKinds := [.data, .data, .data, .sentinel, .sentinel], laidTests := true, laidLooks := .later }
def TopChangedCardSaid : Prop := Claim7.holds Tryz.pinned (.plain (OpenSpec.ofChange topChangedSpec)) topChangedCard

/-- THE TIED CARD OF 'qclaw4.WireTells'. -/
def wireTellsCard : Claim7 := { stood := { row := wireTellsRow, standIns := [], harness := (true, "9730562cf8515f08868af7f33240e1eb2ae7e5a62971601fa886b5ff0a6d4f3a"), looks := true }, kinds := [], alts := [], laidByText := true, laidKinds := [.data, .data, .data, .sentinel, .sentinel], laidTests := true, laidLooks := .later }
def WireTellsCardSaid : Prop := Claim7.holds Tryz.pinned (.plain (OpenSpec.ofChange wireTellsSpec)) wireTellsCard

/-- THE TIED CARD OF 'qclaw12.SessionTells'. -/
def sessionTellsCard : Claim7 := { stood := { row := sessionTellsRow, standIns := [], harness := (true, "9730562cf8515f08868af7f33240e1eb2ae7e5a62971601fa886b5ff0a6d4f3a"), looks := true }, kinds := [], alts := [], laidByText := true, laidKinds := [.data, .data, .data, .sentinel, .sentinel], laidTests := true, laidLooks := .later }
def SessionTellsCardSaid : Prop := Claim7.holds Tryz.pinned (.plain (OpenSpec.ofChange sessionTellsSpec)) sessionTellsCard

/-- THE TIED CARD OF 'qclaw12.SessionWays'. -/
def sessionWaysCard : Claim7 := { stood := { row := sessionWaysRow, standIns := [], harness := (true, "9730562cf8515f08868af7f33240e1eb2ae7e5a62971601fa886b5ff0a6d4f3a"), looks := true }, kinds := [], alts := [], laidByText := true, laidKinds := [.data, .data, .data, .sentinel, .sentinel], laidTests := true, laidLooks := .later }
def SessionWaysCardSaid : Prop := Claim7.holds Tryz.pinned (.plain (OpenSpec.ofChange sessionWaysSpec)) sessionWaysCard

/-- THE TIED CARD OF 'qclaw12.SessionRight'. -/
def sessionRightCard : Claim7 := { stood := { row := sessionRightRow, standIns := [], harness := (true, "9730562cf8515f08868af7f33240e1eb2ae7e5a62971601fa886b5ff0a6d4f3a"), looks := true }, kinds := [], alts := [], laidByText := true, laidKinds := [.data, .data, .data, .sentinel, .sentinel], laidTests := true, laidLooks := .later }
def SessionRightCardSaid : Prop := Claim7.holds Tryz.pinned (.plain (OpenSpec.ofChange sessionRightSpec)) sessionRightCard

/-- THE TIED CARD OF 'qclaw12.SessionBack'. -/
def sessionBackCard : Claim7 := { stood := { row := sessionBackRow, standIns := [], harness := (true, "9730562cf8515f08868af7f33240e1eb2ae7e5a62971601fa886b5ff0a6d4f3a"), looks := true }, kinds := [], alts := [], laidByText := true, laidKinds := [.data, .data, .data, .sentinel, .sentinel], laidTests := true, laidLooks := .later }
def SessionBackCardSaid : Prop := Claim7.holds Tryz.pinned (.plain (OpenSpec.ofChange sessionBackSpec)) sessionBackCard

/-- THE TIED CARD OF 'qctop.TopOther'. -/
def topOtherCard : Claim7 := { stood := { row := topOtherRow, standIns := [], harness := (true, "9730562cf8515f08868af7f33240e1eb2ae7e5a62971601fa886b5ff0a6d4f3a"), looks := true }, kinds := [], alts := [], laidByText := true, laidKinds := [.data, .data, .data, .sentinel, .sentinel], laidTests := true, laidLooks := .later }
def TopOtherCardSaid : Prop := Claim7.holds Tryz.pinned (.plain (OpenSpec.ofChange topOtherSpec)) topOtherCard

/-- THE TIED CARD OF 'qctop.TopEnd'. -/
def topEndCard : Claim7 := { stood := { row := topEndRow, standIns := [], harness := (true, "9730562cf8515f08868af7f33240e1eb2ae7e5a62971601fa886b5ff0a6d4f3a"), looks := true }, kinds := [], alts := [], laidByText := true, laidKinds := [.data, .data, .data, .sentinel, .sentinel], laidTests := true, laidLooks := .later }
def TopEndCardSaid : Prop := Claim7.holds Tryz.pinned (.plain (OpenSpec.ofChange topEndSpec)) topEndCard

/-- THE SECOND FORM's CARD OF 'qctop.TopSum'. -/
def topSumUptoCard : Claim7 := { stood := { row := topSumUptoRow, standIns := [], harness := (true, "9730562cf8515f08868af7f33240e1eb2ae7e5a62971601fa886b5ff0a6d4f3a"), looks := true }, kinds := [], alts := [], laidByText := true, laidKinds := [.data, .data, .data, .sentinel, .sentinel], laidTests := true, laidLooks := .later }
def TopSumUptoCardSaid : Prop := Claim7.holds Tryz.pinned (.plain (OpenSpec.upto topSumSpec)) topSumUptoCard

/-- THE SECOND FORM's CARD OF 'qctop.TopChanged'. -/
def topChangedUptoCard : Claim7 := { stood := { row := topChangedUptoRow, standIns := [], harness := (true, "9730562cf8515f08868af7f33240e1eb2ae7e5a62971601fa886b5ff0a6d4f3a"), looks := true }, kinds := [], alts := [], laidByText := true, laidKinds := [.data, .data, .data, .sentinel, .sentinel], laidTests := true, laidLooks := .later }
def TopChangedUptoCardSaid : Prop := Claim7.holds Tryz.pinned (.plain (OpenSpec.upto topChangedSpec)) topChangedUptoCard

/-- THE SECOND FORM's CARD OF 'qclaw4.WireTells'. -/
def wireTellsUptoCard : Claim7 := { stood := { row := wireTellsUptoRow, standIns := [], harness := (true, "9730562cf8515f08868af7f33240e1eb2ae7e5a62971601fa886b5ff0a6d4f3a"), looks := true }, kinds := [], alts := [], laidByText := true, laidKinds := [.data, .data, .data, .sentinel, .sentinel], laidTests := true, laidLooks := .later }
def WireTellsUptoCardSaid : Prop := Claim7.holds Tryz.pinned (.plain (OpenSpec.upto wireTellsSpec)) wireTellsUptoCard

/-- THE SECOND FORM's CARD OF 'qclaw12.SessionTells'. -/
def sessionTellsUptoCard : Claim7 := { stood := { row := sessionTellsUptoRow, standIns := [], harness := (true, "9730562cf8515f08868af7f33240e1eb2ae7e5a62971601fa886b5ff0a6d4f3a"), looks := true }, kinds := [], alts := [], laidByText := true, laidKinds := [.data, .data, .data, .sentinel, .sentinel], laidTests := true, laidLooks := .later }
def SessionTellsUptoCardSaid : Prop := Claim7.holds Tryz.pinned (.plain (OpenSpec.upto sessionTellsSpec)) sessionTellsUptoCard

/-- THE SECOND FORM's CARD OF 'qclaw12.SessionWays'. -/
def sessionWaysUptoCard : Claim7 := { stood := { row := sessionWaysUptoRow, standIns := [], harness := (true, "9730562cf8515f08868af7f33240e1eb2ae7e5a62971601fa886b5ff0a6d4f3a"), looks := true }, kinds := [], alts := [], laidByText := true, laidKinds := [.data, .data, .data, .sentinel, .sentinel], laidTests := true, laidLooks := .later }
def SessionWaysUptoCardSaid : Prop := Claim7.holds Tryz.pinned (.plain (OpenSpec.upto sessionWaysSpec)) sessionWaysUptoCard

/-- THE SECOND FORM's CARD OF 'qclaw12.SessionRight'. -/
def sessionRightUptoCard : Claim7 := { stood := { row := sessionRightUptoRow, standIns := [], harness := (true, "9730562cf8515f08868af7f33240e1eb2ae7e5a62971601fa886b5ff0a6d4f3a"), looks := true }, kinds := [], alts := [], laidByText := true, laidKinds := [.data, .data, .data, .sentinel, .sentinel], laidTests := true, laidLooks := .later }
def SessionRightUptoCardSaid : Prop := Claim7.holds Tryz.pinned (.plain (OpenSpec.upto sessionRightSpec)) sessionRightUptoCard

/-- THE SECOND FORM's CARD OF 'qclaw12.SessionBack'. -/
def sessionBackUptoCard : Claim7 := { stood := { row := sessionBackUptoRow, standIns := [], harness := (true, "9730562cf8515f08868af7f33240e1eb2ae7e5a62971601fa886b5ff0a6d4f3a"), looks := true }, kinds := [], alts := [], laidByText := true, laidKinds := [.data, .data, .data, .sentinel, .sentinel], laidTests := true, laidLooks := .later }
def SessionBackUptoCardSaid : Prop := Claim7.holds Tryz.pinned (.plain (OpenSpec.upto sessionBackSpec)) sessionBackUptoCard

/-- THE SECOND FORM's CARD OF 'qctop.TopOther'. -/
def topOtherUptoCard : Claim7 := { stood := { row := topOtherUptoRow, standIns := [], harness := (true, "9730562cf8515f08868af7f33240e1eb2ae7e5a62971601fa886b5ff0a6d4f3a"), looks := true }, kinds := [], alts := [], laidByText := true, laidKinds := [.data, .data, .data, .sentinel, .sentinel], laidTests := true, laidLooks := .later }
def TopOtherUptoCardSaid : Prop := Claim7.holds Tryz.pinned (.plain (OpenSpec.upto topOtherSpec)) topOtherUptoCard

/-- THE SECOND FORM's CARD OF 'qctop.TopEnd'. -/
def topEndUptoCard : Claim7 := { stood := { row := topEndUptoRow, standIns := [], harness := (true, "9730562cf8515f08868af7f33240e1eb2ae7e5a62971601fa886b5ff0a6d4f3a"), looks := true }, kinds := [], alts := [], laidByText := true, laidKinds := [.data, .data, .data, .sentinel, .sentinel], laidTests := true, laidLooks := .later }
def TopEndUptoCardSaid : Prop := Claim7.holds Tryz.pinned (.plain (OpenSpec.upto topEndSpec)) topEndUptoCard
end Rows
end Go.Proofs.YtibjcppjfkamhaaGreatDoor
