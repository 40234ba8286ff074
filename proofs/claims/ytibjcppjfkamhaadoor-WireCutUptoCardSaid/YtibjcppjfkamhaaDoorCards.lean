/-
  DERIVED. GIVEN WITH THE SEED: THE CARDS: each row of YtibjcppjfkamhaaDoorRows.lean that lists a variable, with what it lists TIED to the program's text (the seventh form; the later family's looks); each row that meets fmt, with fmt's text TOLD by the authors' own Lean function (tested against real Go, not proved from fmt's source: count such statements apart). THE CARD IS WHAT COUNTS. Prove the row's statement (the work); the ties are given (YtibjcppjfkamhaaDoorTie.lean); close each card by the builder's one call (the guide's Derived/Test/ToyasCard.lean, 'card_holds'). Laid BY PROGRAM, IN A SANDBOX (cutbox-door.mjs). By AI agents, Wed Nov 11 2026. No macro, syntax, notation, axiom, sorry.
-/
import Derived.Test.YtibjcppjfkamhaaDoorRows
import GoSem.ClaimSeven
namespace Go.Proofs.YtibjcppjfkamhaaDoor
namespace Rows

/-- THE TIED CARD OF 'qclaw4.WireTurns'. -/
def wireTurnsCard : Claim7 := { stood := { row := wireTurnsRow, standIns := [], harness := (true, "058c1411d5efcac8f7a199586e5dbeedc429c371fea82f70d0ac9fbafb2fbd5b"), looks := true }, kinds := [], alts := [], laidByText := true, laidKinds := [.data, .data, .data, .sentinel, .sentinel], laidTests := true, laidLooks := .later }
def WireTurnsCardSaid : Prop := Claim7.holds Tryd.pinned (.plain (OpenSpec.ofChange wireTurnsSpec)) wireTurnsCard

/-- THE TIED CARD OF 'qclaw4.WireCut'. -/
def wireCutCard : Claim7 := { stood := { row := wireCutRow, standIns := [], harness := (true, "058c1411d5efcac8f7a199586e5dbeedc429c371fea82f70d0ac9fbafb2fbd5b"), looks := true }, kinds := [], alts := [], laidByText := true, laidKinds := [.data, .data, .data, .sentinel, .sentinel], laidTests := true, laidLooks := .later }
def WireCutCardSaid : Prop := Claim7.holds Tryd.pinned (.plain (OpenSpec.ofChange wireCutSpec)) wireCutCard

/-- THE SECOND FORM's CARD OF 'qclaw4.WireTurns'. -/
def wireTurnsUptoCard : Claim7 := { stood := { row := wireTurnsUptoRow, standIns := [], harness := (true, "058c1411d5efcac8f7a199586e5dbeedc429c371fea82f70d0ac9fbafb2fbd5b"), looks := true }, kinds := [], alts := [], laidByText := true, laidKinds := [.data, .data, .data, .sentinel, .sentinel], laidTests := true, laidLooks := .later }
def WireTurnsUptoCardSaid : Prop := Claim7.holds Tryd.pinned (.plain (OpenSpec.upto wireTurnsSpec)) wireTurnsUptoCard

/-- THE SECOND FORM's CARD OF 'qclaw4.WireCut'. -/
def wireCutUptoCard : Claim7 := { stood := { row := wireCutUptoRow, standIns := [], harness := (true, "058c1411d5efcac8f7a199586e5dbeedc429c371fea82f70d0ac9fbafb2fbd5b"), looks := true }, kinds := [], alts := [], laidByText := true, laidKinds := [.data, .data, .data, .sentinel, .sentinel], laidTests := true, laidLooks := .later }
def WireCutUptoCardSaid : Prop := Claim7.holds Tryd.pinned (.plain (OpenSpec.upto wireCutSpec)) wireCutUptoCard
end Rows
end Go.Proofs.YtibjcppjfkamhaaDoor
