/-
  DERIVED. GIVEN WITH THE SEED: THE CARDS: each row of YtognadjclbihgaaGreatDoorRows.lean that lists a variable, with what it lists TIED to the program's text (the seventh form; the later family's looks); each row that meets fmt, with fmt's text TOLD by the authors' own Lean function (tested against real Go, not proved from fmt's source: count such statements apart). THE CARD IS WHAT COUNTS. Prove the row's statement (the work); the ties are given (YtognadjclbihgaaGreatDoorTie.lean); close each card by the builder's one call (the guide's Derived/Test/ToyasCard.lean, 'card_holds'). Laid BY PROGRAM, IN A SANDBOX (cutbox-door.mjs). By AI agents, Wed Nov 11 2026. No macro, syntax, notation, axiom, sorry.
-/
import Derived.Test.YtognadjclbihgaaGreatDoorRows
import GoSem.ClaimSeven
namespace Go.Proofs.YtognadjclbihgaaGreatDoor
namespace Rows

/-- THE TIED CARD OF 'quiltlaw59.BridgeParse'. -/
def bridgeParseCard : Claim7 := { stood := { row := bridgeParseRow, standIns := [], harness := (true, "f2e0e9cfbd4b6ccf2db8ddfff5f87c30613a84989bb875824e54cf775e5c1c74"), looks := true }, kinds := [], alts := [], laidByText := true, laidKinds := [.pinned, .data, .data, .data, .data, .sentinel, .sentinel], laidTests := true, laidLooks := .later }
def BridgeParseCardSaid : Prop := Claim7.holds Tryz.pinned (.plain (OpenSpec.ofChange bridgeParseSpec)) bridgeParseCard

/-- THE TIED CARD OF 'quiltlaw59.BridgeTexts'. -/
def bridgeTextsCard : Claim7 := { stood := { row := bridgeTextsRow, standIns := [], harness := (true, "f2e0e9cfbd4b6ccf2db8ddfff5f87c30613a84989bb875824e54cf775e5c1c74"), looks := true }, kinds := [], alts := [], laidByText := true, laidKinds := [.pinned, .data, .data, .data, .data, .sentinel, .sentinel], laidTests := true, laidLooks := .later }
def BridgeTextsCardSaid : Prop := Claim7.holds Tryz.pinned (.plain (OpenSpec.ofChange bridgeTextsSpec)) bridgeTextsCard

/-- THE SECOND FORM's CARD OF 'quiltlaw59.BridgeParse'. -/
def bridgeParseUptoCard : Claim7 := { stood := { row := bridgeParseUptoRow, standIns := [], harness := (true, "f2e0e9cfbd4b6ccf2db8ddfff5f87c30613a84989bb875824e54cf775e5c1c74"), looks := true }, kinds := [], alts := [], laidByText := true, laidKinds := [.pinned, .data, .data, .data, .data, .sentinel, .sentinel], laidTests := true, laidLooks := .later }
def BridgeParseUptoCardSaid : Prop := Claim7.holds Tryz.pinned (.plain (OpenSpec.upto bridgeParseSpec)) bridgeParseUptoCard

/-- THE SECOND FORM's CARD OF 'quiltlaw59.BridgeTexts'. -/
def bridgeTextsUptoCard : Claim7 := { stood := { row := bridgeTextsUptoRow, standIns := [], harness := (true, "f2e0e9cfbd4b6ccf2db8ddfff5f87c30613a84989bb875824e54cf775e5c1c74"), looks := true }, kinds := [], alts := [], laidByText := true, laidKinds := [.pinned, .data, .data, .data, .data, .sentinel, .sentinel], laidTests := true, laidLooks := .later }
def BridgeTextsUptoCardSaid : Prop := Claim7.holds Tryz.pinned (.plain (OpenSpec.upto bridgeTextsSpec)) bridgeTextsUptoCard
end Rows
end Go.Proofs.YtognadjclbihgaaGreatDoor
