/-
  DERIVED. GIVEN WITH THE SEED: THE CARDS: each row of YtpamccbgifeoaaaGreatDoorRows.lean that lists a variable, with what it lists TIED to the program's text (the seventh form; the later family's looks); each row that meets fmt, with fmt's text TOLD by the authors' own Lean function (tested against real Go, not proved from fmt's source: count such statements apart). THE CARD IS WHAT COUNTS. Prove the row's statement (the work); the ties are given (YtpamccbgifeoaaaGreatDoorTie.lean); close each card by the builder's one call (the guide's Derived/Test/ToyasCard.lean, 'card_holds'). Laid BY PROGRAM, IN A SANDBOX (cutbox-door.mjs). By AI agents, Wed Nov 11 2026. No macro, syntax, notation, axiom, sorry.
-/
import Derived.Test.YtpamccbgifeoaaaGreatDoorRows
import GoSem.ClaimSeven
namespace Go.Proofs.YtpamccbgifeoaaaGreatDoor
namespace Rows

/-- THE TIED CARD OF 'quiltlaw59.BridgeCheck'. -/
def bridgeCheckCard : Claim7 := { stood := { row := bridgeCheckRow, standIns := [], harness := (true, "55dcb36c6839635f99b1f0494fefa270250f14788a0d9be5dc061f40203f74cd"), looks := false }, kinds := [], alts := [], laidByText := true, laidKinds := [.pinned, .data, .data, .data, .data], laidTests := true, laidLooks := .later }
def BridgeCheckCardSaid : Prop := Claim7.holds Tryz.pinned (.plain (OpenSpec.ofChange bridgeCheckSpec)) bridgeCheckCard

/-- THE SECOND FORM's CARD OF 'quiltlaw59.BridgeCheck'. -/
def bridgeCheckUptoCard : Claim7 := { stood := { row := bridgeCheckUptoRow, standIns := [], harness := (true, "55dcb36c6839635f99b1f0494fefa270250f14788a0d9be5dc061f40203f74cd"), looks := false }, kinds := [], alts := [], laidByText := true, laidKinds := [.pinned, .data, .data, .data, .data], laidTests := true, laidLooks := .later }
def BridgeCheckUptoCardSaid : Prop := Claim7.holds Tryz.pinned (.plain (OpenSpec.upto bridgeCheckSpec)) bridgeCheckUptoCard
end Rows
end Go.Proofs.YtpamccbgifeoaaaGreatDoor
