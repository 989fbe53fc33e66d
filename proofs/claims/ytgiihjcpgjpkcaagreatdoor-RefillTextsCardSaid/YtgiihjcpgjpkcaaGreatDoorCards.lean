/-
  DERIVED. GIVEN WITH THE SEED: THE CARDS: each row of YtgiihjcpgjpkcaaGreatDoorRows.lean that lists a variable, with what it lists TIED to the program's text (the seventh form; the later family's looks); each row that meets fmt, with fmt's text TOLD by the authors' own Lean function (tested against real Go, not proved from fmt's source: count such statements apart). THE CARD IS WHAT COUNTS. Prove the row's statement (the work); the ties are given (YtgiihjcpgjpkcaaGreatDoorTie.lean); close each card by the builder's one call (the guide's Derived/Test/ToyasCard.lean, 'card_holds'). Laid BY PROGRAM, IN A SANDBOX (cutbox-door.mjs). By AI agents, Wed Nov 11 2026. No macro, syntax, notation, axiom, sorry.
-/
import Derived.Test.YtgiihjcpgjpkcaaGreatDoorRows
import GoSem.ClaimSeven
namespace Go.Proofs.YtgiihjcpgjpkcaaGreatDoor
namespace Rows

/-- THE TIED CARD OF 'waterhourlaw04.RefillTexts'. -/
def refillTextsCard : Claim7 := { stood := { row := refillTextsRow, standIns := [], harness := (true, "4c12c98d983ee80ebb467583abbe184c02e108d0f80422493418cf405b15c557"), looks := true }, kinds := [], alts := [], laidByText := true, laidKinds := [.data, .data, .data, .data, .sentinel, .sentinel, .pinned], laidTests := true, laidLooks := .later }
def RefillTextsCardSaid : Prop := Claim7.holds Tryz.pinned (.plain (OpenSpec.ofChange refillTextsSpec)) refillTextsCard

/-- THE SECOND FORM's CARD OF 'waterhourlaw04.RefillTexts'. -/
def refillTextsUptoCard : Claim7 := { stood := { row := refillTextsUptoRow, standIns := [], harness := (true, "4c12c98d983ee80ebb467583abbe184c02e108d0f80422493418cf405b15c557"), looks := true }, kinds := [], alts := [], laidByText := true, laidKinds := [.data, .data, .data, .data, .sentinel, .sentinel, .pinned], laidTests := true, laidLooks := .later }
def RefillTextsUptoCardSaid : Prop := Claim7.holds Tryz.pinned (.plain (OpenSpec.upto refillTextsSpec)) refillTextsUptoCard
end Rows
end Go.Proofs.YtgiihjcpgjpkcaaGreatDoor
