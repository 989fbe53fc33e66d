/-
  DERIVED. GIVEN WITH THE SEED: THE CARDS: each row of YtgiihjcpgjpkcaaDoorRows.lean that lists a variable, with what it lists TIED to the program's text (the seventh form; the later family's looks); each row that meets fmt, with fmt's text TOLD by the authors' own Lean function (tested against real Go, not proved from fmt's source: count such statements apart). THE CARD IS WHAT COUNTS. Prove the row's statement (the work); the ties are given (YtgiihjcpgjpkcaaDoorTie.lean); close each card by the builder's one call (the guide's Derived/Test/ToyasCard.lean, 'card_holds'). Laid BY PROGRAM, IN A SANDBOX (cutbox-door.mjs). By AI agents, Wed Nov 11 2026. No macro, syntax, notation, axiom, sorry.
-/
import Derived.Test.YtgiihjcpgjpkcaaDoorRows
import GoSem.ClaimSeven
namespace Go.Proofs.YtgiihjcpgjpkcaaDoor
namespace Rows

/-- THE TIED CARD OF 'waterhourlaw04.RefillAttains'. -/
def refillAttainsCard : Claim7 := { stood := { row := refillAttainsRow, standIns := [], harness := (true, "74d4296a41ed6e5415c0ca60637865c990a98802b1fc99da56387c4eea5581db"), looks := false }, kinds := [], alts := [], laidByText := true, laidKinds := [.data, .data, .data], laidTests := true, laidLooks := .later }
def RefillAttainsCardSaid : Prop := Claim7.holds Tryd.pinned (.plain (OpenSpec.ofChange refillAttainsSpec)) refillAttainsCard

/-- THE TIED CARD OF 'waterhourlaw04.RefillClashes'. -/
def refillClashesCard : Claim7 := { stood := { row := refillClashesRow, standIns := [], harness := (true, "74d4296a41ed6e5415c0ca60637865c990a98802b1fc99da56387c4eea5581db"), looks := false }, kinds := [], alts := [], laidByText := true, laidKinds := [.data, .data, .data], laidTests := true, laidLooks := .later }
def RefillClashesCardSaid : Prop := Claim7.holds Tryd.pinned (.plain (OpenSpec.ofChange refillClashesSpec)) refillClashesCard

/-- THE TIED CARD OF 'waterhourlaw04.RefillProofs'. -/
def refillProofsCard : Claim7 := { stood := { row := refillProofsRow, standIns := [], harness := (true, "74d4296a41ed6e5415c0ca60637865c990a98802b1fc99da56387c4eea5581db"), looks := false }, kinds := [], alts := [], laidByText := true, laidKinds := [.data, .data, .data], laidTests := true, laidLooks := .later }
def RefillProofsCardSaid : Prop := Claim7.holds Tryd.pinned (.plain (OpenSpec.ofChange refillProofsSpec)) refillProofsCard

/-- THE TIED CARD OF 'waterhourlaw04.RefillClosed'. -/
def refillClosedCard : Claim7 := { stood := { row := refillClosedRow, standIns := [], harness := (true, "74d4296a41ed6e5415c0ca60637865c990a98802b1fc99da56387c4eea5581db"), looks := false }, kinds := [], alts := [], laidByText := true, laidKinds := [.data, .data, .data], laidTests := true, laidLooks := .later }
def RefillClosedCardSaid : Prop := Claim7.holds Tryd.pinned (.plain (OpenSpec.ofChange refillClosedSpec)) refillClosedCard

/-- THE TIED CARD OF 'waterhourlaw04.RefillWithout'. -/
def refillWithoutCard : Claim7 := { stood := { row := refillWithoutRow, standIns := [], harness := (true, "74d4296a41ed6e5415c0ca60637865c990a98802b1fc99da56387c4eea5581db"), looks := false }, kinds := [], alts := [], laidByText := true, laidKinds := [.data, .data, .data], laidTests := true, laidLooks := .later }
def RefillWithoutCardSaid : Prop := Claim7.holds Tryd.pinned (.plain (OpenSpec.ofChange refillWithoutSpec)) refillWithoutCard

/-- THE TIED CARD OF 'waterhourlaw04.RefillAll'. -/
def refillAllCard : Claim7 := { stood := { row := refillAllRow, standIns := [], harness := (true, "74d4296a41ed6e5415c0ca60637865c990a98802b1fc99da56387c4eea5581db"), looks := false }, kinds := [], alts := [], laidByText := true, laidKinds := [.data, .data, .data], laidTests := true, laidLooks := .later }
def RefillAllCardSaid : Prop := Claim7.holds Tryd.pinned (.plain (OpenSpec.ofChange refillAllSpec)) refillAllCard

/-- THE TIED CARD OF 'waterhourlaw04.RefillAttained'. -/
def refillAttainedCard : Claim7 := { stood := { row := refillAttainedRow, standIns := [], harness := (true, "74d4296a41ed6e5415c0ca60637865c990a98802b1fc99da56387c4eea5581db"), looks := false }, kinds := [], alts := [], laidByText := true, laidKinds := [.data, .data, .data], laidTests := true, laidLooks := .later }
def RefillAttainedCardSaid : Prop := Claim7.holds Tryd.pinned (.plain (OpenSpec.ofChange refillAttainedSpec)) refillAttainedCard

/-- THE TIED CARD OF 'waterhourlaw04.RefillProved'. -/
def refillProvedCard : Claim7 := { stood := { row := refillProvedRow, standIns := [], harness := (true, "74d4296a41ed6e5415c0ca60637865c990a98802b1fc99da56387c4eea5581db"), looks := false }, kinds := [], alts := [], laidByText := true, laidKinds := [.data, .data, .data], laidTests := true, laidLooks := .later }
def RefillProvedCardSaid : Prop := Claim7.holds Tryd.pinned (.plain (OpenSpec.ofChange refillProvedSpec)) refillProvedCard

/-- THE TIED CARD OF 'waterhourlaw04.RefillChains'. -/
def refillChainsCard : Claim7 := { stood := { row := refillChainsRow, standIns := [], harness := (true, "74d4296a41ed6e5415c0ca60637865c990a98802b1fc99da56387c4eea5581db"), looks := false }, kinds := [], alts := [], laidByText := true, laidKinds := [.data, .data, .data], laidTests := true, laidLooks := .later }
def RefillChainsCardSaid : Prop := Claim7.holds Tryd.pinned (.plain (OpenSpec.ofChange refillChainsSpec)) refillChainsCard

/-- THE TIED CARD OF 'waterhourlaw04.RefillMoved'. -/
def refillMovedCard : Claim7 := { stood := { row := refillMovedRow, standIns := [], harness := (true, "74d4296a41ed6e5415c0ca60637865c990a98802b1fc99da56387c4eea5581db"), looks := false }, kinds := [], alts := [], laidByText := true, laidKinds := [.data, .data, .data], laidTests := true, laidLooks := .later }
def RefillMovedCardSaid : Prop := Claim7.holds Tryd.pinned (.plain (OpenSpec.ofChange refillMovedSpec)) refillMovedCard

/-- THE TIED CARD OF 'waterhourlaw04.RefillTimes'. -/
def refillTimesCard : Claim7 := { stood := { row := refillTimesRow, standIns := [], harness := (true, "74d4296a41ed6e5415c0ca60637865c990a98802b1fc99da56387c4eea5581db"), looks := false }, kinds := [], alts := [], laidByText := true, laidKinds := [.data, .data, .data], laidTests := true, laidLooks := .later }
def RefillTimesCardSaid : Prop := Claim7.holds Tryd.pinned (.plain (OpenSpec.ofChange refillTimesSpec)) refillTimesCard

/-- THE TIED CARD OF 'waterhourlaw04.RefillKnown'. -/
def refillKnownCard : Claim7 := { stood := { row := refillKnownRow, standIns := [], harness := (true, "74d4296a41ed6e5415c0ca60637865c990a98802b1fc99da56387c4eea5581db"), looks := false }, kinds := [], alts := [], laidByText := true, laidKinds := [.data, .data, .data], laidTests := true, laidLooks := .later }
def RefillKnownCardSaid : Prop := Claim7.holds Tryd.pinned (.plain (OpenSpec.ofChange refillKnownSpec)) refillKnownCard

/-- THE TIED CARD OF 'waterhourlaw04.RefillPrefix'. -/
def refillPrefixCard : Claim7 := { stood := { row := refillPrefixRow, standIns := [], harness := (true, "74d4296a41ed6e5415c0ca60637865c990a98802b1fc99da56387c4eea5581db"), looks := false }, kinds := [], alts := [], laidByText := true, laidKinds := [.data, .data, .data], laidTests := true, laidLooks := .later }
def RefillPrefixCardSaid : Prop := Claim7.holds Tryd.pinned (.plain (OpenSpec.ofChange refillPrefixSpec)) refillPrefixCard

/-- THE TIED CARD OF 'waterhourlaw04.RefillTruth'. -/
def refillTruthCard : Claim7 := { stood := { row := refillTruthRow, standIns := [], harness := (true, "74d4296a41ed6e5415c0ca60637865c990a98802b1fc99da56387c4eea5581db"), looks := false }, kinds := [], alts := [], laidByText := true, laidKinds := [.data, .data, .data], laidTests := true, laidLooks := .later }
def RefillTruthCardSaid : Prop := Claim7.holds Tryd.pinned (.plain (OpenSpec.ofChange refillTruthSpec)) refillTruthCard

/-- THE TIED CARD OF 'waterhourlaw04.RefillDays'. -/
def refillDaysCard : Claim7 := { stood := { row := refillDaysRow, standIns := [], harness := (true, "74d4296a41ed6e5415c0ca60637865c990a98802b1fc99da56387c4eea5581db"), looks := false }, kinds := [], alts := [], laidByText := true, laidKinds := [.data, .data, .data], laidTests := true, laidLooks := .later }
def RefillDaysCardSaid : Prop := Claim7.holds Tryd.pinned (.plain (OpenSpec.ofChange refillDaysSpec)) refillDaysCard

/-- THE SECOND FORM's CARD OF 'waterhourlaw04.RefillAttains'. -/
def refillAttainsUptoCard : Claim7 := { stood := { row := refillAttainsUptoRow, standIns := [], harness := (true, "74d4296a41ed6e5415c0ca60637865c990a98802b1fc99da56387c4eea5581db"), looks := false }, kinds := [], alts := [], laidByText := true, laidKinds := [.data, .data, .data], laidTests := true, laidLooks := .later }
def RefillAttainsUptoCardSaid : Prop := Claim7.holds Tryd.pinned (.plain (OpenSpec.upto refillAttainsSpec)) refillAttainsUptoCard

/-- THE SECOND FORM's CARD OF 'waterhourlaw04.RefillClashes'. -/
def refillClashesUptoCard : Claim7 := { stood := { row := refillClashesUptoRow, standIns := [], harness := (true, "74d4296a41ed6e5415c0ca60637865c990a98802b1fc99da56387c4eea5581db"), looks := false }, kinds := [], alts := [], laidByText := true, laidKinds := [.data, .data, .data], laidTests := true, laidLooks := .later }
def RefillClashesUptoCardSaid : Prop := Claim7.holds Tryd.pinned (.plain (OpenSpec.upto refillClashesSpec)) refillClashesUptoCard

/-- THE SECOND FORM's CARD OF 'waterhourlaw04.RefillProofs'. -/
def refillProofsUptoCard : Claim7 := { stood := { row := refillProofsUptoRow, standIns := [], harness := (true, "74d4296a41ed6e5415c0ca60637865c990a98802b1fc99da56387c4eea5581db"), looks := false }, kinds := [], alts := [], laidByText := true, laidKinds := [.data, .data, .data], laidTests := true, laidLooks := .later }
def RefillProofsUptoCardSaid : Prop := Claim7.holds Tryd.pinned (.plain (OpenSpec.upto refillProofsSpec)) refillProofsUptoCard

/-- THE SECOND FORM's CARD OF 'waterhourlaw04.RefillClosed'. -/
def refillClosedUptoCard : Claim7 := { stood := { row := refillClosedUptoRow, standIns := [], harness := (true, "74d4296a41ed6e5415c0ca60637865c990a98802b1fc99da56387c4eea5581db"), looks := false }, kinds := [], alts := [], laidByText := true, laidKinds := [.data, .data, .data], laidTests := true, laidLooks := .later }
def RefillClosedUptoCardSaid : Prop := Claim7.holds Tryd.pinned (.plain (OpenSpec.upto refillClosedSpec)) refillClosedUptoCard

/-- THE SECOND FORM's CARD OF 'waterhourlaw04.RefillWithout'. -/
def refillWithoutUptoCard : Claim7 := { stood := { row := refillWithoutUptoRow, standIns := [], harness := (true, "74d4296a41ed6e5415c0ca60637865c990a98802b1fc99da56387c4eea5581db"), looks := false }, kinds := [], alts := [], laidByText := true, laidKinds := [.data, .data, .data], laidTests := true, laidLooks := .later }
def RefillWithoutUptoCardSaid : Prop := Claim7.holds Tryd.pinned (.plain (OpenSpec.upto refillWithoutSpec)) refillWithoutUptoCard

/-- THE SECOND FORM's CARD OF 'waterhourlaw04.RefillAll'. -/
def refillAllUptoCard : Claim7 := { stood := { row := refillAllUptoRow, standIns := [], harness := (true, "74d4296a41ed6e5415c0ca60637865c990a98802b1fc99da56387c4eea5581db"), looks := false }, kinds := [], alts := [], laidByText := true, laidKinds := [.data, .data, .data], laidTests := true, laidLooks := .later }
def RefillAllUptoCardSaid : Prop := Claim7.holds Tryd.pinned (.plain (OpenSpec.upto refillAllSpec)) refillAllUptoCard

/-- THE SECOND FORM's CARD OF 'waterhourlaw04.RefillAttained'. -/
def refillAttainedUptoCard : Claim7 := { stood := { row := refillAttainedUptoRow, standIns := [], harness := (true, "74d4296a41ed6e5415c0ca60637865c990a98802b1fc99da56387c4eea5581db"), looks := false }, kinds := [], alts := [], laidByText := true, laidKinds := [.data, .data, .data], laidTests := true, laidLooks := .later }
def RefillAttainedUptoCardSaid : Prop := Claim7.holds Tryd.pinned (.plain (OpenSpec.upto refillAttainedSpec)) refillAttainedUptoCard

/-- THE SECOND FORM's CARD OF 'waterhourlaw04.RefillProved'. -/
def refillProvedUptoCard : Claim7 := { stood := { row := refillProvedUptoRow, standIns := [], harness := (true, "74d4296a41ed6e5415c0ca60637865c990a98802b1fc99da56387c4eea5581db"), looks := false }, kinds := [], alts := [], laidByText := true, laidKinds := [.data, .data, .data], laidTests := true, laidLooks := .later }
def RefillProvedUptoCardSaid : Prop := Claim7.holds Tryd.pinned (.plain (OpenSpec.upto refillProvedSpec)) refillProvedUptoCard

/-- THE SECOND FORM's CARD OF 'waterhourlaw04.RefillChains'. -/
def refillChainsUptoCard : Claim7 := { stood := { row := refillChainsUptoRow, standIns := [], harness := (true, "74d4296a41ed6e5415c0ca60637865c990a98802b1fc99da56387c4eea5581db"), looks := false }, kinds := [], alts := [], laidByText := true, laidKinds := [.data, .data, .data], laidTests := true, laidLooks := .later }
def RefillChainsUptoCardSaid : Prop := Claim7.holds Tryd.pinned (.plain (OpenSpec.upto refillChainsSpec)) refillChainsUptoCard

/-- THE SECOND FORM's CARD OF 'waterhourlaw04.RefillMoved'. -/
def refillMovedUptoCard : Claim7 := { stood := { row := refillMovedUptoRow, standIns := [], harness := (true, "74d4296a41ed6e5415c0ca60637865c990a98802b1fc99da56387c4eea5581db"), looks := false }, kinds := [], alts := [], laidByText := true, laidKinds := [.data, .data, .data], laidTests := true, laidLooks := .later }
def RefillMovedUptoCardSaid : Prop := Claim7.holds Tryd.pinned (.plain (OpenSpec.upto refillMovedSpec)) refillMovedUptoCard

/-- THE SECOND FORM's CARD OF 'waterhourlaw04.RefillTimes'. -/
def refillTimesUptoCard : Claim7 := { stood := { row := refillTimesUptoRow, standIns := [], harness := (true, "74d4296a41ed6e5415c0ca60637865c990a98802b1fc99da56387c4eea5581db"), looks := false }, kinds := [], alts := [], laidByText := true, laidKinds := [.data, .data, .data], laidTests := true, laidLooks := .later }
def RefillTimesUptoCardSaid : Prop := Claim7.holds Tryd.pinned (.plain (OpenSpec.upto refillTimesSpec)) refillTimesUptoCard

/-- THE SECOND FORM's CARD OF 'waterhourlaw04.RefillKnown'. -/
def refillKnownUptoCard : Claim7 := { stood := { row := refillKnownUptoRow, standIns := [], harness := (true, "74d4296a41ed6e5415c0ca60637865c990a98802b1fc99da56387c4eea5581db"), looks := false }, kinds := [], alts := [], laidByText := true, laidKinds := [.data, .data, .data], laidTests := true, laidLooks := .later }
def RefillKnownUptoCardSaid : Prop := Claim7.holds Tryd.pinned (.plain (OpenSpec.upto refillKnownSpec)) refillKnownUptoCard

/-- THE SECOND FORM's CARD OF 'waterhourlaw04.RefillPrefix'. -/
def refillPrefixUptoCard : Claim7 := { stood := { row := refillPrefixUptoRow, standIns := [], harness := (true, "74d4296a41ed6e5415c0ca60637865c990a98802b1fc99da56387c4eea5581db"), looks := false }, kinds := [], alts := [], laidByText := true, laidKinds := [.data, .data, .data], laidTests := true, laidLooks := .later }
def RefillPrefixUptoCardSaid : Prop := Claim7.holds Tryd.pinned (.plain (OpenSpec.upto refillPrefixSpec)) refillPrefixUptoCard

/-- THE SECOND FORM's CARD OF 'waterhourlaw04.RefillTruth'. -/
def refillTruthUptoCard : Claim7 := { stood := { row := refillTruthUptoRow, standIns := [], harness := (true, "74d4296a41ed6e5415c0ca60637865c990a98802b1fc99da56387c4eea5581db"), looks := false }, kinds := [], alts := [], laidByText := true, laidKinds := [.data, .data, .data], laidTests := true, laidLooks := .later }
def RefillTruthUptoCardSaid : Prop := Claim7.holds Tryd.pinned (.plain (OpenSpec.upto refillTruthSpec)) refillTruthUptoCard

/-- THE SECOND FORM's CARD OF 'waterhourlaw04.RefillDays'. -/
def refillDaysUptoCard : Claim7 := { stood := { row := refillDaysUptoRow, standIns := [], harness := (true, "74d4296a41ed6e5415c0ca60637865c990a98802b1fc99da56387c4eea5581db"), looks := false }, kinds := [], alts := [], laidByText := true, laidKinds := [.data, .data, .data], laidTests := true, laidLooks := .later }
def RefillDaysUptoCardSaid : Prop := Claim7.holds Tryd.pinned (.plain (OpenSpec.upto refillDaysSpec)) refillDaysUptoCard
end Rows
end Go.Proofs.YtgiihjcpgjpkcaaDoor
