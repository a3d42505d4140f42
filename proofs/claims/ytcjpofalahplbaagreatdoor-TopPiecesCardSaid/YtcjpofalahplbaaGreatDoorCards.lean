/-
  DERIVED. GIVEN WITH THE SEED: THE CARDS: each row of YtcjpofalahplbaaGreatDoorRows.lean that lists a variable, with what it lists TIED to the program's text (the seventh form; the later family's looks); each row that meets fmt, with fmt's text TOLD by the authors' own Lean function (tested against real Go, not proved from fmt's source: count such statements apart). THE CARD IS WHAT COUNTS. Prove the row's statement (the work); the ties are given (YtcjpofalahplbaaGreatDoorTie.lean); close each card by the builder's one call (the guide's Derived/Test/ToyasCard.lean, 'card_holds'). Laid BY PROGRAM, IN A SANDBOX (cutbox-door.mjs). By AI agents, Wed Nov 11 2026. No macro, syntax, notation, axiom, sorry.
-/
import Derived.Test.YtcjpofalahplbaaGreatDoorRows
import GoSem.ClaimSeven
namespace Go.Proofs.YtcjpofalahplbaaGreatDoor
namespace Rows

/-- THE TIED CARD OF 'radiolinktop.TopBearer'. -/
def topBearerCard : Claim7 := { stood := { row := topBearerRow, standIns := [], harness := (true, "15cf733b81aef274f5c98546f95da690e1cff41b0339e17b9f0f0521eb4d76aa"), looks := false }, kinds := [], alts := [], laidByText := true, laidKinds := [.data, .mapped], laidTests := true, laidLooks := .later }
def TopBearerCardSaid : Prop := Claim7.holds Tryz.pinned (.plain (OpenSpec.ofChange topBearerSpec)) topBearerCard

/-- THE TIED CARD OF 'radiolinktop.TopPieces'. -/
def topPiecesCard : Claim7 := { stood := { row := topPiecesRow, standIns := [], harness := (true, "15cf733b81aef274f5c98546f95da690e1cff41b0339e17b9f0f0521eb4d76aa"), looks := false }, kinds := [], alts := [], laidByText := true, laidKinds := [.data, .mapped], laidTests := true, laidLooks := .later }
def TopPiecesCardSaid : Prop := Claim7.holds Tryz.pinned (.plain (OpenSpec.ofChange topPiecesSpec)) topPiecesCard

/-- THE TIED CARD OF 'radiolinktop.TopReports'. -/
def topReportsCard : Claim7 := { stood := { row := topReportsRow, standIns := [], harness := (true, "15cf733b81aef274f5c98546f95da690e1cff41b0339e17b9f0f0521eb4d76aa"), looks := false }, kinds := [], alts := [], laidByText := true, laidKinds := [.data, .mapped], laidTests := true, laidLooks := .later }
def TopReportsCardSaid : Prop := Claim7.holds Tryz.pinned (.plain (OpenSpec.ofChange topReportsSpec)) topReportsCard

/-- THE TIED CARD OF 'radiolinktop.TopRun'. -/
def topRunCard : Claim7 := { stood := { row := topRunRow, standIns := [], harness := (true, "15cf733b81aef274f5c98546f95da690e1cff41b0339e17b9f0f0521eb4d76aa"), looks := false }, kinds := [], alts := [], laidByText := true, laidKinds := [.data, .mapped], laidTests := true, laidLooks := .later }
def TopRunCardSaid : Prop := Claim7.holds Tryz.pinned (.plain (OpenSpec.ofChange topRunSpec)) topRunCard

/-- THE TIED CARD OF 'radiolinktop.TopKeys'. -/
def topKeysCard : Claim7 := { stood := { row := topKeysRow, standIns := [], harness := (true, "15cf733b81aef274f5c98546f95da690e1cff41b0339e17b9f0f0521eb4d76aa"), looks := false }, kinds := [], alts := [], laidByText := true, laidKinds := [.data, .mapped], laidTests := true, laidLooks := .later }
def TopKeysCardSaid : Prop := Claim7.holds Tryz.pinned (.plain (OpenSpec.ofChange topKeysSpec)) topKeysCard

/-- THE TIED CARD OF 'radiolinktop.TopFeedback'. -/
def topFeedbackCard : Claim7 := { stood := { row := topFeedbackRow, standIns := [], harness := (true, "15cf733b81aef274f5c98546f95da690e1cff41b0339e17b9f0f0521eb4d76aa"), looks := false }, kinds := [], alts := [], laidByText := true, laidKinds := [.data, .mapped], laidTests := true, laidLooks := .later }
def TopFeedbackCardSaid : Prop := Claim7.holds Tryz.pinned (.plain (OpenSpec.ofChange topFeedbackSpec)) topFeedbackCard

/-- THE TIED CARD OF 'radiolinktop.TopTransparent'. -/
def topTransparentCard : Claim7 := { stood := { row := topTransparentRow, standIns := [], harness := (true, "15cf733b81aef274f5c98546f95da690e1cff41b0339e17b9f0f0521eb4d76aa"), looks := false }, kinds := [], alts := [], laidByText := true, laidKinds := [.data, .mapped], laidTests := true, laidLooks := .later }
def TopTransparentCardSaid : Prop := Claim7.holds Tryz.pinned (.plain (OpenSpec.ofChange topTransparentSpec)) topTransparentCard

/-- THE SECOND FORM's CARD OF 'radiolinktop.TopBearer'. -/
def topBearerUptoCard : Claim7 := { stood := { row := topBearerUptoRow, standIns := [], harness := (true, "15cf733b81aef274f5c98546f95da690e1cff41b0339e17b9f0f0521eb4d76aa"), looks := false }, kinds := [], alts := [], laidByText := true, laidKinds := [.data, .mapped], laidTests := true, laidLooks := .later }
def TopBearerUptoCardSaid : Prop := Claim7.holds Tryz.pinned (.plain (OpenSpec.upto topBearerSpec)) topBearerUptoCard

/-- THE SECOND FORM's CARD OF 'radiolinktop.TopPieces'. -/
def topPiecesUptoCard : Claim7 := { stood := { row := topPiecesUptoRow, standIns := [], harness := (true, "15cf733b81aef274f5c98546f95da690e1cff41b0339e17b9f0f0521eb4d76aa"), looks := false }, kinds := [], alts := [], laidByText := true, laidKinds := [.data, .mapped], laidTests := true, laidLooks := .later }
def TopPiecesUptoCardSaid : Prop := Claim7.holds Tryz.pinned (.plain (OpenSpec.upto topPiecesSpec)) topPiecesUptoCard

/-- THE SECOND FORM's CARD OF 'radiolinktop.TopReports'. -/
def topReportsUptoCard : Claim7 := { stood := { row := topReportsUptoRow, standIns := [], harness := (true, "15cf733b81aef274f5c98546f95da690e1cff41b0339e17b9f0f0521eb4d76aa"), looks := false }, kinds := [], alts := [], laidByText := true, laidKinds := [.data, .mapped], laidTests := true, laidLooks := .later }
def TopReportsUptoCardSaid : Prop := Claim7.holds Tryz.pinned (.plain (OpenSpec.upto topReportsSpec)) topReportsUptoCard

/-- THE SECOND FORM's CARD OF 'radiolinktop.TopRun'. -/
def topRunUptoCard : Claim7 := { stood := { row := topRunUptoRow, standIns := [], harness := (true, "15cf733b81aef274f5c98546f95da690e1cff41b0339e17b9f0f0521eb4d76aa"), looks := false }, kinds := [], alts := [], laidByText := true, laidKinds := [.data, .mapped], laidTests := true, laidLooks := .later }
def TopRunUptoCardSaid : Prop := Claim7.holds Tryz.pinned (.plain (OpenSpec.upto topRunSpec)) topRunUptoCard

/-- THE SECOND FORM's CARD OF 'radiolinktop.TopKeys'. -/
def topKeysUptoCard : Claim7 := { stood := { row := topKeysUptoRow, standIns := [], harness := (true, "15cf733b81aef274f5c98546f95da690e1cff41b0339e17b9f0f0521eb4d76aa"), looks := false }, kinds := [], alts := [], laidByText := true, laidKinds := [.data, .mapped], laidTests := true, laidLooks := .later }
def TopKeysUptoCardSaid : Prop := Claim7.holds Tryz.pinned (.plain (OpenSpec.upto topKeysSpec)) topKeysUptoCard

/-- THE SECOND FORM's CARD OF 'radiolinktop.TopFeedback'. -/
def topFeedbackUptoCard : Claim7 := { stood := { row := topFeedbackUptoRow, standIns := [], harness := (true, "15cf733b81aef274f5c98546f95da690e1cff41b0339e17b9f0f0521eb4d76aa"), looks := false }, kinds := [], alts := [], laidByText := true, laidKinds := [.data, .mapped], laidTests := true, laidLooks := .later }
def TopFeedbackUptoCardSaid : Prop := Claim7.holds Tryz.pinned (.plain (OpenSpec.upto topFeedbackSpec)) topFeedbackUptoCard

/-- THE SECOND FORM's CARD OF 'radiolinktop.TopTransparent'. -/
def topTransparentUptoCard : Claim7 := { stood := { row := topTransparentUptoRow, standIns := [], harness := (true, "15cf733b81aef274f5c98546f95da690e1cff41b0339e17b9f0f0521eb4d76aa"), looks := false }, kinds := [], alts := [], laidByText := true, laidKinds := [.data, .mapped], laidTests := true, laidLooks := .later }
def TopTransparentUptoCardSaid : Prop := Claim7.holds Tryz.pinned (.plain (OpenSpec.upto topTransparentSpec)) topTransparentUptoCard
end Rows
end Go.Proofs.YtcjpofalahplbaaGreatDoor
