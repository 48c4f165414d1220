/-
  DERIVED. GIVEN WITH THE SEED: THE CARDS: each row of YtcmipoicnonaeaaDoorRows.lean that lists a variable, with what it lists TIED to the program's text (the seventh form; the later family's looks); each row that meets fmt, with fmt's text TOLD by the authors' own Lean function (tested against real Go, not proved from fmt's source: count such statements apart). THE CARD IS WHAT COUNTS. Prove the row's statement (the work); the ties are given (YtcmipoicnonaeaaDoorTie.lean); close each card by the builder's one call (the guide's Derived/Test/ToyasCard.lean, 'card_holds'). Laid BY PROGRAM, IN A SANDBOX (cutbox-door.mjs). By AI agents, Wed Nov 11 2026. No macro, syntax, notation, axiom, sorry.
-/
import Derived.Test.YtcmipoicnonaeaaDoorRows
import GoSem.ClaimSeven
namespace Go.Proofs.YtcmipoicnonaeaaDoor
namespace Rows

/-- THE TIED CARD OF 'runnellaw03.BracketParses'. -/
def bracketParsesCard : Claim7 := { stood := { row := bracketParsesRow, standIns := [], harness := (true, "b22224c649c439fd476d4367c02d8a5cd3b90582e403a874a9d0dedbf9e6eb6c"), looks := false }, kinds := [], alts := [], laidByText := true, laidKinds := [.data], laidTests := true, laidLooks := .later }
def BracketParsesCardSaid : Prop := Claim7.holds Tryd.pinned (.plain (OpenSpec.ofChange bracketParsesSpec)) bracketParsesCard

/-- THE TIED CARD OF 'runnellaw03.BracketTexts'. -/
def bracketTextsCard : Claim7 := { stood := { row := bracketTextsRow, standIns := [], harness := (true, "b22224c649c439fd476d4367c02d8a5cd3b90582e403a874a9d0dedbf9e6eb6c"), looks := false }, kinds := [], alts := [], laidByText := true, laidKinds := [.data], laidTests := true, laidLooks := .later }
def BracketTextsCardSaid : Prop := Claim7.holds Tryd.pinned (.plain (OpenSpec.ofChange bracketTextsSpec)) bracketTextsCard

/-- THE TIED CARD OF 'runnellaw03.BracketBack'. -/
def bracketBackCard : Claim7 := { stood := { row := bracketBackRow, standIns := [], harness := (true, "b22224c649c439fd476d4367c02d8a5cd3b90582e403a874a9d0dedbf9e6eb6c"), looks := false }, kinds := [], alts := [], laidByText := true, laidKinds := [.data], laidTests := true, laidLooks := .later }
def BracketBackCardSaid : Prop := Claim7.holds Tryd.pinned (.plain (OpenSpec.ofChange bracketBackSpec)) bracketBackCard

/-- THE TIED CARD OF 'runnellaw03.BracketNots'. -/
def bracketNotsCard : Claim7 := { stood := { row := bracketNotsRow, standIns := [], harness := (true, "b22224c649c439fd476d4367c02d8a5cd3b90582e403a874a9d0dedbf9e6eb6c"), looks := false }, kinds := [], alts := [], laidByText := true, laidKinds := [.data], laidTests := true, laidLooks := .later }
def BracketNotsCardSaid : Prop := Claim7.holds Tryd.pinned (.plain (OpenSpec.ofChange bracketNotsSpec)) bracketNotsCard

/-- THE TIED CARD OF 'runnellaw03.BracketUnions'. -/
def bracketUnionsCard : Claim7 := { stood := { row := bracketUnionsRow, standIns := [], harness := (true, "b22224c649c439fd476d4367c02d8a5cd3b90582e403a874a9d0dedbf9e6eb6c"), looks := false }, kinds := [], alts := [], laidByText := true, laidKinds := [.data], laidTests := true, laidLooks := .later }
def BracketUnionsCardSaid : Prop := Claim7.holds Tryd.pinned (.plain (OpenSpec.ofChange bracketUnionsSpec)) bracketUnionsCard

/-- THE TIED CARD OF 'runnellaw03.BracketFixed'. -/
def bracketFixedCard : Claim7 := { stood := { row := bracketFixedRow, standIns := [], harness := (true, "b22224c649c439fd476d4367c02d8a5cd3b90582e403a874a9d0dedbf9e6eb6c"), looks := false }, kinds := [], alts := [], laidByText := true, laidKinds := [.data], laidTests := true, laidLooks := .later }
def BracketFixedCardSaid : Prop := Claim7.holds Tryd.pinned (.plain (OpenSpec.ofChange bracketFixedSpec)) bracketFixedCard

/-- THE TIED CARD OF 'runnellaw05.CanonBack'. -/
def canonBackCard : Claim7 := { stood := { row := canonBackRow, standIns := [], harness := (true, "b22224c649c439fd476d4367c02d8a5cd3b90582e403a874a9d0dedbf9e6eb6c"), looks := false }, kinds := [], alts := [], laidByText := true, laidKinds := [.data, .data, .data], laidTests := true, laidLooks := .later }
def CanonBackCardSaid : Prop := Claim7.holds Tryd.pinned (.plain (OpenSpec.ofChange canonBackSpec)) canonBackCard

/-- THE SECOND FORM's CARD OF 'runnellaw03.BracketParses'. -/
def bracketParsesUptoCard : Claim7 := { stood := { row := bracketParsesUptoRow, standIns := [], harness := (true, "b22224c649c439fd476d4367c02d8a5cd3b90582e403a874a9d0dedbf9e6eb6c"), looks := false }, kinds := [], alts := [], laidByText := true, laidKinds := [.data], laidTests := true, laidLooks := .later }
def BracketParsesUptoCardSaid : Prop := Claim7.holds Tryd.pinned (.plain (OpenSpec.upto bracketParsesSpec)) bracketParsesUptoCard

/-- THE SECOND FORM's CARD OF 'runnellaw03.BracketTexts'. -/
def bracketTextsUptoCard : Claim7 := { stood := { row := bracketTextsUptoRow, standIns := [], harness := (true, "b22224c649c439fd476d4367c02d8a5cd3b90582e403a874a9d0dedbf9e6eb6c"), looks := false }, kinds := [], alts := [], laidByText := true, laidKinds := [.data], laidTests := true, laidLooks := .later }
def BracketTextsUptoCardSaid : Prop := Claim7.holds Tryd.pinned (.plain (OpenSpec.upto bracketTextsSpec)) bracketTextsUptoCard

/-- THE SECOND FORM's CARD OF 'runnellaw03.BracketBack'. -/
def bracketBackUptoCard : Claim7 := { stood := { row := bracketBackUptoRow, standIns := [], harness := (true, "b22224c649c439fd476d4367c02d8a5cd3b90582e403a874a9d0dedbf9e6eb6c"), looks := false }, kinds := [], alts := [], laidByText := true, laidKinds := [.data], laidTests := true, laidLooks := .later }
def BracketBackUptoCardSaid : Prop := Claim7.holds Tryd.pinned (.plain (OpenSpec.upto bracketBackSpec)) bracketBackUptoCard

/-- THE SECOND FORM's CARD OF 'runnellaw03.BracketNots'. -/
def bracketNotsUptoCard : Claim7 := { stood := { row := bracketNotsUptoRow, standIns := [], harness := (true, "b22224c649c439fd476d4367c02d8a5cd3b90582e403a874a9d0dedbf9e6eb6c"), looks := false }, kinds := [], alts := [], laidByText := true, laidKinds := [.data], laidTests := true, laidLooks := .later }
def BracketNotsUptoCardSaid : Prop := Claim7.holds Tryd.pinned (.plain (OpenSpec.upto bracketNotsSpec)) bracketNotsUptoCard

/-- THE SECOND FORM's CARD OF 'runnellaw03.BracketUnions'. -/
def bracketUnionsUptoCard : Claim7 := { stood := { row := bracketUnionsUptoRow, standIns := [], harness := (true, "b22224c649c439fd476d4367c02d8a5cd3b90582e403a874a9d0dedbf9e6eb6c"), looks := false }, kinds := [], alts := [], laidByText := true, laidKinds := [.data], laidTests := true, laidLooks := .later }
def BracketUnionsUptoCardSaid : Prop := Claim7.holds Tryd.pinned (.plain (OpenSpec.upto bracketUnionsSpec)) bracketUnionsUptoCard

/-- THE SECOND FORM's CARD OF 'runnellaw03.BracketFixed'. -/
def bracketFixedUptoCard : Claim7 := { stood := { row := bracketFixedUptoRow, standIns := [], harness := (true, "b22224c649c439fd476d4367c02d8a5cd3b90582e403a874a9d0dedbf9e6eb6c"), looks := false }, kinds := [], alts := [], laidByText := true, laidKinds := [.data], laidTests := true, laidLooks := .later }
def BracketFixedUptoCardSaid : Prop := Claim7.holds Tryd.pinned (.plain (OpenSpec.upto bracketFixedSpec)) bracketFixedUptoCard

/-- THE SECOND FORM's CARD OF 'runnellaw05.CanonBack'. -/
def canonBackUptoCard : Claim7 := { stood := { row := canonBackUptoRow, standIns := [], harness := (true, "b22224c649c439fd476d4367c02d8a5cd3b90582e403a874a9d0dedbf9e6eb6c"), looks := false }, kinds := [], alts := [], laidByText := true, laidKinds := [.data, .data, .data], laidTests := true, laidLooks := .later }
def CanonBackUptoCardSaid : Prop := Claim7.holds Tryd.pinned (.plain (OpenSpec.upto canonBackSpec)) canonBackUptoCard
end Rows
end Go.Proofs.YtcmipoicnonaeaaDoor
