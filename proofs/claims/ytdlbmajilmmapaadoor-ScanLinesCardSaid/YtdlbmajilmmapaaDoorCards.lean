/-
  DERIVED. GIVEN WITH THE SEED: THE CARDS: each row of YtdlbmajilmmapaaDoorRows.lean that lists a variable, with what it lists TIED to the program's text (the seventh form; the later family's looks); each row that meets fmt, with fmt's text TOLD by the authors' own Lean function (tested against real Go, not proved from fmt's source: count such statements apart). THE CARD IS WHAT COUNTS. Prove the row's statement (the work); the ties are given (YtdlbmajilmmapaaDoorTie.lean); close each card by the builder's one call (the guide's Derived/Test/ToyasCard.lean, 'card_holds'). Laid BY PROGRAM, IN A SANDBOX (cutbox-door.mjs). By AI agents, Wed Nov 11 2026. No macro, syntax, notation, axiom, sorry.
-/
import Derived.Test.YtdlbmajilmmapaaDoorRows
import GoSem.ClaimSeven
namespace Go.Proofs.YtdlbmajilmmapaaDoor
namespace Rows

/-- THE TIED CARD OF 'runnellaw17.ScanWords'. -/
def scanWordsCard : Claim7 := { stood := { row := scanWordsRow, standIns := [], harness := (true, "269ec13bfdc828e4b7c7a9e43be0ce87cdd8dd7b77bce52e9c304d4d7bdffe6e"), looks := true }, kinds := [], alts := [], laidByText := true, laidKinds := [.data, .pinned], laidTests := true, laidLooks := .later }
def ScanWordsCardSaid : Prop := Claim7.holds Tryd.pinned (.plain (OpenSpec.ofChange scanWordsSpec)) scanWordsCard

/-- THE TIED CARD OF 'runnellaw17.ScanLines'. -/
def scanLinesCard : Claim7 := { stood := { row := scanLinesRow, standIns := [], harness := (true, "269ec13bfdc828e4b7c7a9e43be0ce87cdd8dd7b77bce52e9c304d4d7bdffe6e"), looks := true }, kinds := [], alts := [], laidByText := true, laidKinds := [.data, .pinned], laidTests := true, laidLooks := .later }
def ScanLinesCardSaid : Prop := Claim7.holds Tryd.pinned (.plain (OpenSpec.ofChange scanLinesSpec)) scanLinesCard

/-- THE TIED CARD OF 'runnellaw13.TemplateBack'. -/
def templateBackCard : Claim7 := { stood := { row := templateBackRow, standIns := [], harness := (true, "269ec13bfdc828e4b7c7a9e43be0ce87cdd8dd7b77bce52e9c304d4d7bdffe6e"), looks := true }, kinds := [], alts := [], laidByText := true, laidKinds := [.data, .data, .data], laidTests := true, laidLooks := .later }
def TemplateBackCardSaid : Prop := Claim7.holds Tryd.pinned (.plain (OpenSpec.ofChange templateBackSpec)) templateBackCard

/-- THE TIED CARD OF 'runnellaw13.TemplateKeeps'. -/
def templateKeepsCard : Claim7 := { stood := { row := templateKeepsRow, standIns := [], harness := (true, "269ec13bfdc828e4b7c7a9e43be0ce87cdd8dd7b77bce52e9c304d4d7bdffe6e"), looks := true }, kinds := [], alts := [], laidByText := true, laidKinds := [.data, .data, .data], laidTests := true, laidLooks := .later }
def TemplateKeepsCardSaid : Prop := Claim7.holds Tryd.pinned (.plain (OpenSpec.ofChange templateKeepsSpec)) templateKeepsCard

/-- THE SECOND FORM's CARD OF 'runnellaw17.ScanWords'. -/
def scanWordsUptoCard : Claim7 := { stood := { row := scanWordsUptoRow, standIns := [], harness := (true, "269ec13bfdc828e4b7c7a9e43be0ce87cdd8dd7b77bce52e9c304d4d7bdffe6e"), looks := true }, kinds := [], alts := [], laidByText := true, laidKinds := [.data, .pinned], laidTests := true, laidLooks := .later }
def ScanWordsUptoCardSaid : Prop := Claim7.holds Tryd.pinned (.plain (OpenSpec.upto scanWordsSpec)) scanWordsUptoCard

/-- THE SECOND FORM's CARD OF 'runnellaw17.ScanLines'. -/
def scanLinesUptoCard : Claim7 := { stood := { row := scanLinesUptoRow, standIns := [], harness := (true, "269ec13bfdc828e4b7c7a9e43be0ce87cdd8dd7b77bce52e9c304d4d7bdffe6e"), looks := true }, kinds := [], alts := [], laidByText := true, laidKinds := [.data, .pinned], laidTests := true, laidLooks := .later }
def ScanLinesUptoCardSaid : Prop := Claim7.holds Tryd.pinned (.plain (OpenSpec.upto scanLinesSpec)) scanLinesUptoCard

/-- THE SECOND FORM's CARD OF 'runnellaw13.TemplateBack'. -/
def templateBackUptoCard : Claim7 := { stood := { row := templateBackUptoRow, standIns := [], harness := (true, "269ec13bfdc828e4b7c7a9e43be0ce87cdd8dd7b77bce52e9c304d4d7bdffe6e"), looks := true }, kinds := [], alts := [], laidByText := true, laidKinds := [.data, .data, .data], laidTests := true, laidLooks := .later }
def TemplateBackUptoCardSaid : Prop := Claim7.holds Tryd.pinned (.plain (OpenSpec.upto templateBackSpec)) templateBackUptoCard

/-- THE SECOND FORM's CARD OF 'runnellaw13.TemplateKeeps'. -/
def templateKeepsUptoCard : Claim7 := { stood := { row := templateKeepsUptoRow, standIns := [], harness := (true, "269ec13bfdc828e4b7c7a9e43be0ce87cdd8dd7b77bce52e9c304d4d7bdffe6e"), looks := true }, kinds := [], alts := [], laidByText := true, laidKinds := [.data, .data, .data], laidTests := true, laidLooks := .later }
def TemplateKeepsUptoCardSaid : Prop := Claim7.holds Tryd.pinned (.plain (OpenSpec.upto templateKeepsSpec)) templateKeepsUptoCard
end Rows
end Go.Proofs.YtdlbmajilmmapaaDoor
