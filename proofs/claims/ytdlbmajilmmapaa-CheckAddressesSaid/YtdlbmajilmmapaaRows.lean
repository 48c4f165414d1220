/-
  No cell of these rows narrows 'for every input' (looked for: loops, veiled, ifaces, maps, wideKeys, modest, calm, conditions, laid).
  DERIVED. THE GIVEN ROWS OF THIS SEAT. 15 by the template 'for every input the law returns true; each argument reads behind the call as it read before'; 0 by the template 'total and deterministic' (their statements: YtdlbmajilmmapaaTotals.lean).
  GIVEN WITH THE SEED: the statements are not yours to turn. If you find one false, say at which input.
  Laid BY PROGRAM, IN A SANDBOX (cutbox-rows.mjs): the forced cells as the released guide's own fill.sh prints them over the translation 1a111d5d7e5ef513… (all of the seat's roots in one cut). By AI agents, Wed Nov 11 2026. No macro, syntax, notation, axiom, sorry.
-/
import Derived.Test.YtdlbmajilmmapaaChecked
import GoSem.Claim
import GoSem.ClaimJoined
import GoSem.ClaimMapViews
import Derived.JoinedTies
import Derived.KernelRfl
namespace Go.Proofs.Ytdlbmajilmmapaa
/- THE CELL 'sum', in the pinned program and in every row, IS THE sha256 OF THE DUMP (.gsa) THAT YtdlbmajilmmapaaProg.lean LOADS. Nothing in Lean hashes anything: it is a label: what it is worth is what the hold of that sum in a sandbox is worth. -/
noncomputable def Try.pinned : Pinned := { name := "ytdlbmajilmmapaa", sum := "1a111d5d7e5ef51314272f34f57a2346fdb52c77a164cd11364483ac7b42bc9b", checked := Try.checked }
namespace Rows
def none {H : Type} : Left H := { results := [], args := [] }

/-- 'runnellaw19.CheckChecks': WHATEVER THE INPUT: true; the input reads as it did. -/
def checkChecksSpec : ChangeSpec := { name := "checkChecks", fn := fun _ => fun
  | [d] => { results := [.lit (.bool true)], args := [d] }
  | _ => none }
def checkChecksRow : OpenClaim := { program := "ytdlbmajilmmapaa", sum := "1a111d5d7e5ef51314272f34f57a2346fdb52c77a164cd11364483ac7b42bc9b", func := "runnel/runnellaw19.CheckChecks", spec := "checkChecks", apart := false }
def CheckChecksSaid : Prop := checkChecksRow.holds Try.pinned (OpenSpec.ofChange checkChecksSpec)

/-- ITS FALSE NEIGHBOUR: 'it returns false'. Refute it at one input. -/
def checkChecksWrong : ChangeSpec := { name := "checkChecks", fn := fun _ => fun
  | [d] => { results := [.lit (.bool false)], args := [d] }
  | _ => none }
def CheckChecksWrongFalsely : Prop := checkChecksRow.holds Try.pinned (OpenSpec.ofChange checkChecksWrong)

/-- 'runnellaw19.CheckBlocks': WHATEVER THE INPUT: true; the input reads as it did. -/
def checkBlocksSpec : ChangeSpec := { name := "checkBlocks", fn := fun _ => fun
  | [d1, d2] => { results := [.lit (.bool true)], args := [d1, d2] }
  | _ => none }
def checkBlocksRow : OpenClaim := { program := "ytdlbmajilmmapaa", sum := "1a111d5d7e5ef51314272f34f57a2346fdb52c77a164cd11364483ac7b42bc9b", func := "runnel/runnellaw19.CheckBlocks", spec := "checkBlocks", apart := false }
def CheckBlocksSaid : Prop := checkBlocksRow.holds Try.pinned (OpenSpec.ofChange checkBlocksSpec)

/-- ITS FALSE NEIGHBOUR: 'it returns false'. Refute it at one input. -/
def checkBlocksWrong : ChangeSpec := { name := "checkBlocks", fn := fun _ => fun
  | [d1, d2] => { results := [.lit (.bool false)], args := [d1, d2] }
  | _ => none }
def CheckBlocksWrongFalsely : Prop := checkBlocksRow.holds Try.pinned (OpenSpec.ofChange checkBlocksWrong)

/-- 'runnellaw19.CheckLabels': WHATEVER THE INPUT: true; the input reads as it did. -/
def checkLabelsSpec : ChangeSpec := { name := "checkLabels", fn := fun _ => fun
  | [d1, d2] => { results := [.lit (.bool true)], args := [d1, d2] }
  | _ => none }
def checkLabelsRow : OpenClaim := { program := "ytdlbmajilmmapaa", sum := "1a111d5d7e5ef51314272f34f57a2346fdb52c77a164cd11364483ac7b42bc9b", func := "runnel/runnellaw19.CheckLabels", spec := "checkLabels", apart := false }
def CheckLabelsSaid : Prop := checkLabelsRow.holds Try.pinned (OpenSpec.ofChange checkLabelsSpec)

/-- ITS FALSE NEIGHBOUR: 'it returns false'. Refute it at one input. -/
def checkLabelsWrong : ChangeSpec := { name := "checkLabels", fn := fun _ => fun
  | [d1, d2] => { results := [.lit (.bool false)], args := [d1, d2] }
  | _ => none }
def CheckLabelsWrongFalsely : Prop := checkLabelsRow.holds Try.pinned (OpenSpec.ofChange checkLabelsWrong)

/-- 'runnellaw19.CheckAddresses': WHATEVER THE INPUT: true; the input reads as it did. -/
def checkAddressesSpec : ChangeSpec := { name := "checkAddresses", fn := fun _ => fun
  | [] => { results := [.lit (.bool true)], args := [] }
  | _ => none }
def checkAddressesRow : OpenClaim := { program := "ytdlbmajilmmapaa", sum := "1a111d5d7e5ef51314272f34f57a2346fdb52c77a164cd11364483ac7b42bc9b", func := "runnel/runnellaw19.CheckAddresses", spec := "checkAddresses", apart := false }
def CheckAddressesSaid : Prop := checkAddressesRow.holds Try.pinned (OpenSpec.ofChange checkAddressesSpec)

/-- ITS FALSE NEIGHBOUR: 'it returns false'. Refute it at one input. -/
def checkAddressesWrong : ChangeSpec := { name := "checkAddresses", fn := fun _ => fun
  | [] => { results := [.lit (.bool false)], args := [] }
  | _ => none }
def CheckAddressesWrongFalsely : Prop := checkAddressesRow.holds Try.pinned (OpenSpec.ofChange checkAddressesWrong)

/-- 'runnellaw13.TemplateParses': WHATEVER THE INPUT: true; the input reads as it did. -/
def templateParsesSpec : ChangeSpec := { name := "templateParses", fn := fun _ => fun
  | [d] => { results := [.lit (.bool true)], args := [d] }
  | _ => none }
def templateParsesRow : OpenClaim := { program := "ytdlbmajilmmapaa", sum := "1a111d5d7e5ef51314272f34f57a2346fdb52c77a164cd11364483ac7b42bc9b", func := "runnel/runnellaw13.TemplateParses", spec := "templateParses", inPlace := ["internal/abi.NoEscape"], apart := false }
def TemplateParsesSaid : Prop := templateParsesRow.holds Try.pinned (OpenSpec.ofChange templateParsesSpec)

/-- ITS FALSE NEIGHBOUR: 'it returns false'. Refute it at one input. -/
def templateParsesWrong : ChangeSpec := { name := "templateParses", fn := fun _ => fun
  | [d] => { results := [.lit (.bool false)], args := [d] }
  | _ => none }
def TemplateParsesWrongFalsely : Prop := templateParsesRow.holds Try.pinned (OpenSpec.ofChange templateParsesWrong)

/-- 'runnellaw13.TemplateBuilds': WHATEVER THE INPUT: true; the input reads as it did. -/
def templateBuildsSpec : ChangeSpec := { name := "templateBuilds", fn := fun _ => fun
  | [d1, d2, d3] => { results := [.lit (.bool true)], args := [d1, d2, d3] }
  | _ => none }
def templateBuildsRow : OpenClaim := { program := "ytdlbmajilmmapaa", sum := "1a111d5d7e5ef51314272f34f57a2346fdb52c77a164cd11364483ac7b42bc9b", func := "runnel/runnellaw13.TemplateBuilds", spec := "templateBuilds", inPlace := ["internal/abi.NoEscape"], apart := false }
def TemplateBuildsSaid : Prop := templateBuildsRow.holds Try.pinned (OpenSpec.ofChange templateBuildsSpec)

/-- ITS FALSE NEIGHBOUR: 'it returns false'. Refute it at one input. -/
def templateBuildsWrong : ChangeSpec := { name := "templateBuilds", fn := fun _ => fun
  | [d1, d2, d3] => { results := [.lit (.bool false)], args := [d1, d2, d3] }
  | _ => none }
def TemplateBuildsWrongFalsely : Prop := templateBuildsRow.holds Try.pinned (OpenSpec.ofChange templateBuildsWrong)

/-- 'runnellaw13.TemplatePlain': WHATEVER THE INPUT: true; the input reads as it did. -/
def templatePlainSpec : ChangeSpec := { name := "templatePlain", fn := fun _ => fun
  | [d1, d2, d3] => { results := [.lit (.bool true)], args := [d1, d2, d3] }
  | _ => none }
def templatePlainRow : OpenClaim := { program := "ytdlbmajilmmapaa", sum := "1a111d5d7e5ef51314272f34f57a2346fdb52c77a164cd11364483ac7b42bc9b", func := "runnel/runnellaw13.TemplatePlain", spec := "templatePlain", inPlace := ["internal/abi.NoEscape"], apart := false }
def TemplatePlainSaid : Prop := templatePlainRow.holds Try.pinned (OpenSpec.ofChange templatePlainSpec)

/-- ITS FALSE NEIGHBOUR: 'it returns false'. Refute it at one input. -/
def templatePlainWrong : ChangeSpec := { name := "templatePlain", fn := fun _ => fun
  | [d1, d2, d3] => { results := [.lit (.bool false)], args := [d1, d2, d3] }
  | _ => none }
def TemplatePlainWrongFalsely : Prop := templatePlainRow.holds Try.pinned (OpenSpec.ofChange templatePlainWrong)

/-- 'runnellaw17.ScanUntils': WHATEVER THE INPUT: true; the input reads as it did. -/
def scanUntilsSpec : ChangeSpec := { name := "scanUntils", fn := fun _ => fun
  | [d1, d2, d3, d4] => { results := [.lit (.bool true)], args := [d1, d2, d3, d4] }
  | _ => none }
def scanUntilsRow : OpenClaim := { program := "ytdlbmajilmmapaa", sum := "1a111d5d7e5ef51314272f34f57a2346fdb52c77a164cd11364483ac7b42bc9b", func := "runnel/runnellaw17.ScanUntils", spec := "scanUntils", inPlace := ["internal/bytealg.IndexByteString", "internal/bytealg.IndexString"], named := ["internal/bytealg.MaxLen"], apart := false }
def ScanUntilsSaid : Prop := scanUntilsRow.holds Try.pinned (OpenSpec.ofChange scanUntilsSpec)

/-- ITS FALSE NEIGHBOUR: 'it returns false'. Refute it at one input. -/
def scanUntilsWrong : ChangeSpec := { name := "scanUntils", fn := fun _ => fun
  | [d1, d2, d3, d4] => { results := [.lit (.bool false)], args := [d1, d2, d3, d4] }
  | _ => none }
def ScanUntilsWrongFalsely : Prop := scanUntilsRow.holds Try.pinned (OpenSpec.ofChange scanUntilsWrong)

/-- 'runnellaw17.ScanTexts': WHATEVER THE INPUT: true; the input reads as it did. -/
def scanTextsSpec : ChangeSpec := { name := "scanTexts", fn := fun _ => fun
  | [d1, d2] => { results := [.lit (.bool true)], args := [d1, d2] }
  | _ => none }
def scanTextsRow : OpenClaim := { program := "ytdlbmajilmmapaa", sum := "1a111d5d7e5ef51314272f34f57a2346fdb52c77a164cd11364483ac7b42bc9b", func := "runnel/runnellaw17.ScanTexts", spec := "scanTexts", inPlace := ["internal/bytealg.IndexByteString", "internal/bytealg.IndexString"], named := ["internal/bytealg.MaxLen"], apart := false }
def ScanTextsSaid : Prop := scanTextsRow.holds Try.pinned (OpenSpec.ofChange scanTextsSpec)

/-- ITS FALSE NEIGHBOUR: 'it returns false'. Refute it at one input. -/
def scanTextsWrong : ChangeSpec := { name := "scanTexts", fn := fun _ => fun
  | [d1, d2] => { results := [.lit (.bool false)], args := [d1, d2] }
  | _ => none }
def ScanTextsWrongFalsely : Prop := scanTextsRow.holds Try.pinned (OpenSpec.ofChange scanTextsWrong)

/-- 'runnellaw17.ScanPieces': WHATEVER THE INPUT: true; the input reads as it did. -/
def scanPiecesSpec : ChangeSpec := { name := "scanPieces", fn := fun _ => fun
  | [d1, d2, d3, d4] => { results := [.lit (.bool true)], args := [d1, d2, d3, d4] }
  | _ => none }
def scanPiecesRow : OpenClaim := { program := "ytdlbmajilmmapaa", sum := "1a111d5d7e5ef51314272f34f57a2346fdb52c77a164cd11364483ac7b42bc9b", func := "runnel/runnellaw17.ScanPieces", spec := "scanPieces", inPlace := ["internal/bytealg.IndexByteString", "internal/bytealg.IndexString"], named := ["internal/bytealg.MaxLen"], apart := false }
def ScanPiecesSaid : Prop := scanPiecesRow.holds Try.pinned (OpenSpec.ofChange scanPiecesSpec)

/-- ITS FALSE NEIGHBOUR: 'it returns false'. Refute it at one input. -/
def scanPiecesWrong : ChangeSpec := { name := "scanPieces", fn := fun _ => fun
  | [d1, d2, d3, d4] => { results := [.lit (.bool false)], args := [d1, d2, d3, d4] }
  | _ => none }
def ScanPiecesWrongFalsely : Prop := scanPiecesRow.holds Try.pinned (OpenSpec.ofChange scanPiecesWrong)

/-- 'runnellaw17.ScanMoves': WHATEVER THE INPUT: true; the input reads as it did. -/
def scanMovesSpec : ChangeSpec := { name := "scanMoves", fn := fun _ => fun
  | [d1, d2] => { results := [.lit (.bool true)], args := [d1, d2] }
  | _ => none }
def scanMovesRow : OpenClaim := { program := "ytdlbmajilmmapaa", sum := "1a111d5d7e5ef51314272f34f57a2346fdb52c77a164cd11364483ac7b42bc9b", func := "runnel/runnellaw17.ScanMoves", spec := "scanMoves", inPlace := ["internal/bytealg.IndexByteString", "internal/bytealg.IndexString"], named := ["internal/bytealg.MaxLen"], apart := false }
def ScanMovesSaid : Prop := scanMovesRow.holds Try.pinned (OpenSpec.ofChange scanMovesSpec)

/-- ITS FALSE NEIGHBOUR: 'it returns false'. Refute it at one input. -/
def scanMovesWrong : ChangeSpec := { name := "scanMoves", fn := fun _ => fun
  | [d1, d2] => { results := [.lit (.bool false)], args := [d1, d2] }
  | _ => none }
def ScanMovesWrongFalsely : Prop := scanMovesRow.holds Try.pinned (OpenSpec.ofChange scanMovesWrong)

/-- 'runnellaw24.StoreSums': WHATEVER THE INPUT: true; the input reads as it did. -/
def storeSumsSpec : ChangeSpec := { name := "storeSums", fn := fun _ => fun
  | [d] => { results := [.lit (.bool true)], args := [d] }
  | _ => none }
def storeSumsRow : OpenClaim := { program := "ytdlbmajilmmapaa", sum := "1a111d5d7e5ef51314272f34f57a2346fdb52c77a164cd11364483ac7b42bc9b", func := "runnel/runnellaw24.StoreSums", spec := "storeSums", inPlace := ["internal/bytealg.IndexByteString", "internal/bytealg.IndexString", "internal/abi.NoEscape"], named := ["internal/bytealg.MaxLen"], apart := false }
def StoreSumsSaid : Prop := storeSumsRow.holds Try.pinned (OpenSpec.ofChange storeSumsSpec)

/-- ITS FALSE NEIGHBOUR: 'it returns false'. Refute it at one input. -/
def storeSumsWrong : ChangeSpec := { name := "storeSums", fn := fun _ => fun
  | [d] => { results := [.lit (.bool false)], args := [d] }
  | _ => none }
def StoreSumsWrongFalsely : Prop := storeSumsRow.holds Try.pinned (OpenSpec.ofChange storeSumsWrong)

/-- 'runnellaw24.StorePlays': WHATEVER THE INPUT: true; the input reads as it did. -/
def storePlaysSpec : ChangeSpec := { name := "storePlays", fn := fun _ => fun
  | [d1, d2] => { results := [.lit (.bool true)], args := [d1, d2] }
  | _ => none }
def storePlaysRow : OpenClaim := { program := "ytdlbmajilmmapaa", sum := "1a111d5d7e5ef51314272f34f57a2346fdb52c77a164cd11364483ac7b42bc9b", func := "runnel/runnellaw24.StorePlays", spec := "storePlays", inPlace := ["internal/bytealg.IndexByteString", "internal/bytealg.IndexString", "internal/abi.NoEscape"], unfollowed := true, recurses := true, named := ["internal/bytealg.MaxLen"], apart := false }
def StorePlaysSaid : Prop := storePlaysRow.holds Try.pinned (OpenSpec.ofChange storePlaysSpec)

/-- ITS FALSE NEIGHBOUR: 'it returns false'. Refute it at one input. -/
def storePlaysWrong : ChangeSpec := { name := "storePlays", fn := fun _ => fun
  | [d1, d2] => { results := [.lit (.bool false)], args := [d1, d2] }
  | _ => none }
def StorePlaysWrongFalsely : Prop := storePlaysRow.holds Try.pinned (OpenSpec.ofChange storePlaysWrong)

/-- 'runnellaw24.StoreFiles': WHATEVER THE INPUT: true; the input reads as it did. -/
def storeFilesSpec : ChangeSpec := { name := "storeFiles", fn := fun _ => fun
  | [d1, d2, d3] => { results := [.lit (.bool true)], args := [d1, d2, d3] }
  | _ => none }
def storeFilesRow : OpenClaim := { program := "ytdlbmajilmmapaa", sum := "1a111d5d7e5ef51314272f34f57a2346fdb52c77a164cd11364483ac7b42bc9b", func := "runnel/runnellaw24.StoreFiles", spec := "storeFiles", inPlace := ["internal/bytealg.IndexByteString", "internal/bytealg.IndexString", "internal/abi.NoEscape"], unfollowed := true, recurses := true, named := ["internal/bytealg.MaxLen"], apart := false }
def StoreFilesSaid : Prop := storeFilesRow.holds Try.pinned (OpenSpec.ofChange storeFilesSpec)

/-- ITS FALSE NEIGHBOUR: 'it returns false'. Refute it at one input. -/
def storeFilesWrong : ChangeSpec := { name := "storeFiles", fn := fun _ => fun
  | [d1, d2, d3] => { results := [.lit (.bool false)], args := [d1, d2, d3] }
  | _ => none }
def StoreFilesWrongFalsely : Prop := storeFilesRow.holds Try.pinned (OpenSpec.ofChange storeFilesWrong)

/-- 'runnellaw24.StoreKeeps': WHATEVER THE INPUT: true; the input reads as it did. -/
def storeKeepsSpec : ChangeSpec := { name := "storeKeeps", fn := fun _ => fun
  | [d1, d2] => { results := [.lit (.bool true)], args := [d1, d2] }
  | _ => none }
def storeKeepsRow : OpenClaim := { program := "ytdlbmajilmmapaa", sum := "1a111d5d7e5ef51314272f34f57a2346fdb52c77a164cd11364483ac7b42bc9b", func := "runnel/runnellaw24.StoreKeeps", spec := "storeKeeps", inPlace := ["internal/bytealg.IndexByteString", "internal/bytealg.IndexString", "internal/abi.NoEscape"], unfollowed := true, recurses := true, named := ["internal/bytealg.MaxLen"], apart := false }
def StoreKeepsSaid : Prop := storeKeepsRow.holds Try.pinned (OpenSpec.ofChange storeKeepsSpec)

/-- ITS FALSE NEIGHBOUR: 'it returns false'. Refute it at one input. -/
def storeKeepsWrong : ChangeSpec := { name := "storeKeeps", fn := fun _ => fun
  | [d1, d2] => { results := [.lit (.bool false)], args := [d1, d2] }
  | _ => none }
def StoreKeepsWrongFalsely : Prop := storeKeepsRow.holds Try.pinned (OpenSpec.ofChange storeKeepsWrong)

/- THE SECOND FORM. 'bulk': how many values and letters a reading holds, each counted each time it is reached (what is shared counts as often as it is met; a slice's spare places count too). A statement '..UptoSaid' is the law's where the arguments, and the package variables that the reading takes, are together of bulk at most 1048576: NARROWER than '..Said'. Prove '..Said' where nothing that the law and all that it calls make is longer than what came in: it says more and counts as full. Else prove '..UptoSaid'. A law counts once. -/
mutual
def uptoBulk {H : Type} : DataW H → Nat
  | .lit (.string bytes) => bytes.length + 1
  | .lit _ => 1
  | .nil => 1
  | .ptr d => uptoBulk d + 1
  | .slice elems spare => uptoBulkAll elems + uptoBulkAll spare + 1
  | .agg parts => uptoBulkAll parts + 1
  | .iface _ d => uptoBulk d + 1
  | .map entries => uptoBulkEntries entries + 1
  | .held _ => 1
def uptoBulkAll {H : Type} : List (DataW H) → Nat
  | [] => 0
  | d :: r => uptoBulk d + uptoBulkAll r
def uptoBulkEntries {H : Type} : List (Lit × DataW H) → Nat
  | [] => 0
  | x :: r => uptoBulkEntry x + uptoBulkEntries r
def uptoBulkEntry {H : Type} : Lit × DataW H → Nat
  | (.string bytes, d) => bytes.length + uptoBulk d + 1
  | (_, d) => uptoBulk d + 1
 end
def uptoSmall : (H : Type) → List (DataW H) → Bool := fun _ ds => decide (uptoBulkAll ds ≤ 1048576)
def OpenSpec.upto (s : _root_.Go.ChangeSpec) : _root_.Go.OpenSpec := { _root_.Go.OpenSpec.ofChange s with cond := some uptoSmall }

/-- 'runnellaw19.CheckChecks', WHERE WHAT IT READS IS OF BULK AT MOST 1048576: true; the input reads as it did. -/
def checkChecksUptoRow : OpenClaim := { program := "ytdlbmajilmmapaa", sum := "1a111d5d7e5ef51314272f34f57a2346fdb52c77a164cd11364483ac7b42bc9b", func := "runnel/runnellaw19.CheckChecks", spec := "checkChecks", apart := false, narrowed := true }
def CheckChecksUptoSaid : Prop := checkChecksUptoRow.holds Try.pinned (OpenSpec.upto checkChecksSpec)

/-- 'runnellaw19.CheckBlocks', WHERE WHAT IT READS IS OF BULK AT MOST 1048576: true; the input reads as it did. -/
def checkBlocksUptoRow : OpenClaim := { program := "ytdlbmajilmmapaa", sum := "1a111d5d7e5ef51314272f34f57a2346fdb52c77a164cd11364483ac7b42bc9b", func := "runnel/runnellaw19.CheckBlocks", spec := "checkBlocks", apart := false, narrowed := true }
def CheckBlocksUptoSaid : Prop := checkBlocksUptoRow.holds Try.pinned (OpenSpec.upto checkBlocksSpec)

/-- 'runnellaw19.CheckLabels', WHERE WHAT IT READS IS OF BULK AT MOST 1048576: true; the input reads as it did. -/
def checkLabelsUptoRow : OpenClaim := { program := "ytdlbmajilmmapaa", sum := "1a111d5d7e5ef51314272f34f57a2346fdb52c77a164cd11364483ac7b42bc9b", func := "runnel/runnellaw19.CheckLabels", spec := "checkLabels", apart := false, narrowed := true }
def CheckLabelsUptoSaid : Prop := checkLabelsUptoRow.holds Try.pinned (OpenSpec.upto checkLabelsSpec)

/-- 'runnellaw19.CheckAddresses', WHERE WHAT IT READS IS OF BULK AT MOST 1048576: true; the input reads as it did. -/
def checkAddressesUptoRow : OpenClaim := { program := "ytdlbmajilmmapaa", sum := "1a111d5d7e5ef51314272f34f57a2346fdb52c77a164cd11364483ac7b42bc9b", func := "runnel/runnellaw19.CheckAddresses", spec := "checkAddresses", apart := false, narrowed := true }
def CheckAddressesUptoSaid : Prop := checkAddressesUptoRow.holds Try.pinned (OpenSpec.upto checkAddressesSpec)

/-- 'runnellaw13.TemplateParses', WHERE WHAT IT READS IS OF BULK AT MOST 1048576: true; the input reads as it did. -/
def templateParsesUptoRow : OpenClaim := { program := "ytdlbmajilmmapaa", sum := "1a111d5d7e5ef51314272f34f57a2346fdb52c77a164cd11364483ac7b42bc9b", func := "runnel/runnellaw13.TemplateParses", spec := "templateParses", inPlace := ["internal/abi.NoEscape"], apart := false, narrowed := true }
def TemplateParsesUptoSaid : Prop := templateParsesUptoRow.holds Try.pinned (OpenSpec.upto templateParsesSpec)

/-- 'runnellaw13.TemplateBuilds', WHERE WHAT IT READS IS OF BULK AT MOST 1048576: true; the input reads as it did. -/
def templateBuildsUptoRow : OpenClaim := { program := "ytdlbmajilmmapaa", sum := "1a111d5d7e5ef51314272f34f57a2346fdb52c77a164cd11364483ac7b42bc9b", func := "runnel/runnellaw13.TemplateBuilds", spec := "templateBuilds", inPlace := ["internal/abi.NoEscape"], apart := false, narrowed := true }
def TemplateBuildsUptoSaid : Prop := templateBuildsUptoRow.holds Try.pinned (OpenSpec.upto templateBuildsSpec)

/-- 'runnellaw13.TemplatePlain', WHERE WHAT IT READS IS OF BULK AT MOST 1048576: true; the input reads as it did. -/
def templatePlainUptoRow : OpenClaim := { program := "ytdlbmajilmmapaa", sum := "1a111d5d7e5ef51314272f34f57a2346fdb52c77a164cd11364483ac7b42bc9b", func := "runnel/runnellaw13.TemplatePlain", spec := "templatePlain", inPlace := ["internal/abi.NoEscape"], apart := false, narrowed := true }
def TemplatePlainUptoSaid : Prop := templatePlainUptoRow.holds Try.pinned (OpenSpec.upto templatePlainSpec)

/-- 'runnellaw17.ScanUntils', WHERE WHAT IT READS IS OF BULK AT MOST 1048576: true; the input reads as it did. -/
def scanUntilsUptoRow : OpenClaim := { program := "ytdlbmajilmmapaa", sum := "1a111d5d7e5ef51314272f34f57a2346fdb52c77a164cd11364483ac7b42bc9b", func := "runnel/runnellaw17.ScanUntils", spec := "scanUntils", inPlace := ["internal/bytealg.IndexByteString", "internal/bytealg.IndexString"], named := ["internal/bytealg.MaxLen"], apart := false, narrowed := true }
def ScanUntilsUptoSaid : Prop := scanUntilsUptoRow.holds Try.pinned (OpenSpec.upto scanUntilsSpec)

/-- 'runnellaw17.ScanTexts', WHERE WHAT IT READS IS OF BULK AT MOST 1048576: true; the input reads as it did. -/
def scanTextsUptoRow : OpenClaim := { program := "ytdlbmajilmmapaa", sum := "1a111d5d7e5ef51314272f34f57a2346fdb52c77a164cd11364483ac7b42bc9b", func := "runnel/runnellaw17.ScanTexts", spec := "scanTexts", inPlace := ["internal/bytealg.IndexByteString", "internal/bytealg.IndexString"], named := ["internal/bytealg.MaxLen"], apart := false, narrowed := true }
def ScanTextsUptoSaid : Prop := scanTextsUptoRow.holds Try.pinned (OpenSpec.upto scanTextsSpec)

/-- 'runnellaw17.ScanPieces', WHERE WHAT IT READS IS OF BULK AT MOST 1048576: true; the input reads as it did. -/
def scanPiecesUptoRow : OpenClaim := { program := "ytdlbmajilmmapaa", sum := "1a111d5d7e5ef51314272f34f57a2346fdb52c77a164cd11364483ac7b42bc9b", func := "runnel/runnellaw17.ScanPieces", spec := "scanPieces", inPlace := ["internal/bytealg.IndexByteString", "internal/bytealg.IndexString"], named := ["internal/bytealg.MaxLen"], apart := false, narrowed := true }
def ScanPiecesUptoSaid : Prop := scanPiecesUptoRow.holds Try.pinned (OpenSpec.upto scanPiecesSpec)

/-- 'runnellaw17.ScanMoves', WHERE WHAT IT READS IS OF BULK AT MOST 1048576: true; the input reads as it did. -/
def scanMovesUptoRow : OpenClaim := { program := "ytdlbmajilmmapaa", sum := "1a111d5d7e5ef51314272f34f57a2346fdb52c77a164cd11364483ac7b42bc9b", func := "runnel/runnellaw17.ScanMoves", spec := "scanMoves", inPlace := ["internal/bytealg.IndexByteString", "internal/bytealg.IndexString"], named := ["internal/bytealg.MaxLen"], apart := false, narrowed := true }
def ScanMovesUptoSaid : Prop := scanMovesUptoRow.holds Try.pinned (OpenSpec.upto scanMovesSpec)

/-- 'runnellaw24.StoreSums', WHERE WHAT IT READS IS OF BULK AT MOST 1048576: true; the input reads as it did. -/
def storeSumsUptoRow : OpenClaim := { program := "ytdlbmajilmmapaa", sum := "1a111d5d7e5ef51314272f34f57a2346fdb52c77a164cd11364483ac7b42bc9b", func := "runnel/runnellaw24.StoreSums", spec := "storeSums", inPlace := ["internal/bytealg.IndexByteString", "internal/bytealg.IndexString", "internal/abi.NoEscape"], named := ["internal/bytealg.MaxLen"], apart := false, narrowed := true }
def StoreSumsUptoSaid : Prop := storeSumsUptoRow.holds Try.pinned (OpenSpec.upto storeSumsSpec)

/-- 'runnellaw24.StorePlays', WHERE WHAT IT READS IS OF BULK AT MOST 1048576: true; the input reads as it did. -/
def storePlaysUptoRow : OpenClaim := { program := "ytdlbmajilmmapaa", sum := "1a111d5d7e5ef51314272f34f57a2346fdb52c77a164cd11364483ac7b42bc9b", func := "runnel/runnellaw24.StorePlays", spec := "storePlays", inPlace := ["internal/bytealg.IndexByteString", "internal/bytealg.IndexString", "internal/abi.NoEscape"], unfollowed := true, recurses := true, named := ["internal/bytealg.MaxLen"], apart := false, narrowed := true }
def StorePlaysUptoSaid : Prop := storePlaysUptoRow.holds Try.pinned (OpenSpec.upto storePlaysSpec)

/-- 'runnellaw24.StoreFiles', WHERE WHAT IT READS IS OF BULK AT MOST 1048576: true; the input reads as it did. -/
def storeFilesUptoRow : OpenClaim := { program := "ytdlbmajilmmapaa", sum := "1a111d5d7e5ef51314272f34f57a2346fdb52c77a164cd11364483ac7b42bc9b", func := "runnel/runnellaw24.StoreFiles", spec := "storeFiles", inPlace := ["internal/bytealg.IndexByteString", "internal/bytealg.IndexString", "internal/abi.NoEscape"], unfollowed := true, recurses := true, named := ["internal/bytealg.MaxLen"], apart := false, narrowed := true }
def StoreFilesUptoSaid : Prop := storeFilesUptoRow.holds Try.pinned (OpenSpec.upto storeFilesSpec)

/-- 'runnellaw24.StoreKeeps', WHERE WHAT IT READS IS OF BULK AT MOST 1048576: true; the input reads as it did. -/
def storeKeepsUptoRow : OpenClaim := { program := "ytdlbmajilmmapaa", sum := "1a111d5d7e5ef51314272f34f57a2346fdb52c77a164cd11364483ac7b42bc9b", func := "runnel/runnellaw24.StoreKeeps", spec := "storeKeeps", inPlace := ["internal/bytealg.IndexByteString", "internal/bytealg.IndexString", "internal/abi.NoEscape"], unfollowed := true, recurses := true, named := ["internal/bytealg.MaxLen"], apart := false, narrowed := true }
def StoreKeepsUptoSaid : Prop := storeKeepsUptoRow.holds Try.pinned (OpenSpec.upto storeKeepsSpec)

end Rows
end Go.Proofs.Ytdlbmajilmmapaa
