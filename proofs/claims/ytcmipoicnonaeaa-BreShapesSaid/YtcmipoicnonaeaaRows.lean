/-
  No cell of these rows narrows 'for every input' (looked for: loops, veiled, ifaces, maps, wideKeys, modest, calm, conditions, laid).
  DERIVED. THE GIVEN ROWS OF THIS SEAT. 9 by the template 'for every input the law returns true; each argument reads behind the call as it read before'; 0 by the template 'total and deterministic' (their statements: YtcmipoicnonaeaaTotals.lean).
  GIVEN WITH THE SEED: the statements are not yours to turn. If you find one false, say at which input.
  Laid BY PROGRAM, IN A SANDBOX (cutbox-rows.mjs): the forced cells as the released guide's own fill.sh prints them over the translation 8639e88db4420919… (all of the seat's roots in one cut). By AI agents, Wed Nov 11 2026. No macro, syntax, notation, axiom, sorry.
-/
import Derived.Test.YtcmipoicnonaeaaChecked
import GoSem.Claim
import GoSem.ClaimJoined
import GoSem.ClaimMapViews
import Derived.JoinedTies
import Derived.KernelRfl
namespace Go.Proofs.Ytcmipoicnonaeaa
/- THE CELL 'sum', in the pinned program and in every row, IS THE sha256 OF THE DUMP (.gsa) THAT YtcmipoicnonaeaaProg.lean LOADS. Nothing in Lean hashes anything: it is a label: what it is worth is what the hold of that sum in a sandbox is worth. -/
noncomputable def Try.pinned : Pinned := { name := "ytcmipoicnonaeaa", sum := "8639e88db4420919b67eb52d5477a620e8f5c4b0a26de7c4b523ce85a7621cc2", checked := Try.checked }
namespace Rows
def none {H : Type} : Left H := { results := [], args := [] }

/-- 'runnellaw04.BreParses': WHATEVER THE INPUT: true; the input reads as it did. -/
def breParsesSpec : ChangeSpec := { name := "breParses", fn := fun _ => fun
  | [d] => { results := [.lit (.bool true)], args := [d] }
  | _ => none }
def breParsesRow : OpenClaim := { program := "ytcmipoicnonaeaa", sum := "8639e88db4420919b67eb52d5477a620e8f5c4b0a26de7c4b523ce85a7621cc2", func := "runnel/runnellaw04.BreParses", spec := "breParses", inPlace := ["internal/bytealg.IndexByteString", "internal/bytealg.IndexString"], unfollowed := true, recurses := true, named := ["internal/bytealg.MaxLen"], apart := false }
def BreParsesSaid : Prop := breParsesRow.holds Try.pinned (OpenSpec.ofChange breParsesSpec)

/-- ITS FALSE NEIGHBOUR: 'it returns false'. Refute it at one input. -/
def breParsesWrong : ChangeSpec := { name := "breParses", fn := fun _ => fun
  | [d] => { results := [.lit (.bool false)], args := [d] }
  | _ => none }
def BreParsesWrongFalsely : Prop := breParsesRow.holds Try.pinned (OpenSpec.ofChange breParsesWrong)

/-- 'runnellaw04.BreShapes': WHATEVER THE INPUT: true; the input reads as it did. -/
def breShapesSpec : ChangeSpec := { name := "breShapes", fn := fun _ => fun
  | [d] => { results := [.lit (.bool true)], args := [d] }
  | _ => none }
def breShapesRow : OpenClaim := { program := "ytcmipoicnonaeaa", sum := "8639e88db4420919b67eb52d5477a620e8f5c4b0a26de7c4b523ce85a7621cc2", func := "runnel/runnellaw04.BreShapes", spec := "breShapes", inPlace := ["internal/bytealg.IndexByteString", "internal/bytealg.IndexString"], unfollowed := true, recurses := true, named := ["internal/bytealg.MaxLen"], apart := false }
def BreShapesSaid : Prop := breShapesRow.holds Try.pinned (OpenSpec.ofChange breShapesSpec)

/-- ITS FALSE NEIGHBOUR: 'it returns false'. Refute it at one input. -/
def breShapesWrong : ChangeSpec := { name := "breShapes", fn := fun _ => fun
  | [d] => { results := [.lit (.bool false)], args := [d] }
  | _ => none }
def BreShapesWrongFalsely : Prop := breShapesRow.holds Try.pinned (OpenSpec.ofChange breShapesWrong)

/-- 'runnellaw04.BreQuotes': WHATEVER THE INPUT: true; the input reads as it did. -/
def breQuotesSpec : ChangeSpec := { name := "breQuotes", fn := fun _ => fun
  | [d] => { results := [.lit (.bool true)], args := [d] }
  | _ => none }
def breQuotesRow : OpenClaim := { program := "ytcmipoicnonaeaa", sum := "8639e88db4420919b67eb52d5477a620e8f5c4b0a26de7c4b523ce85a7621cc2", func := "runnel/runnellaw04.BreQuotes", spec := "breQuotes", inPlace := ["internal/bytealg.IndexByteString", "internal/bytealg.IndexString"], unfollowed := true, recurses := true, named := ["internal/bytealg.MaxLen"], apart := false }
def BreQuotesSaid : Prop := breQuotesRow.holds Try.pinned (OpenSpec.ofChange breQuotesSpec)

/-- ITS FALSE NEIGHBOUR: 'it returns false'. Refute it at one input. -/
def breQuotesWrong : ChangeSpec := { name := "breQuotes", fn := fun _ => fun
  | [d] => { results := [.lit (.bool false)], args := [d] }
  | _ => none }
def BreQuotesWrongFalsely : Prop := breQuotesRow.holds Try.pinned (OpenSpec.ofChange breQuotesWrong)

/-- 'runnellaw04.BreGroups': WHATEVER THE INPUT: true; the input reads as it did. -/
def breGroupsSpec : ChangeSpec := { name := "breGroups", fn := fun _ => fun
  | [d1, d2] => { results := [.lit (.bool true)], args := [d1, d2] }
  | _ => none }
def breGroupsRow : OpenClaim := { program := "ytcmipoicnonaeaa", sum := "8639e88db4420919b67eb52d5477a620e8f5c4b0a26de7c4b523ce85a7621cc2", func := "runnel/runnellaw04.BreGroups", spec := "breGroups", inPlace := ["internal/bytealg.IndexByteString", "internal/bytealg.IndexString"], unfollowed := true, recurses := true, named := ["internal/bytealg.MaxLen"], apart := false }
def BreGroupsSaid : Prop := breGroupsRow.holds Try.pinned (OpenSpec.ofChange breGroupsSpec)

/-- ITS FALSE NEIGHBOUR: 'it returns false'. Refute it at one input. -/
def breGroupsWrong : ChangeSpec := { name := "breGroups", fn := fun _ => fun
  | [d1, d2] => { results := [.lit (.bool false)], args := [d1, d2] }
  | _ => none }
def BreGroupsWrongFalsely : Prop := breGroupsRow.holds Try.pinned (OpenSpec.ofChange breGroupsWrong)

/-- 'runnellaw04.BreFixed': WHATEVER THE INPUT: true; the input reads as it did. -/
def breFixedSpec : ChangeSpec := { name := "breFixed", fn := fun _ => fun
  | [] => { results := [.lit (.bool true)], args := [] }
  | _ => none }
def breFixedRow : OpenClaim := { program := "ytcmipoicnonaeaa", sum := "8639e88db4420919b67eb52d5477a620e8f5c4b0a26de7c4b523ce85a7621cc2", func := "runnel/runnellaw04.BreFixed", spec := "breFixed", inPlace := ["internal/bytealg.IndexByteString", "internal/bytealg.IndexString"], unfollowed := true, recurses := true, named := ["internal/bytealg.MaxLen"], apart := false }
def BreFixedSaid : Prop := breFixedRow.holds Try.pinned (OpenSpec.ofChange breFixedSpec)

/-- ITS FALSE NEIGHBOUR: 'it returns false'. Refute it at one input. -/
def breFixedWrong : ChangeSpec := { name := "breFixed", fn := fun _ => fun
  | [] => { results := [.lit (.bool false)], args := [] }
  | _ => none }
def BreFixedWrongFalsely : Prop := breFixedRow.holds Try.pinned (OpenSpec.ofChange breFixedWrong)

/-- 'runnellaw04.BreKeeps': WHATEVER THE INPUT: true; the input reads as it did. -/
def breKeepsSpec : ChangeSpec := { name := "breKeeps", fn := fun _ => fun
  | [d] => { results := [.lit (.bool true)], args := [d] }
  | _ => none }
def breKeepsRow : OpenClaim := { program := "ytcmipoicnonaeaa", sum := "8639e88db4420919b67eb52d5477a620e8f5c4b0a26de7c4b523ce85a7621cc2", func := "runnel/runnellaw04.BreKeeps", spec := "breKeeps", inPlace := ["internal/bytealg.IndexByteString", "internal/bytealg.IndexString"], unfollowed := true, recurses := true, named := ["internal/bytealg.MaxLen"], apart := false }
def BreKeepsSaid : Prop := breKeepsRow.holds Try.pinned (OpenSpec.ofChange breKeepsSpec)

/-- ITS FALSE NEIGHBOUR: 'it returns false'. Refute it at one input. -/
def breKeepsWrong : ChangeSpec := { name := "breKeeps", fn := fun _ => fun
  | [d] => { results := [.lit (.bool false)], args := [d] }
  | _ => none }
def BreKeepsWrongFalsely : Prop := breKeepsRow.holds Try.pinned (OpenSpec.ofChange breKeepsWrong)

/-- 'runnellaw06.MeasureOfs': WHATEVER THE INPUT: true; the input reads as it did. -/
def measureOfsSpec : ChangeSpec := { name := "measureOfs", fn := fun _ => fun
  | [d] => { results := [.lit (.bool true)], args := [d] }
  | _ => none }
def measureOfsRow : OpenClaim := { program := "ytcmipoicnonaeaa", sum := "8639e88db4420919b67eb52d5477a620e8f5c4b0a26de7c4b523ce85a7621cc2", func := "runnel/runnellaw06.MeasureOfs", spec := "measureOfs", inPlace := ["internal/bytealg.IndexByteString", "internal/bytealg.IndexString"], unfollowed := true, recurses := true, named := ["internal/bytealg.MaxLen"], apart := false }
def MeasureOfsSaid : Prop := measureOfsRow.holds Try.pinned (OpenSpec.ofChange measureOfsSpec)

/-- ITS FALSE NEIGHBOUR: 'it returns false'. Refute it at one input. -/
def measureOfsWrong : ChangeSpec := { name := "measureOfs", fn := fun _ => fun
  | [d] => { results := [.lit (.bool false)], args := [d] }
  | _ => none }
def MeasureOfsWrongFalsely : Prop := measureOfsRow.holds Try.pinned (OpenSpec.ofChange measureOfsWrong)

/-- 'runnellaw06.MeasureBounds': WHATEVER THE INPUT: true; the input reads as it did. -/
def measureBoundsSpec : ChangeSpec := { name := "measureBounds", fn := fun _ => fun
  | [d] => { results := [.lit (.bool true)], args := [d] }
  | _ => none }
def measureBoundsRow : OpenClaim := { program := "ytcmipoicnonaeaa", sum := "8639e88db4420919b67eb52d5477a620e8f5c4b0a26de7c4b523ce85a7621cc2", func := "runnel/runnellaw06.MeasureBounds", spec := "measureBounds", inPlace := ["internal/bytealg.IndexByteString", "internal/bytealg.IndexString"], unfollowed := true, recurses := true, named := ["internal/bytealg.MaxLen"], apart := false }
def MeasureBoundsSaid : Prop := measureBoundsRow.holds Try.pinned (OpenSpec.ofChange measureBoundsSpec)

/-- ITS FALSE NEIGHBOUR: 'it returns false'. Refute it at one input. -/
def measureBoundsWrong : ChangeSpec := { name := "measureBounds", fn := fun _ => fun
  | [d] => { results := [.lit (.bool false)], args := [d] }
  | _ => none }
def MeasureBoundsWrongFalsely : Prop := measureBoundsRow.holds Try.pinned (OpenSpec.ofChange measureBoundsWrong)

/-- 'runnellaw06.MeasureWraps': WHATEVER THE INPUT: true; the input reads as it did. -/
def measureWrapsSpec : ChangeSpec := { name := "measureWraps", fn := fun _ => fun
  | [d1, d2] => { results := [.lit (.bool true)], args := [d1, d2] }
  | _ => none }
def measureWrapsRow : OpenClaim := { program := "ytcmipoicnonaeaa", sum := "8639e88db4420919b67eb52d5477a620e8f5c4b0a26de7c4b523ce85a7621cc2", func := "runnel/runnellaw06.MeasureWraps", spec := "measureWraps", inPlace := ["internal/bytealg.IndexByteString", "internal/bytealg.IndexString"], unfollowed := true, recurses := true, named := ["internal/bytealg.MaxLen"], apart := false }
def MeasureWrapsSaid : Prop := measureWrapsRow.holds Try.pinned (OpenSpec.ofChange measureWrapsSpec)

/-- ITS FALSE NEIGHBOUR: 'it returns false'. Refute it at one input. -/
def measureWrapsWrong : ChangeSpec := { name := "measureWraps", fn := fun _ => fun
  | [d1, d2] => { results := [.lit (.bool false)], args := [d1, d2] }
  | _ => none }
def MeasureWrapsWrongFalsely : Prop := measureWrapsRow.holds Try.pinned (OpenSpec.ofChange measureWrapsWrong)

/- THE SECOND FORM. 'bulk': how many values and letters a reading holds, each counted each time it is reached (what is shared counts as often as it is met; a slice's spare places count too). A statement '..UptoSaid' is the law's where the arguments, and the package variables that the reading takes, are together of bulk at most 1048576: NARROWER than '..Said'. Prove '..Said' where nothing that the law and all that it calls make is longer than what came in: it says more and counts as full. Else prove '..UptoSaid'. A law counts once. -/
mutual
def uptoBulk {H : Type} : DataW H → Nat
  | .lit (.string bytes) => bytes.length + 1
  | .lit _ => 1
  | .nil => 1
  | .ptr d => uptoBulk d + 1
  | .slice elems spare => uptoBulkAll elems + uptoBulkAll spare + 1
  | .agg parts => uptoBulkAll parts + 1
  | .iface _ d => uptoBulk d + 1
  | .map entries => uptoBulkEntries entries + 1
  | .held _ => 1
def uptoBulkAll {H : Type} : List (DataW H) → Nat
  | [] => 0
  | d :: r => uptoBulk d + uptoBulkAll r
def uptoBulkEntries {H : Type} : List (Lit × DataW H) → Nat
  | [] => 0
  | x :: r => uptoBulkEntry x + uptoBulkEntries r
def uptoBulkEntry {H : Type} : Lit × DataW H → Nat
  | (.string bytes, d) => bytes.length + uptoBulk d + 1
  | (_, d) => uptoBulk d + 1
 end
def uptoSmall : (H : Type) → List (DataW H) → Bool := fun _ ds => decide (uptoBulkAll ds ≤ 1048576)
def OpenSpec.upto (s : _root_.Go.ChangeSpec) : _root_.Go.OpenSpec := { _root_.Go.OpenSpec.ofChange s with cond := some uptoSmall }

/-- 'runnellaw04.BreParses', WHERE WHAT IT READS IS OF BULK AT MOST 1048576: true; the input reads as it did. -/
def breParsesUptoRow : OpenClaim := { program := "ytcmipoicnonaeaa", sum := "8639e88db4420919b67eb52d5477a620e8f5c4b0a26de7c4b523ce85a7621cc2", func := "runnel/runnellaw04.BreParses", spec := "breParses", inPlace := ["internal/bytealg.IndexByteString", "internal/bytealg.IndexString"], unfollowed := true, recurses := true, named := ["internal/bytealg.MaxLen"], apart := false, narrowed := true }
def BreParsesUptoSaid : Prop := breParsesUptoRow.holds Try.pinned (OpenSpec.upto breParsesSpec)

/-- 'runnellaw04.BreShapes', WHERE WHAT IT READS IS OF BULK AT MOST 1048576: true; the input reads as it did. -/
def breShapesUptoRow : OpenClaim := { program := "ytcmipoicnonaeaa", sum := "8639e88db4420919b67eb52d5477a620e8f5c4b0a26de7c4b523ce85a7621cc2", func := "runnel/runnellaw04.BreShapes", spec := "breShapes", inPlace := ["internal/bytealg.IndexByteString", "internal/bytealg.IndexString"], unfollowed := true, recurses := true, named := ["internal/bytealg.MaxLen"], apart := false, narrowed := true }
def BreShapesUptoSaid : Prop := breShapesUptoRow.holds Try.pinned (OpenSpec.upto breShapesSpec)

/-- 'runnellaw04.BreQuotes', WHERE WHAT IT READS IS OF BULK AT MOST 1048576: true; the input reads as it did. -/
def breQuotesUptoRow : OpenClaim := { program := "ytcmipoicnonaeaa", sum := "8639e88db4420919b67eb52d5477a620e8f5c4b0a26de7c4b523ce85a7621cc2", func := "runnel/runnellaw04.BreQuotes", spec := "breQuotes", inPlace := ["internal/bytealg.IndexByteString", "internal/bytealg.IndexString"], unfollowed := true, recurses := true, named := ["internal/bytealg.MaxLen"], apart := false, narrowed := true }
def BreQuotesUptoSaid : Prop := breQuotesUptoRow.holds Try.pinned (OpenSpec.upto breQuotesSpec)

/-- 'runnellaw04.BreGroups', WHERE WHAT IT READS IS OF BULK AT MOST 1048576: true; the input reads as it did. -/
def breGroupsUptoRow : OpenClaim := { program := "ytcmipoicnonaeaa", sum := "8639e88db4420919b67eb52d5477a620e8f5c4b0a26de7c4b523ce85a7621cc2", func := "runnel/runnellaw04.BreGroups", spec := "breGroups", inPlace := ["internal/bytealg.IndexByteString", "internal/bytealg.IndexString"], unfollowed := true, recurses := true, named := ["internal/bytealg.MaxLen"], apart := false, narrowed := true }
def BreGroupsUptoSaid : Prop := breGroupsUptoRow.holds Try.pinned (OpenSpec.upto breGroupsSpec)

/-- 'runnellaw04.BreFixed', WHERE WHAT IT READS IS OF BULK AT MOST 1048576: true; the input reads as it did. -/
def breFixedUptoRow : OpenClaim := { program := "ytcmipoicnonaeaa", sum := "8639e88db4420919b67eb52d5477a620e8f5c4b0a26de7c4b523ce85a7621cc2", func := "runnel/runnellaw04.BreFixed", spec := "breFixed", inPlace := ["internal/bytealg.IndexByteString", "internal/bytealg.IndexString"], unfollowed := true, recurses := true, named := ["internal/bytealg.MaxLen"], apart := false, narrowed := true }
def BreFixedUptoSaid : Prop := breFixedUptoRow.holds Try.pinned (OpenSpec.upto breFixedSpec)

/-- 'runnellaw04.BreKeeps', WHERE WHAT IT READS IS OF BULK AT MOST 1048576: true; the input reads as it did. -/
def breKeepsUptoRow : OpenClaim := { program := "ytcmipoicnonaeaa", sum := "8639e88db4420919b67eb52d5477a620e8f5c4b0a26de7c4b523ce85a7621cc2", func := "runnel/runnellaw04.BreKeeps", spec := "breKeeps", inPlace := ["internal/bytealg.IndexByteString", "internal/bytealg.IndexString"], unfollowed := true, recurses := true, named := ["internal/bytealg.MaxLen"], apart := false, narrowed := true }
def BreKeepsUptoSaid : Prop := breKeepsUptoRow.holds Try.pinned (OpenSpec.upto breKeepsSpec)

/-- 'runnellaw06.MeasureOfs', WHERE WHAT IT READS IS OF BULK AT MOST 1048576: true; the input reads as it did. -/
def measureOfsUptoRow : OpenClaim := { program := "ytcmipoicnonaeaa", sum := "8639e88db4420919b67eb52d5477a620e8f5c4b0a26de7c4b523ce85a7621cc2", func := "runnel/runnellaw06.MeasureOfs", spec := "measureOfs", inPlace := ["internal/bytealg.IndexByteString", "internal/bytealg.IndexString"], unfollowed := true, recurses := true, named := ["internal/bytealg.MaxLen"], apart := false, narrowed := true }
def MeasureOfsUptoSaid : Prop := measureOfsUptoRow.holds Try.pinned (OpenSpec.upto measureOfsSpec)

/-- 'runnellaw06.MeasureBounds', WHERE WHAT IT READS IS OF BULK AT MOST 1048576: true; the input reads as it did. -/
def measureBoundsUptoRow : OpenClaim := { program := "ytcmipoicnonaeaa", sum := "8639e88db4420919b67eb52d5477a620e8f5c4b0a26de7c4b523ce85a7621cc2", func := "runnel/runnellaw06.MeasureBounds", spec := "measureBounds", inPlace := ["internal/bytealg.IndexByteString", "internal/bytealg.IndexString"], unfollowed := true, recurses := true, named := ["internal/bytealg.MaxLen"], apart := false, narrowed := true }
def MeasureBoundsUptoSaid : Prop := measureBoundsUptoRow.holds Try.pinned (OpenSpec.upto measureBoundsSpec)

/-- 'runnellaw06.MeasureWraps', WHERE WHAT IT READS IS OF BULK AT MOST 1048576: true; the input reads as it did. -/
def measureWrapsUptoRow : OpenClaim := { program := "ytcmipoicnonaeaa", sum := "8639e88db4420919b67eb52d5477a620e8f5c4b0a26de7c4b523ce85a7621cc2", func := "runnel/runnellaw06.MeasureWraps", spec := "measureWraps", inPlace := ["internal/bytealg.IndexByteString", "internal/bytealg.IndexString"], unfollowed := true, recurses := true, named := ["internal/bytealg.MaxLen"], apart := false, narrowed := true }
def MeasureWrapsUptoSaid : Prop := measureWrapsUptoRow.holds Try.pinned (OpenSpec.upto measureWrapsSpec)

end Rows
end Go.Proofs.Ytcmipoicnonaeaa
