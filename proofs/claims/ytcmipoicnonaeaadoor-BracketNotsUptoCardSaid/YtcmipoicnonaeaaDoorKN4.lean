/- Texts of this claim, 4 of 18: Fx. -/
import Derived.Test.YtcmipoicnonaeaaDoorProg
import Derived.Below
import Derived.Deep.Draws
import Derived.Deep.AppendLies
import Derived.Maps.AppendAt
import Derived.OwnWalk
import Derived.Laws.BytesArg
import Derived.Laws.MakeOwn
import Derived.Laws.OwnMore
import Derived.Deep.OwnRows
import Derived.Tactics
import Derived.Lib.ConvBytes
import Derived.Laws.Slices
import Derived.WalkKit
import Derived.KernelRfl
import Derived.RowKit3
import Derived.Deep.LoopGhost
import Derived.Deep.QuietTactic
import Derived.BigQuiet
import Derived.WideLaws
import Derived.Deep.DeepCutAuto
import Derived.Deep.CutBlock
import Derived.Deep.RegionHeld3
import Derived.Laws.Rows
import Derived.Lib.AppendStr
import Derived.ArgAppend
import Derived.Laws.IdiomCopy
import Derived.OrdersHeld
import Derived.Laws.BitsLemmas
import Derived.RowKit
import Derived.WalkMore
import Derived.Test.YtcmipoicnonaeaaDoorKN1
import Derived.Test.YtcmipoicnonaeaaDoorKN2
import Derived.Test.YtcmipoicnonaeaaDoorKN3
section
namespace Go.Proofs.YtcmipoicnonaeaaDoor.F
open Go.RowKit Go.Proofs.YtcmipoicnonaeaaDoorW.PrintWords Go.Proofs.YtcmipoicnonaeaaDoorW.PrintLast Go.Proofs.YtcmipoicnonaeaaDoorW.PrintMore
attribute [local go_sem] max2_int min2_int max_two min_two max_three min_three max_four min_four
set_option linter.unusedVariables false
set_option linter.unusedSimpArgs false
theorem wrap_wrap (x y : Int) : wrap64 (wrap64 x + y) = wrap64 (x + y) := by unfold wrap64; omega
def errW : Option Int → Value
  | none => .nilIface
  | some c => .iface 0 (.int .i64 c)
theorem errW_none : errW none = .nilIface := rfl
theorem errW_some (c : Int) : errW (some c) = .iface 0 (.int .i64 c) := rfl
structure S7 where
  f0 : Int
  f1 : Int
  f2 : Bool
  f3 : Int
structure S8 where
  f0 : Int
  f1 : Int
  f2 : Bool
  f3 : Int
structure S13 where
  f0 : ByteArray
  f1 : Int
structure S14 where
  f0 : ByteArray
  f1 : Int
structure S23 where
  f0 : Int
  f1 : Int
  f2 : Int
  f3 : Int
structure S24 where
  f0 : Int
  f1 : Int
  f2 : Int
  f3 : Int
structure S43 where
  f0 : Int
  f1 : Int
structure S44 where
  f0 : Int
  f1 : Int
structure S49 where
  f0 : Int
  f1 : S24
  f2 : Int
  f3 : Int
  f4 : Int
  f5 : (List S49)
structure S48 where
  f0 : Int
  f1 : S24
  f2 : Int
  f3 : Int
  f4 : Int
  f5 : (List S49)
structure S55 where
  f0 : ByteArray
  f1 : Int
  f2 : Int
structure S56 where
  f0 : ByteArray
  f1 : Int
  f2 : Int
structure S58 where
  f0 : S24
  f1 : Int
  f2 : Bool
  f3 : Int
  f4 : Int
structure S59 where
  f0 : S24
  f1 : Int
  f2 : Bool
  f3 : Int
  f4 : Int
structure S76 where
  f0 : (List S49)
  f1 : (List Int)
  f2 : Int
  f3 : Int
structure S77 where
  f0 : (List S49)
  f1 : (List Int)
  f2 : Int
  f3 : Int
structure S79 where
  f0 : Bool
  f1 : Bool
  f2 : Bool
  f3 : Bool
  f4 : Bool
  f5 : Bool
  f6 : Bool
  f7 : Bool
  f8 : Bool
  f9 : Bool
structure S80 where
  f0 : (List S77)
  f1 : Int
  f2 : S79
  f3 : Int
structure S81 where
  f0 : (List S77)
  f1 : Int
  f2 : S79
  f3 : Int
structure S85 where
  f0 : Int
  f1 : Int
  f2 : S24
  f3 : Int
  f4 : Int
  f5 : Int
structure S86 where
  f0 : Int
  f1 : Int
  f2 : S24
  f3 : Int
  f4 : Int
  f5 : Int
end Go.Proofs.YtcmipoicnonaeaaDoor.F
end
