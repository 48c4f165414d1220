/- Texts of this claim, 19 of 19: PureSets, SetRow. -/
import Derived.Laws.BitsAllLaws
import Derived.Lib.Zigzag
import Derived.ProofKit
import Derived.OpenShut
import Derived.ChangeOld
import Derived.Test.YtcmipoicnonaeaaDoorKF6
section
namespace Go.Proofs.YtcmipoicnonaeaaDoor.F
open Go.RowKit Go.Proofs.YtcmipoicnonaeaaDoorW.PrintWords
set_option linter.unusedVariables false
set_option linter.unusedSimpArgs false
end Go.Proofs.YtcmipoicnonaeaaDoor.F
end
section
namespace Go.Proofs.YtcmipoicnonaeaaDoor.F
open Go.ChangeShapes Go.WideShapes Go.ChangeAt Go.RowKit
set_option linter.unusedVariables false
section
variable {H : Type} {enc : TypeId × Value → H} {P : Program} {k e : TypeId} {W : World} {base : Nat} {sp : Nat → Bool} {held : Bool}
end
end Go.Proofs.YtcmipoicnonaeaaDoor.F
end
