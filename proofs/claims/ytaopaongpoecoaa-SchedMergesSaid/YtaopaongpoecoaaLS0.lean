/- The seat's worlds: no table is listed. -/
import Derived.Test.YtaopaongpoecoaaM3
import Derived.Test.YtaopaongpoecoaaRows
import Derived.Test.YtaopaongpoecoaaProg
import Derived.WalkKit
import Derived.ProofKit
import Derived.OpenShut
set_option linter.unusedVariables false
set_option linter.unusedSimpArgs false
set_option maxRecDepth 100000
namespace Go.Proofs.Ytaopaongpoecoaa
open Go.ChangeShapes Go.WideShapes Go.ChangeAt Go.RowKit
theorem own : ownKnob Try.prog.godebug = none := by kernel_rfl
noncomputable def laidWorld (os : Os) : World := World.holding Try.prog os ⟨#[], #[], []⟩
end Go.Proofs.Ytaopaongpoecoaa
