/- What the arguments of this seat's laws read as. -/
import Derived.Test.YtimchoebiadhmaaX0
import Derived.Test.YtimchoebiadhmaaGOpen
import Derived.Test.YtimchoebiadhmaaChecked
import Derived.KernelRfl
namespace Go.Proofs.Ytimchoebiadhmaa.X
open Go.RowKit Go.ChangeShapes Go.WideShapes Go.Proofs.YtimchoebiadhmaaW.PrintWords Go.Proofs.Ytimchoebiadhmaa.GOpen
set_option linter.unusedVariables false
def okT9 (x : ByteArray) : Prop := x.size ≤ maxLen
def okT22 (x : List (ByteArray)) : Prop := x.length ≤ maxLen ∧ ∀ y ∈ x, okT9 y
def okT3 (x : Int) : Prop := (Lit.int .i64 x).wf = true
theorem laidOut : laidOutB Try.prog = true := by kernel_rfl
theorem own : ownKnob Try.prog.godebug = none := by kernel_rfl
end Go.Proofs.Ytimchoebiadhmaa.X
