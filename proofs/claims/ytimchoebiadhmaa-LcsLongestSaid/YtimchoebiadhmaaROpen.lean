/- What the arguments of this seat's laws read as. -/
import Derived.Test.YtimchoebiadhmaaX0
import Derived.Test.YtimchoebiadhmaaGOpen
import Derived.Test.YtimchoebiadhmaaChecked
import Derived.KernelRfl
namespace Go.Proofs.Ytimchoebiadhmaa.X
open Go.RowKit Go.ChangeShapes Go.WideShapes Go.Proofs.YtimchoebiadhmaaW.PrintWords Go.Proofs.Ytimchoebiadhmaa.GOpen
set_option linter.unusedVariables false
def okT9 (x : ByteArray) : Prop := x.size ≤ maxLen
def okT22 (x : List (ByteArray)) : Prop := x.length ≤ maxLen ∧ ∀ y ∈ x, okT9 y
def okT3 (x : Int) : Prop := (Lit.int .i64 x).wf = true
def okT34 (x : S34) : Prop := okT3 x.f0 ∧ okT3 x.f1
def okT31 (x : List (S34)) : Prop := x.length ≤ maxLen ∧ ∀ y ∈ x, okT34 y
theorem opens34 : Opens Try.prog 34 k34 okT34 :=
  (Opens.iso (Opens.pair (Opens.int Try.underlying3) (Opens.int Try.underlying3) Try.underlying34 (by kernel_rfl) (by kernel_rfl) (by kernel_rfl) rfl rfl) (fun x : S34 => (x.f0, x.f1)) (fun p => ⟨p.1, p.2⟩) (fun _ => rfl))
theorem laidOut : laidOutB Try.prog = true := by kernel_rfl
theorem own : ownKnob Try.prog.godebug = none := by kernel_rfl
end Go.Proofs.Ytimchoebiadhmaa.X
