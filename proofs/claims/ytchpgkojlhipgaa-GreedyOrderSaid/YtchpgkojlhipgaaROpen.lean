/- What the arguments of this seat's laws read as. -/
import Derived.Test.YtchpgkojlhipgaaX0
import Derived.Test.YtchpgkojlhipgaaGOpen
import Derived.Test.YtchpgkojlhipgaaChecked
import Derived.KernelRfl
namespace Go.Proofs.Ytchpgkojlhipgaa.X
open Go.RowKit Go.ChangeShapes Go.WideShapes Go.Proofs.YtchpgkojlhipgaaW.PrintWords Go.Proofs.Ytchpgkojlhipgaa.GOpen
set_option linter.unusedVariables false
def okT3 (x : Int) : Prop := (Lit.int .i64 x).wf = true
def okT24 (x : S24) : Prop := okT3 x.f0 ∧ okT3 x.f1 ∧ okT3 x.f2
set_option maxRecDepth 100000 in
theorem opens24 : Opens Try.prog 24 k24 okT24 :=
  (Opens.iso (Opens.triple (Opens.int Try.underlying3) (Opens.int Try.underlying3) (Opens.int Try.underlying3) Try.underlying24 (by kernel_rfl) (by kernel_rfl) (by kernel_rfl) (by kernel_rfl) rfl rfl rfl) (fun x : S24 => (x.f0, x.f1, x.f2)) (fun p => ⟨p.1, p.2.1, p.2.2⟩) (fun _ => rfl))
theorem laidOut : laidOutB Try.prog = true := by kernel_rfl
theorem own : ownKnob Try.prog.godebug = none := by kernel_rfl
end Go.Proofs.Ytchpgkojlhipgaa.X
