/- What the arguments of this seat's laws read as. -/
import Derived.Test.YtphmnjapjalfgaaX0
import Derived.Test.YtphmnjapjalfgaaGOpen
import Derived.Test.YtphmnjapjalfgaaChecked
import Derived.KernelRfl
namespace Go.Proofs.Ytphmnjapjalfgaa.X
open Go.RowKit Go.ChangeShapes Go.WideShapes Go.Proofs.YtphmnjapjalfgaaW.PrintWords Go.Proofs.Ytphmnjapjalfgaa.GOpen
set_option linter.unusedVariables false
def okT3 (x : Int) : Prop := (Lit.int .i64 x).wf = true
def okT37 (x : S37) : Prop := okT3 x.f0 ∧ okT3 x.f1
def okT22 (x : List (S37)) : Prop := x.length ≤ maxLen ∧ ∀ y ∈ x, okT37 y
def okT31 (x : List (Int)) : Prop := x.length ≤ maxLen ∧ ∀ y ∈ x, okT3 y
set_option maxRecDepth 100000 in
theorem opens37 : Opens Try.prog 37 k37 okT37 :=
  (Opens.iso (Opens.pair (Opens.int Try.underlying3) (Opens.int Try.underlying3) Try.underlying37 (by kernel_rfl) (by kernel_rfl) (by kernel_rfl) rfl rfl) (fun x : S37 => (x.f0, x.f1)) (fun p => ⟨p.1, p.2⟩) (fun _ => rfl))
theorem laidOut : laidOutB Try.prog = true := by kernel_rfl
theorem own : ownKnob Try.prog.godebug = none := by kernel_rfl
end Go.Proofs.Ytphmnjapjalfgaa.X
