/- What the arguments of this seat's laws read as. -/
import Derived.Test.YtbcpaojciephmaaX0
import Derived.Test.YtbcpaojciephmaaGOpen
import Derived.Test.YtbcpaojciephmaaChecked
import Derived.KernelRfl
namespace Go.Proofs.Ytbcpaojciephmaa.X
open Go.RowKit Go.ChangeShapes Go.WideShapes Go.Proofs.YtbcpaojciephmaaW.PrintWords Go.Proofs.Ytbcpaojciephmaa.GOpen
set_option linter.unusedVariables false
def okT9 (x : ByteArray) : Prop := x.size ≤ maxLen
def okT22 (x : List (ByteArray)) : Prop := x.length ≤ maxLen ∧ ∀ y ∈ x, okT9 y
def okT23 (x : List (List (ByteArray))) : Prop := x.length ≤ maxLen ∧ ∀ y ∈ x, okT22 y
def okT25 (x : S25) : Prop := okT22 x.f0 ∧ okT23 x.f1
def okT3 (x : Int) : Prop := (Lit.int .i64 x).wf = true
def okT26 (x : List (Int)) : Prop := x.length ≤ maxLen ∧ ∀ y ∈ x, okT3 y
def okT29 (x : List (S25)) : Prop := x.length ≤ maxLen ∧ ∀ y ∈ x, okT25 y
set_option maxRecDepth 100000 in
theorem opens25 : Opens Try.prog 25 k25 okT25 :=
  (Opens.iso (Opens.pair (Opens.slice (Opens.string Try.underlying9) Try.underlying22 (by kernel_rfl)) (Opens.slice (Opens.slice (Opens.string Try.underlying9) Try.underlying22 (by kernel_rfl)) Try.underlying23 (by kernel_rfl)) Try.underlying25 (by kernel_rfl) (by kernel_rfl) (by kernel_rfl) rfl rfl) (fun x : S25 => (x.f0, x.f1)) (fun p => ⟨p.1, p.2⟩) (fun _ => rfl))
theorem laidOut : laidOutB Try.prog = true := by kernel_rfl
theorem own : ownKnob Try.prog.godebug = none := by kernel_rfl
end Go.Proofs.Ytbcpaojciephmaa.X
