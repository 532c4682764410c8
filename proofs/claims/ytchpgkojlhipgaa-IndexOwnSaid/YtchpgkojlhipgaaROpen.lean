/- What the arguments of this seat's laws read as. -/
import Derived.Test.YtchpgkojlhipgaaX0
import Derived.Test.YtchpgkojlhipgaaGOpen
import Derived.Test.YtchpgkojlhipgaaChecked
import Derived.KernelRfl
namespace Go.Proofs.Ytchpgkojlhipgaa.X
open Go.RowKit Go.ChangeShapes Go.WideShapes Go.Proofs.YtchpgkojlhipgaaW.PrintWords Go.Proofs.Ytchpgkojlhipgaa.GOpen
set_option linter.unusedVariables false
def okT3 (x : Int) : Prop := (Lit.int .i64 x).wf = true
def okT5 (x : Int) : Prop := (Lit.int .u8 x).wf = true
def okT35 (x : List (Int)) : Prop := x.length ≤ maxLen ∧ ∀ y ∈ x, okT5 y
def okT9 (x : ByteArray) : Prop := x.size ≤ maxLen
def okT38 (x : List (ByteArray)) : Prop := x.length ≤ maxLen ∧ ∀ y ∈ x, okT9 y
def okT39 (x : List (List (ByteArray))) : Prop := x.length ≤ maxLen ∧ ∀ y ∈ x, okT38 y
def okT41 (x : S41) : Prop := okT38 x.f0 ∧ okT39 x.f1
def okT42 (x : List (Int)) : Prop := x.length ≤ maxLen ∧ ∀ y ∈ x, okT3 y
set_option maxRecDepth 100000 in
theorem opens41 : Opens Try.prog 41 k41 okT41 :=
  (Opens.iso (Opens.pair (Opens.slice (Opens.string Try.underlying9) Try.underlying38 (by kernel_rfl)) (Opens.slice (Opens.slice (Opens.string Try.underlying9) Try.underlying38 (by kernel_rfl)) Try.underlying39 (by kernel_rfl)) Try.underlying41 (by kernel_rfl) (by kernel_rfl) (by kernel_rfl) rfl rfl) (fun x : S41 => (x.f0, x.f1)) (fun p => ⟨p.1, p.2⟩) (fun _ => rfl))
theorem laidOut : laidOutB Try.prog = true := by kernel_rfl
theorem own : ownKnob Try.prog.godebug = none := by kernel_rfl
end Go.Proofs.Ytchpgkojlhipgaa.X
