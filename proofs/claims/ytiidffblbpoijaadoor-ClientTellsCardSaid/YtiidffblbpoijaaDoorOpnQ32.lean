/-
  For each kind of struct of this print: what reads as data at its type is a value of that kind.
-/
import Derived.Test.YtiidffblbpoijaaDoorOpen
import Derived.Test.YtiidffblbpoijaaDoorQ32x0
import Derived.Test.YtiidffblbpoijaaDoorClVal
namespace Go.Proofs.YtiidffblbpoijaaDoor.Q32
open Go.RowKit Go.Proofs.YtiidffblbpoijaaDoorW.PrintWords
set_option linter.unusedVariables false
set_option linter.unusedSimpArgs false

instance : Inhabited S68 := ⟨z68⟩
def ok68 (x : S68) : Prop := (x.f0.size ≤ maxLen) ∧ ((Lit.int .i64 x.f1).wf = true)
theorem opn68 : Opn 68 k68 ok68 := by
  have h := opn_iso (f := fun x : S68 => (x.f0, x.f1)) (fun x => ⟨x.1, x.2⟩) (fun _ => rfl) (opn_struct Tryd.underlying68 (by kernel_rfl) (opnF_cons rfl (by kernel_rfl) (opn_str Tryd.underlying9) (opnF_one rfl (by kernel_rfl) (opn_int Tryd.underlying3))))
  exact h
instance : Inhabited S23 := ⟨z23⟩
def ok23 (x : S23) : Prop := True ∧ (x.f1.size ≤ maxLen)
theorem opn23 : Opn 23 k23 ok23 := by
  have h := opn_iso (f := fun x : S23 => (x.f0, x.f1)) (fun x => ⟨x.1, x.2⟩) (fun _ => rfl) (opn_struct Tryd.underlying23 (by kernel_rfl) (opnF_cons rfl (by kernel_rfl) (opn_bool Tryd.underlying4) (opnF_one rfl (by kernel_rfl) (opn_str Tryd.underlying9))))
  exact h
end Go.Proofs.YtiidffblbpoijaaDoor.Q32
