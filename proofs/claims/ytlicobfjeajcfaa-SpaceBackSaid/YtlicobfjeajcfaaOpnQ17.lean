/-
  For each kind of struct of this print: what reads as data at its type is a value of that kind.
-/
import Derived.Test.YtlicobfjeajcfaaOpen
import Derived.Test.YtlicobfjeajcfaaQ17x0
namespace Go.Proofs.Ytlicobfjeajcfaa.Q17
open Go.RowKit Go.Proofs.YtlicobfjeajcfaaW.PrintWords
set_option linter.unusedVariables false
set_option linter.unusedSimpArgs false

instance : Inhabited S69 := ⟨z69⟩
def ok69 (x : S69) : Prop := (x.f0.size ≤ maxLen) ∧ (x.f1.size ≤ maxLen)
theorem opn69 : Opn 69 k69 ok69 := by
  have h := opn_iso (f := fun x : S69 => (x.f0, x.f1)) (fun x => ⟨x.1, x.2⟩) (fun _ => rfl) (opn_struct Try.underlying69 (by kernel_rfl) (opnF_cons rfl (by kernel_rfl) (opn_str Try.underlying9) (opnF_one rfl (by kernel_rfl) (opn_str Try.underlying9))))
  exact h
instance : Inhabited S30 := ⟨z30⟩
def ok30 (x : S30) : Prop := ((Lit.int .u8 x.f0).wf = true) ∧ True
theorem opn30 : Opn 30 k30 ok30 := by
  have h := opn_iso (f := fun x : S30 => (x.f0, x.f1)) (fun x => ⟨x.1, x.2⟩) (fun _ => rfl) (opn_struct Try.underlying30 (by kernel_rfl) (opnF_cons rfl (by kernel_rfl) (opn_int Try.underlying5) (opnF_one rfl (by kernel_rfl) (opn_bool Try.underlying4))))
  exact h
end Go.Proofs.Ytlicobfjeajcfaa.Q17
