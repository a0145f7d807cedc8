/-
  For each kind of struct of this print: what reads as data at its type is a value of that kind.
-/
import Derived.Test.YtlicobfjeajcfaaOpen
import Derived.Test.YtlicobfjeajcfaaPSpaceNotesx0
namespace Go.Proofs.Ytlicobfjeajcfaa.PSpaceNotes
open Go.RowKit Go.Proofs.YtlicobfjeajcfaaW.PrintWords
set_option linter.unusedVariables false
set_option linter.unusedSimpArgs false

instance : Inhabited S69 := ⟨z69⟩
def ok69 (x : S69) : Prop := (x.f0.size ≤ maxLen) ∧ (x.f1.size ≤ maxLen)
theorem opn69 : Opn 69 k69 ok69 := by
  have h := opn_iso (f := fun x : S69 => (x.f0, x.f1)) (fun x => ⟨x.1, x.2⟩) (fun _ => rfl) (opn_struct Try.underlying69 (by kernel_rfl) (opnF_cons rfl (by kernel_rfl) (opn_str Try.underlying9) (opnF_one rfl (by kernel_rfl) (opn_str Try.underlying9))))
  exact h
instance : Inhabited S45 := ⟨z45⟩
def ok45 (x : S45) : Prop := ((Lit.int .i64 x.f0).wf = true) ∧ ((Lit.int .i64 x.f1).wf = true) ∧ (x.f2.length ≤ maxLen ∧ ∀ y ∈ x.f2, ((Lit.int .i64 y).wf = true))
theorem opn45 : Opn 45 k45 ok45 := by
  have h := opn_iso (f := fun x : S45 => (x.f0, x.f1, x.f2)) (fun x => ⟨x.1, x.2.1, x.2.2⟩) (fun _ => rfl) (opn_struct Try.underlying45 (by kernel_rfl) (opnF_cons rfl (by kernel_rfl) (opn_int Try.underlying3) (opnF_cons rfl (by kernel_rfl) (opn_int Try.underlying3) (opnF_one rfl (by kernel_rfl) (opn_slice Try.underlying43 (by kernel_rfl) (opn_int Try.underlying3))))))
  exact h
instance : Inhabited S47 := ⟨z47⟩
def ok47 (x : S47) : Prop := ((Lit.int .i64 x.f0).wf = true) ∧ ((Lit.int .i64 x.f1).wf = true) ∧ ((Lit.int .i64 x.f2).wf = true)
theorem opn47 : Opn 47 k47 ok47 := by
  have h := opn_iso (f := fun x : S47 => (x.f0, x.f1, x.f2)) (fun x => ⟨x.1, x.2.1, x.2.2⟩) (fun _ => rfl) (opn_struct Try.underlying47 (by kernel_rfl) (opnF_cons rfl (by kernel_rfl) (opn_int Try.underlying3) (opnF_cons rfl (by kernel_rfl) (opn_int Try.underlying3) (opnF_one rfl (by kernel_rfl) (opn_int Try.underlying3)))))
  exact h
end Go.Proofs.Ytlicobfjeajcfaa.PSpaceNotes
