/-
  For each kind of struct of this print: what reads as data at its type is a value of that kind.
-/
import Derived.Test.YtlicobfjeajcfaaOpen
import Derived.Test.YtlicobfjeajcfaaQ29x0
namespace Go.Proofs.Ytlicobfjeajcfaa.Q29
open Go.RowKit Go.Proofs.YtlicobfjeajcfaaW.PrintWords
set_option linter.unusedVariables false
set_option linter.unusedSimpArgs false

instance : Inhabited S77 := ⟨z77⟩
def ok77 (x : S77) : Prop := True ∧ (x.f1.size ≤ maxLen)
theorem opn77 : Opn 77 k77 ok77 := by
  have h := opn_iso (f := fun x : S77 => (x.f0, x.f1)) (fun x => ⟨x.1, x.2⟩) (fun _ => rfl) (opn_struct Try.underlying77 (by kernel_rfl) (opnF_cons rfl (by kernel_rfl) (opn_bool Try.underlying4) (opnF_one rfl (by kernel_rfl) (opn_str Try.underlying9))))
  exact h
instance : Inhabited S79 := ⟨z79⟩
def ok79 (x : S79) : Prop := ((Lit.int .i64 x.f0).wf = true) ∧ ((Lit.int .i64 x.f1).wf = true) ∧ ((Lit.int .i64 x.f2).wf = true) ∧ ((Lit.int .i64 x.f3).wf = true) ∧ ((Lit.int .i64 x.f4).wf = true) ∧ (x.f5.size ≤ maxLen) ∧ ok77 x.f6 ∧ ok77 x.f7 ∧ ((Lit.int .i64 x.f8).wf = true)
theorem opn79 : Opn 79 k79 ok79 := by
  have h := opn_iso (f := fun x : S79 => (x.f0, x.f1, x.f2, x.f3, x.f4, x.f5, x.f6, x.f7, x.f8)) (fun x => ⟨x.1, x.2.1, x.2.2.1, x.2.2.2.1, x.2.2.2.2.1, x.2.2.2.2.2.1, x.2.2.2.2.2.2.1, x.2.2.2.2.2.2.2.1, x.2.2.2.2.2.2.2.2⟩) (fun _ => rfl) (opn_struct Try.underlying79 (by kernel_rfl) (opnF_cons rfl (by kernel_rfl) (opn_int Try.underlying3) (opnF_cons rfl (by kernel_rfl) (opn_int Try.underlying3) (opnF_cons rfl (by kernel_rfl) (opn_int Try.underlying3) (opnF_cons rfl (by kernel_rfl) (opn_int Try.underlying3) (opnF_cons rfl (by kernel_rfl) (opn_int Try.underlying3) (opnF_cons rfl (by kernel_rfl) (opn_str Try.underlying9) (opnF_cons rfl (by kernel_rfl) opn77 (opnF_cons rfl (by kernel_rfl) opn77 (opnF_one rfl (by kernel_rfl) (opn_int Try.underlying3)))))))))))
  exact h
instance : Inhabited S81 := ⟨z81⟩
def ok81 (x : S81) : Prop := ((Lit.int .i64 x.f0).wf = true) ∧ ok79 x.f1
theorem opn81 : Opn 81 k81 ok81 := by
  have h := opn_iso (f := fun x : S81 => (x.f0, x.f1)) (fun x => ⟨x.1, x.2⟩) (fun _ => rfl) (opn_struct Try.underlying81 (by kernel_rfl) (opnF_cons rfl (by kernel_rfl) (opn_int Try.underlying3) (opnF_one rfl (by kernel_rfl) opn79)))
  exact h
instance : Inhabited S84 := ⟨z84⟩
def ok84 (x : S84) : Prop := ((Lit.int .i64 x.f0).wf = true) ∧ ok79 x.f1
theorem opn84 : Opn 84 k84 ok84 := by
  have h := opn_iso (f := fun x : S84 => (x.f0, x.f1)) (fun x => ⟨x.1, x.2⟩) (fun _ => rfl) (opn_struct Try.underlying84 (by kernel_rfl) (opnF_cons rfl (by kernel_rfl) (opn_int Try.underlying3) (opnF_one rfl (by kernel_rfl) opn79)))
  exact h
end Go.Proofs.Ytlicobfjeajcfaa.Q29
