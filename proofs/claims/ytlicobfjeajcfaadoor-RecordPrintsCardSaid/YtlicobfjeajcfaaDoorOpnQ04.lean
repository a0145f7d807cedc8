/-
  For each kind of struct of this print: what reads as data at its type is a value of that kind.
-/
import Derived.Test.YtlicobfjeajcfaaDoorOpen
import Derived.Test.YtlicobfjeajcfaaDoorQ04x0
namespace Go.Proofs.YtlicobfjeajcfaaDoor.Q04
open Go.RowKit Go.Proofs.YtlicobfjeajcfaaDoorW.PrintWords
set_option linter.unusedVariables false
set_option linter.unusedSimpArgs false

instance : Inhabited S23 := ⟨z23⟩
def ok23 (x : S23) : Prop := True ∧ (x.f1.size ≤ maxLen)
theorem opn23 : Opn 23 k23 ok23 := by
  have h := opn_iso (f := fun x : S23 => (x.f0, x.f1)) (fun x => ⟨x.1, x.2⟩) (fun _ => rfl) (opn_struct Tryd.underlying23 (by kernel_rfl) (opnF_cons rfl (by kernel_rfl) (opn_bool Tryd.underlying4) (opnF_one rfl (by kernel_rfl) (opn_str Tryd.underlying9))))
  exact h
instance : Inhabited S25 := ⟨z25⟩
def ok25 (x : S25) : Prop := ((Lit.int .i64 x.f0).wf = true) ∧ ((Lit.int .i64 x.f1).wf = true) ∧ ((Lit.int .i64 x.f2).wf = true) ∧ ((Lit.int .i64 x.f3).wf = true) ∧ ((Lit.int .i64 x.f4).wf = true) ∧ (x.f5.size ≤ maxLen) ∧ ok23 x.f6 ∧ ok23 x.f7 ∧ ((Lit.int .i64 x.f8).wf = true)
theorem opn25 : Opn 25 k25 ok25 := by
  have h := opn_iso (f := fun x : S25 => (x.f0, x.f1, x.f2, x.f3, x.f4, x.f5, x.f6, x.f7, x.f8)) (fun x => ⟨x.1, x.2.1, x.2.2.1, x.2.2.2.1, x.2.2.2.2.1, x.2.2.2.2.2.1, x.2.2.2.2.2.2.1, x.2.2.2.2.2.2.2.1, x.2.2.2.2.2.2.2.2⟩) (fun _ => rfl) (opn_struct Tryd.underlying25 (by kernel_rfl) (opnF_cons rfl (by kernel_rfl) (opn_int Tryd.underlying3) (opnF_cons rfl (by kernel_rfl) (opn_int Tryd.underlying3) (opnF_cons rfl (by kernel_rfl) (opn_int Tryd.underlying3) (opnF_cons rfl (by kernel_rfl) (opn_int Tryd.underlying3) (opnF_cons rfl (by kernel_rfl) (opn_int Tryd.underlying3) (opnF_cons rfl (by kernel_rfl) (opn_str Tryd.underlying9) (opnF_cons rfl (by kernel_rfl) opn23 (opnF_cons rfl (by kernel_rfl) opn23 (opnF_one rfl (by kernel_rfl) (opn_int Tryd.underlying3)))))))))))
  exact h
end Go.Proofs.YtlicobfjeajcfaaDoor.Q04
