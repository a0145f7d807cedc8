/-
  For each kind of struct of this print: what reads as data at its type is a value of that kind.
-/
import Derived.Test.YtiidffblbpoijaaDoorOpen
import Derived.Test.YtiidffblbpoijaaDoorQ33x0
namespace Go.Proofs.YtiidffblbpoijaaDoor.Q33
open Go.RowKit Go.Proofs.YtiidffblbpoijaaDoorW.PrintWords
set_option linter.unusedVariables false
set_option linter.unusedSimpArgs false

instance : Inhabited S68 := ⟨z68⟩
def ok68 (x : S68) : Prop := (x.f0.size ≤ maxLen) ∧ ((Lit.int .i64 x.f1).wf = true)
theorem opn68 : Opn 68 k68 ok68 := by
  have h := opn_iso (f := fun x : S68 => (x.f0, x.f1)) (fun x => ⟨x.1, x.2⟩) (fun _ => rfl) (opn_struct Tryd.underlying68 (by kernel_rfl) (opnF_cons rfl (by kernel_rfl) (opn_str Tryd.underlying9) (opnF_one rfl (by kernel_rfl) (opn_int Tryd.underlying3))))
  exact h
instance : Inhabited S23 := ⟨z23⟩
def ok23 (x : S23) : Prop := True ∧ (x.f1.size ≤ maxLen)
theorem opn23 : Opn 23 k23 ok23 := by
  have h := opn_iso (f := fun x : S23 => (x.f0, x.f1)) (fun x => ⟨x.1, x.2⟩) (fun _ => rfl) (opn_struct Tryd.underlying23 (by kernel_rfl) (opnF_cons rfl (by kernel_rfl) (opn_bool Tryd.underlying4) (opnF_one rfl (by kernel_rfl) (opn_str Tryd.underlying9))))
  exact h
instance : Inhabited S43 := ⟨z43⟩
def ok43 (x : S43) : Prop := ((Lit.int .i64 x.f0).wf = true) ∧ ((Lit.int .i64 x.f1).wf = true) ∧ (x.f2.size ≤ maxLen) ∧ (x.f3.size ≤ maxLen)
theorem opn43 : Opn 43 k43 ok43 := by
  have h := opn_iso (f := fun x : S43 => (x.f0, x.f1, x.f2, x.f3)) (fun x => ⟨x.1, x.2.1, x.2.2.1, x.2.2.2⟩) (fun _ => rfl) (opn_struct Tryd.underlying43 (by kernel_rfl) (opnF_cons rfl (by kernel_rfl) (opn_int Tryd.underlying3) (opnF_cons rfl (by kernel_rfl) (opn_int Tryd.underlying3) (opnF_cons rfl (by kernel_rfl) (opn_str Tryd.underlying9) (opnF_one rfl (by kernel_rfl) (opn_str Tryd.underlying9))))))
  exact h
instance : Inhabited S42 := ⟨z42⟩
def ok42 (x : S42) : Prop := ((Lit.int .i64 x.f0).wf = true) ∧ ((Lit.int .i64 x.f1).wf = true) ∧ (x.f2.size ≤ maxLen) ∧ (x.f3.size ≤ maxLen)
theorem opn42 : Opn 42 k42 ok42 := by
  have h := opn_iso (f := fun x : S42 => (x.f0, x.f1, x.f2, x.f3)) (fun x => ⟨x.1, x.2.1, x.2.2.1, x.2.2.2⟩) (fun _ => rfl) (opn_struct Tryd.underlying42 (by kernel_rfl) (opnF_cons rfl (by kernel_rfl) (opn_int Tryd.underlying3) (opnF_cons rfl (by kernel_rfl) (opn_int Tryd.underlying3) (opnF_cons rfl (by kernel_rfl) (opn_str Tryd.underlying9) (opnF_one rfl (by kernel_rfl) (opn_str Tryd.underlying9))))))
  exact h
end Go.Proofs.YtiidffblbpoijaaDoor.Q33
