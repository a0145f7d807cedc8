/-
  The document's examples of the layer client: the call says true.
-/
import Derived.Test.YtiidffblbpoijaaDoorEvClientTells
namespace Go.Proofs.YtiidffblbpoijaaDoor
open Go.RowKit Go.Ek
def quadrigalaw32_awake.f : Option Bool := some true
theorem quadrigalaw32_awake.calls (r : Bool) (w : World) (h : quadrigalaw32_awake.f = some r) : Calls Tryd.prog 5 #[] w fun e w' => e = .returned (.bool r) ∧ Below w.heap.size w w' := by
  obtain rfl := Option.some.inj h
  exact calls_of_tab (by kernel_rfl) EvClientTells.hooks Tryd.func5 (by kernel_rfl) (by kernel_rfl) (fun x hx => by cases hx) .nil EvClientTells.yes
end Go.Proofs.YtiidffblbpoijaaDoor
