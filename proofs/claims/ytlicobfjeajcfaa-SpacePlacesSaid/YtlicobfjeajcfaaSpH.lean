/-
  The document's example of the space layer, in the form in which printed texts call it.
-/
import Derived.Test.YtlicobfjeajcfaaSpF
namespace Go.Proofs.Ytlicobfjeajcfaa
open Go.RowKit

def quadrigalaw16_awake.f : Option (Bool) := some true
theorem quadrigalaw16_awake.calls (r : Bool) (w : World) (h : quadrigalaw16_awake.f = some r) :
    Calls Try.prog 8 #[] w fun e w' => e = .returned (.bool r) ∧ Below w.heap.size w w' := by
  obtain rfl : true = r := Option.some.inj h
  exact awake_calls w

end Go.Proofs.Ytlicobfjeajcfaa
