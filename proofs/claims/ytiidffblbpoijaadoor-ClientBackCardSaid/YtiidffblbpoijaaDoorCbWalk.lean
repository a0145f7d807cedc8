/-
  ClientBack: its walk.
-/
import Derived.Test.YtiidffblbpoijaaDoorCbPure
import Derived.Test.YtiidffblbpoijaaDoorOpnQ33
namespace Go.Proofs.YtiidffblbpoijaaDoor
open Go.RowKit Go.Proofs.YtiidffblbpoijaaDoor.Q33 Go.Proofs.YtiidffblbpoijaaDoorW.PrintWords
set_option linter.unusedVariables false
theorem back_walk (A0 : Option Addr) (c0 : Nat) (l0 : List S42) (a1 : ByteArray) (w : World) (h0 : Kd.C k42 w A0 l0.length l0) (h1 : l0.length ≤ c0) (h2 : l0.length ≤ maxLen ∧ ∀ x ∈ l0, ok42 x) (h3 : a1.size ≤ 140737488351232) (ht : Tabs w) :
    Calls Tryd.prog 4 #[.slice A0 l0.length c0, .string a1] w fun e w' => e = .returned (.bool true) ∧ Below w.heap.size w w' := by
  obtain ⟨k, hk⟩ := back_true l0 a1
  exact quadrigalaw32_ClientBack.calls k A0 c0 l0 a1 true w h0 h1 hk ht
end Go.Proofs.YtiidffblbpoijaaDoor
