/-
  SingleNumbers: the walk, over the printed contracts.
-/
import Derived.Test.YtlicobfjeajcfaaSgPure
import Derived.Test.YtlicobfjeajcfaaOpnQ29
namespace Go.Proofs.Ytlicobfjeajcfaa
open Go.RowKit Go.Proofs.Ytlicobfjeajcfaa.Q29 Go.Proofs.YtlicobfjeajcfaaW.PrintWords

set_option linter.unusedVariables false
theorem single_walk (A : Option Addr) (c : Nat) (l : List Qr) (w : World) (hr : Kd.C k81 w A l.length l) (hc : l.length ≤ c) (ok : l.length ≤ maxLen ∧ ∀ y ∈ l, ok81 y) :
    Calls Try.prog 7 #[.slice A l.length c] w fun e w' => e = .returned (.bool true) ∧ Below w.heap.size w w' := by
  obtain ⟨k, hk⟩ := single_pure l
  exact quadrigalaw29_SingleNumbers.calls k A c l true w hr hc hk
end Go.Proofs.Ytlicobfjeajcfaa
