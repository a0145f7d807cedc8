/-
  ClientTells: its walk.
-/
import Derived.Test.YtiidffblbpoijaaDoorClPure
import Derived.Test.YtiidffblbpoijaaDoorOpnQ32
namespace Go.Proofs.YtiidffblbpoijaaDoor
open Go.RowKit Go.Proofs.YtiidffblbpoijaaDoor.Q32 Go.Proofs.YtiidffblbpoijaaDoorW.PrintWords
set_option linter.unusedVariables false
theorem tells_walk (a0 : Int) (x : S23) (a2 : Int) (w : World) (h0 : (Lit.int .i64 a0).wf = true) (h1 : ok23 x) (h2 : (Lit.int .i64 a2).wf = true) (ht : Tabs w) :
    Calls Tryd.prog 3 #[.int .i64 a0, .agg #[.bool x.f0, .string x.f1], .int .i64 a2] w fun e w' => e = .returned (.bool true) ∧ Below w.heap.size w w' := by
  have hb : -9223372036854775808 ≤ a2 ∧ a2 ≤ 9223372036854775807 := by
    simpa [Lit.wf, IntKind.min, IntKind.max, IntKind.signed, IntKind.bits] using h2
  obtain ⟨k, hk⟩ := tells_law a0 a2 x.f0 x.f1 hb.1 hb.2
  exact quadrigalaw32_ClientTells.calls k a0 x.f0 x.f1 a2 true w hk ht
end Go.Proofs.YtiidffblbpoijaaDoor
