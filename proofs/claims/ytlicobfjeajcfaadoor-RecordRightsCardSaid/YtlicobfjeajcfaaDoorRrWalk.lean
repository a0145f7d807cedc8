/-
  RecordRights: the walk, from its leaves.
-/
import Derived.Test.YtlicobfjeajcfaaDoorRrGreat
import Derived.Test.YtlicobfjeajcfaaDoorRrCoreA
import Derived.Test.YtlicobfjeajcfaaDoorRrCoreB
import Derived.Test.YtlicobfjeajcfaaDoorRrCoreC
import Derived.Test.YtlicobfjeajcfaaDoorRrCoreD
namespace Go.Proofs.YtlicobfjeajcfaaDoor
open Go.RowKit Go.Proofs.YtlicobfjeajcfaaDoor.Q04 Go.Proofs.YtlicobfjeajcfaaDoorW.PrintWords
set_option linter.unusedVariables false

theorem wf64' {x : Int} (h : (Lit.int .i64 x).wf = true) : -9223372036854775808 ≤ x ∧ x ≤ 9223372036854775807 := by
  simpa [Lit.wf, IntKind.min, IntKind.max, IntKind.signed, IntKind.bits] using h
theorem rights_walk (x y : Rc) (key : ByteArray) (v : Vl) (w : World) (hx : ok25 x) (hy : ok25 y) (hkey : key.size ≤ 140737488351232) (hv : ok23 v) :
    Calls Tryd.prog 4 #[.agg #[.int .i64 x.f0, .int .i64 x.f1, .int .i64 x.f2, .int .i64 x.f3, .int .i64 x.f4, .string x.f5, .bool x.f6.f0, .string x.f6.f1, .bool x.f7.f0, .string x.f7.f1, .int .i64 x.f8], .agg #[.int .i64 y.f0, .int .i64 y.f1, .int .i64 y.f2, .int .i64 y.f3, .int .i64 y.f4, .string y.f5, .bool y.f6.f0, .string y.f6.f1, .bool y.f7.f0, .string y.f7.f1, .int .i64 y.f8], .string key, .agg #[.bool v.f0, .string v.f1]] w fun e w' => e = .returned (.bool true) ∧ Below w.heap.size w w' := by
  have hx1 := wf64' hx.2.1
  have hy1 := wf64' hy.2.1
  cases gx : greatB x with
  | true => exact rights_great0 x y key v w gx
  | false =>
    cases gy : greatB y with
    | true => exact rights_great1 x y key v w gx gy
    | false =>
      cases gk : decide ((key.size : Int) > 100) with
      | true => exact rights_great2 x y key v w gx gy gk
      | false =>
        cases gv : decide ((v.f1.size : Int) > 100) with
        | true => exact rights_great3 x y key v w gx gy gk gv
        | false =>
          cases rx : rightB x with
          | true =>
            cases vx : valB x.f6 with
            | true => exact rights_core_true_true x y key v w gx gy gk gv gv hx1 hy1 rx vx
            | false => exact rights_core_true_false x y key v w gx gy gk gv gv hx1 hy1 rx vx
          | false =>
            cases vx : valB x.f6 with
            | true => exact rights_core_false_true x y key v w gx gy gk gv gv hx1 hy1 rx vx
            | false => exact rights_core_false_false x y key v w gx gy gk gv gv hx1 hy1 rx vx
end Go.Proofs.YtlicobfjeajcfaaDoor
