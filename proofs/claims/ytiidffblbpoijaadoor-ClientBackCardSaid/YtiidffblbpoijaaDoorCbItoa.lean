/-
  strconv.Itoa of any number, in a world whose table of powers is as it was laid.
-/
import Derived.Test.YtiidffblbpoijaaDoorQ33x0
import Derived.Test.YtiidffblbpoijaaDoorCbShelf
import Derived.Test.YtiidffblbpoijaaDoorCbTabs
import Derived.WalkKit
namespace Go.Proofs.YtiidffblbpoijaaDoor
open Go.RowKit Go.Sort Go.Lib Go.Proofs.YtiidffblbpoijaaDoorW.PrintWords
set_option linter.unusedVariables false
theorem below_growN (w : World) (q : Nat) (os : Array Obj) : Below w.heap.size w (grow (w.drewN q) os) :=
  ⟨rfl, rfl, rfl, by simp [grow], fun i hi => by
    show ((w.drewN q).heap ++ os)[i]? = _
    rw [Array.getElem?_append_left (by show i < w.heap.size; omega)]
    rfl⟩
/-- A number's digits, as a text. -/
def itoaB (n : Int) : ByteArray := ⟨(Lib.itoa n).toArray⟩
def strconv_Itoa_18.f (n : Int) : Option ByteArray := if -9223372036854775808 ≤ n ∧ n ≤ 9223372036854775807 then some (itoaB n) else none
theorem strconv_Itoa_18.calls (a0 : Int) (r : ByteArray) (w : World) (h : strconv_Itoa_18.f a0 = some r) (ht : Tabs w) : Calls Tryd.prog 18 #[.int .i64 a0] w fun e w' => e = .returned (.string r) ∧ Below w.heap.size w w' := by
  unfold strconv_Itoa_18.f at h
  split at h
  · rename_i hn
    obtain rfl := Option.some.inj h
    refine (Tryd.strconv_Itoa a0 hn.1 hn.2 w ht.pow).mono ?_
    rintro e w' ⟨rfl, k, os, rfl⟩
    exact ⟨rfl, below_growN w k os⟩
  · cases h
end Go.Proofs.YtiidffblbpoijaaDoor
