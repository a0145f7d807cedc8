/-
  strconv.Itoa of small numbers.
-/
import Derived.Test.YtlicobfjeajcfaaDoorQ04x0
import Derived.Test.YtlicobfjeajcfaaDoorShelfA
import Derived.WalkKit
namespace Go.Proofs.YtlicobfjeajcfaaDoor
open Go.RowKit
/-- What strconv.Itoa gives of a number of at most two digits. -/
def strconv_Itoa_26.f (n : Int) : Option ByteArray := if 0 ≤ n ∧ n < 100 then some ⟨(Lib.decDigits n.toNat).toArray⟩ else none
theorem strconv_Itoa_26.calls (a0 : Int) (r : ByteArray) (w : World) (h : strconv_Itoa_26.f a0 = some r) : Calls Tryd.prog 26 #[.int .i64 a0] w fun e w' => e = .returned (.string r) ∧ Below w.heap.size w w' := by
  unfold strconv_Itoa_26.f at h
  split at h
  · rename_i hn
    obtain rfl := Option.some.inj h
    obtain ⟨n, rfl⟩ : ∃ n : Nat, a0 = n := ⟨a0.toNat, by omega⟩
    refine (Tryd.strconv_Itoa_small n (by omega) w).mono ?_
    rintro e w' ⟨rfl, rfl⟩
    exact ⟨rfl, Below.refl _ _⟩
  · cases h
end Go.Proofs.YtlicobfjeajcfaaDoor
