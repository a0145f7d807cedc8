/-
  A value that may be missing, as a kind of data.
-/
import Derived.Test.YtiidffblbpoijaaDoorQ32x0
namespace Go.Proofs.YtiidffblbpoijaaDoor.Q32
open Go.RowKit Go.Proofs.YtiidffblbpoijaaDoorW.PrintWords
structure S23 where
  f0 : Bool
  f1 : ByteArray
def z23 : S23 := ⟨false, ⟨#[]⟩⟩
def k23 : Kd S23 := Kd.iso (Kd.pair Kd.bool Kd.string) (fun x : S23 => (x.f0, x.f1))
theorem k23_open {w : World} {x : S23} {cs : List Value} (h : k23.K w x cs) : cs = [.bool x.f0, .string x.f1] := by
  obtain ⟨_, _, rfl, rfl, rfl⟩ := h
  exact rfl
end Go.Proofs.YtiidffblbpoijaaDoor.Q32
