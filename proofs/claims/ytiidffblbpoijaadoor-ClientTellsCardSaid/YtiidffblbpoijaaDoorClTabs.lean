/-
  What the library's variables hold: the table of powers, as it was laid.
-/
import Derived.Test.YtiidffblbpoijaaDoorProg
import Derived.Lib.LaidTab
import Derived.LaidSub
import Derived.Below
import Derived.WalkKit
import Derived.Shelf.Strconv.Itoa1
namespace Go.Proofs.YtiidffblbpoijaaDoor
open Go.RowKit
/-- The table of powers is as it was laid. -/
def Tabs (w : World) : Prop := Lib.TabIs Tryd.prog w "internal/strconv.uint64pow10" .u64 Lib.pow10Tab
theorem Tabs.below {w w' : World} (h : Tabs w) (hb : Below w.heap.size w w') : Tabs w' := by
  unfold Tabs Lib.TabIs World.var? at h ⊢
  cases hg : Tryd.prog.globalNamed "internal/strconv.uint64pow10" with
  | none => rw [hg] at h; exact h
  | some g =>
    rw [hg] at h
    simp only [Option.bind_some] at h ⊢
    have hlt : g < w.heap.size := by
      rcases Nat.lt_or_ge g w.heap.size with h' | h'
      · exact h'
      · rw [Array.getElem?_eq_none h'] at h; cases h
    rw [hb.block g hlt]
    exact h
end Go.Proofs.YtiidffblbpoijaaDoor
