/-
  What the library's variables hold: the table of powers and the two errors of strconv, as they were laid; some number of bytes.
-/
import Derived.Test.YtiidffblbpoijaaDoorProg
import Derived.Lib.LaidTab
import Derived.LaidSub
import Derived.Below
import Derived.WalkKit
import Derived.Shelf.Strconv.Itoa1
namespace Go.Proofs.YtiidffblbpoijaaDoor
open Go.RowKit
theorem var_below {P : Program} {w w' : World} {n : String} {cs : Array Value} (h : w.var? P n = some cs) (hb : Below w.heap.size w w') : w'.var? P n = some cs := by
  unfold World.var? at h ⊢
  cases hg : P.globalNamed n with
  | none => rw [hg] at h; exact h
  | some g =>
    rw [hg] at h
    simp only [Option.bind_some] at h ⊢
    have hlt : g < w.heap.size := by
      rcases Nat.lt_or_ge g w.heap.size with h' | h'
      · exact h'
      · rw [Array.getElem?_eq_none h'] at h; cases h
    rw [hb.block g hlt]
    exact h
/-- What the library's variables hold. -/
structure Tabs (w : World) : Prop where
  pow : Lib.TabIs Tryd.prog w "internal/strconv.uint64pow10" .u64 Lib.pow10Tab
  maxLen : ∃ m, w.cell? ⟨0, 0, none⟩ = some (.int .i64 m)
  syn : ∃ tp p, w.var? Tryd.prog "strconv.ErrSyntax" = some #[.iface tp p]
  rng : ∃ tp p, w.var? Tryd.prog "strconv.ErrRange" = some #[.iface tp p]
theorem Tabs.below {w w' : World} (h : Tabs w) (hb : Below w.heap.size w w') : Tabs w' := by
  obtain ⟨h1, ⟨m, h2⟩, ⟨tp, p, h3⟩, ⟨tq, q, h4⟩⟩ := h
  refine ⟨?_, ⟨m, (hb.cell (World.block_lt_of_cell? _ _ h2)).trans h2⟩, ⟨tp, p, var_below h3 hb⟩, ⟨tq, q, var_below h4 hb⟩⟩
  unfold Lib.TabIs World.var? at h1 ⊢
  cases hg : Tryd.prog.globalNamed "internal/strconv.uint64pow10" with
  | none => rw [hg] at h1; exact h1
  | some g =>
    rw [hg] at h1
    simp only [Option.bind_some] at h1 ⊢
    have hlt : g < w.heap.size := by
      rcases Nat.lt_or_ge g w.heap.size with h' | h'
      · exact h'
      · rw [Array.getElem?_eq_none h'] at h1; cases h1
    rw [hb.block g hlt]
    exact h1
theorem Tabs.synCell {w : World} (h : Tabs w) : ∃ tp p, w.cell? ⟨1, 0, none⟩ = some (.iface tp p) := by
  obtain ⟨tp, p, h3⟩ := h.syn
  have h0 := World.var?_cell (g := 1) (by kernel_rfl) h3 0
  exact ⟨tp, p, by simpa using h0⟩
end Go.Proofs.YtiidffblbpoijaaDoor
