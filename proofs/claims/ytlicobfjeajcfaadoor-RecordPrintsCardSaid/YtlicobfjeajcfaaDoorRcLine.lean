/-
  record.line: words with blanks between.
-/
import Derived.Test.YtlicobfjeajcfaaDoorQ04x0
import Derived.Test.YtlicobfjeajcfaaDoorShelfA
import Derived.Lib.Hide
import Derived.RangeFuncBox
import Derived.WalkKit
import Derived.WalkSpells
import Derived.WalkLawsBesides
namespace Go.Proofs.YtlicobfjeajcfaaDoor
open Go.RowKit Go.Proofs.YtlicobfjeajcfaaDoor.Q04 Go.Proofs.YtlicobfjeajcfaaDoorW.PrintWords
set_option linter.unusedVariables false
set_option linter.unusedSimpArgs false

/-- Words with blanks between. -/
def lineL (s : ByteArray) (l : List ByteArray) : List UInt8 := Lib.join ((s :: l).map (·.data.toList)) [32]
def record_line.f (s : ByteArray) (l : List ByteArray) : Option ByteArray := if l.length ≤ 1000000 ∧ (lineL s l).length ≤ 140737488355328 then some ⟨(lineL s l).toArray⟩ else none

set_option maxRecDepth 100000 in
set_option maxHeartbeats 1000000 in
theorem record_line.calls (a0 : ByteArray) (A1 : Option Addr) (c1 : Nat) (l1 : List ByteArray) (r : ByteArray) (w : World) (hr1 : Kd.C Kd.string w A1 l1.length l1) (hc1 : l1.length ≤ c1) (h : record_line.f a0 l1 = some r) :
    Calls Tryd.prog 25 #[.string a0, .slice A1 l1.length c1] w fun e w' => e = .returned (.string r) ∧ Below w.heap.size w w' := by
  unfold record_line.f at h
  split at h
  · rename_i hl
    obtain rfl := Option.some.inj h
    obtain ⟨hl1, hl2⟩ := hl
    have hown : (w.alloc (.cells #[.string a0] 9)).ownsRow w.heap.size 9 1 (.slice (some ⟨w.heap.size, 0, none⟩) 1 1) 1 [.string a0] := ⟨rfl, .inr ⟨w.heap.size, 1, #[.string a0], rfl, Nat.le_refl _, heap_alloc_new w _, Nat.le_refl _, by decide, rfl, rfl⟩⟩
    have hb0 : Below w.heap.size w (w.alloc (.cells #[.string a0] 9)) := (Below.refl _ _).alloc (Nat.le_refl _) _
    have hC := Kd.C_below hr1 hb0
    go_enter Tryd.func25, Tryd.ntmps25
    go_wp2_with (at_builtin; refine print_append_row_of (w0 := w) Value.string ByteArray.empty w.heap.size rfl (.tmp 6) (.tmp 7) 48 9 (.string ⟨#[]⟩) 16 rfl Tryd.underlying48 info9 rfl (by omega) (fun _ => rfl) _ [a0] l1 A1 _ _ rfl rfl hown (Kd.reads_of_C hC) hb0 hb0.size (by simp; omega) ?_)
    intro v1 w1 hown1 hb1 hg1 hat1
    obtain ⟨g, cap, rfl⟩ := ownsRow_succ (k := l1.length) (by simpa [Nat.add_comm] using hown1)
    have hlt := (hown1.lt g rfl)
    have hcell := hown1.cells (g := g) rfl
    have hcap : ([a0] ++ l1).length ≤ cap := by
      obtain ⟨_, h0 | ⟨g', cap', cur, h1, _, _, h2, _⟩⟩ := hown1
      · cases h0.1
      · cases h1
        exact h2
    have hJ := Tryd.strings_Join g 0 cap ([a0] ++ l1) ⟨#[32]⟩ w1 (by
      intro j x hj
      have := hcell j (.string x) (by
        show (([a0] ++ l1).map Value.string)[j]? = _
        rw [List.getElem?_map, hj]
        rfl)
      rw [show ((⟨g, 0 + j, none⟩ : Addr)) = (⟨g, 0, none⟩ : Addr).add j by unfold Addr.add; split <;> simp_all]
      exact this) hlt.2 (by simp; omega) hcap (by simpa [lineL] using hl2)
    have HJ := Lib.hid hJ
    clear hJ
    go_wp2_with (go_at_call 52; refine HJ.out.mono ?_; rintro e w' ⟨rfl, hbel⟩)
    go_ret
    exact ⟨by simp [lineL], hb1.trans (hbel.mono hb1.size)⟩
  · cases h
end Go.Proofs.YtlicobfjeajcfaaDoor
