/-
  The law SpaceNone: of no book nothing comes.
-/
import Derived.Test.YtlicobfjeajcfaaSpF
namespace Go.Proofs.Ytlicobfjeajcfaa
open Go.RowKit Go.Maps
open Go.Proofs.YtlicobfjeajcfaaW.PrintWords
set_option linter.unusedVariables false
set_option linter.unusedSimpArgs false

theorem bel_step {w x y : World} (h : Below w.heap.size w x) (hb : Below x.heap.size x y) : Below w.heap.size w y := h.trans (hb.mono h.size)

set_option maxRecDepth 100000 in
set_option maxHeartbeats 1000000 in
theorem none_walk (t p : Int) (w : World) (ht : (Lit.int .i64 t).wf = true) (hp : (Lit.int .i64 p).wf = true) : Calls Try.prog 6 #[.int .i64 t, .int .i64 p] w fun e w' => e = .returned (.bool true) ∧ Below w.heap.size w w' := by
  go_enter Try.func6, Try.ntmps6
  go_wp2_with fail
  refine (take_nil _ _ _).mono ?_
  rintro e x1 ⟨rfl, rfl⟩
  go_wp2_with fail
  refine (put_nil _ _ _).mono ?_
  rintro e x1 ⟨rfl, rfl⟩
  go_wp2_with fail
  refine (done_nil _ _).mono ?_
  rintro e x1 ⟨rfl, rfl⟩
  go_wp2_with fail
  refine (need_nil _ _ _).mono ?_
  rintro e x1 ⟨rfl, rfl⟩
  go_wp2_with fail
  refine (all_nil _ _).mono ?_
  rintro e x1 ⟨rfl, rfl⟩
  have hb0 : Below w.heap.size w (((w.alloc (.cells #[.int .i64 p] 3)).alloc (.cells #[.int .i64 p] 3)).alloc (.cells #[.int .i64 t] 3)) := (((Below.refl _ _).alloc (Nat.le_refl _) _).alloc (by simp) _).alloc (by simp; omega) _
  go_wp2_with fail
  refine (page_calls p 1 (by omega) (by omega) _).mono ?_
  rintro e y1 ⟨⟨A1, c1, rfl⟩, hb⟩
  have hb1 := bel_step hb0 hb
  clear hb hb0
  go_wp2_with fail
  refine (room_nil _ _ _ _ _).mono ?_
  rintro e y2 ⟨rfl, hb⟩
  have hb2 := bel_step hb1 hb
  clear hb hb1
  go_wp2_with fail
  refine (page_calls p 1 (by omega) (by omega) _).mono ?_
  rintro e y3 ⟨⟨A2, c2, rfl⟩, hb⟩
  have hb3 := bel_step hb2 hb
  clear hb hb2
  go_wp2_with fail
  refine (may_nil _ _ _ _ _).mono ?_
  rintro e y4 ⟨rfl, hb⟩
  have hb4 := bel_step hb3 hb
  clear hb hb3
  go_wp2_with fail
  refine (awake_calls _).mono ?_
  rintro e y5 ⟨rfl, hb⟩
  have hb5 := bel_step hb4 hb
  clear hb hb4
  go_wp2_with fail
  go_ret
  exact ⟨rfl, hb5⟩

end Go.Proofs.Ytlicobfjeajcfaa
