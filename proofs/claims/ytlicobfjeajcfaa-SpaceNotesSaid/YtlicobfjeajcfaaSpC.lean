/-
  The space layer: the sum of all needs, and what hangs on it.
-/
import Derived.Test.YtlicobfjeajcfaaSpB
namespace Go.Proofs.Ytlicobfjeajcfaa
open Go.RowKit Go.Maps
set_option linter.unusedVariables false
set_option linter.unusedSimpArgs false

theorem wrap_add (a b : Int) : wrap64 (wrap64 a + b) = wrap64 (a + b) := by unfold wrap64; omega

def AllRel (B r N : Nat) (D : DataW Unit) (F : Int → Int → Int) (p : Int) (w wr : World) (acc : Int) : Prop :=
  ∃ left cnt, wr.ranges Try.prog 3 bookR B r N D left cnt ∧ acc = wrap64 (sumL D left (fun t => F t p)) ∧ Below w.heap.size w wr

theorem AllRel.start {B r N : Nat} {D : DataW Unit} {F : Int → Int → Int} {p : Int} {w wr : World} {cnt : Nat} (h : wr.ranges Try.prog 3 bookR B r N D (Maps.has D) cnt) (hb : Below w.heap.size w wr) : AllRel B r N D F p w wr 0 := by
  refine ⟨_, _, h, ?_, hb⟩
  rw [sumL_start (h.owns.canon kint)]
  simp [wrap64]

theorem bookKey (key : Value) (kl : Lit) (h : keyOf Try.prog 3 key = some kl) : ∃ x, key = Value.int .i64 x := by
  obtain ⟨x, rfl, _⟩ := keyOf_int_inv Try.underlying3 h
  exact ⟨x, rfl⟩
theorem bookElem (v : Value) (y : DataW Unit × List MemPlace) (h : bookR v = some y) : ∃ r : Option Nat, v = Value.agg #[.map r] := by
  rcases bookR_inv (d := y.1) (ps := y.2) h with ⟨rfl, _⟩ | ⟨b, rfl, _⟩
  · exact ⟨_, rfl⟩
  · exact ⟨_, rfl⟩

set_option maxRecDepth 100000 in
set_option maxHeartbeats 1000000 in
theorem all_rep {w : World} {base sb N B : Nat} {D : DataW Unit} {F : Int → Int → Int} (h : Rep w base sb N B D F) (p : Int) (hp : (Lit.int .i64 p).wf = true) :
    Calls Try.prog 15 #[.pointer (some ⟨sb, 0, none⟩), .int .i64 p] w fun e w' => e = .returned (.int .i64 (wrap64 (sumD D (fun t => F t p)))) ∧ Below w.heap.size w w' := by
  have hc := h.cell
  have hown := h.own
  go_enter Try.func15, Try.ntmps15
  go_wp2_with (at_range; refine wpList_range_own _ rfl _ 64 rfl 3 74 kint Try.underlying64 _ B N D rfl hown ?_)
  intro w0 hrg0 hg0 hs0
  go_wp2
  go_loopw [5] (fun v wr => ∃ acc : Int, v = .int .i64 acc ∧ AllRel B w.heap.size N D F p w wr acc) (fun _ wr => wr.rangeLeft B w.heap.size)
  case atStart => exact ⟨0, rfl, AllRel.start hrg0 ⟨hg0.os, hg0.tape, hg0.output, hg0.size, fun i hi => hg0.block i hi (by simp)⟩⟩
  case round =>
    obtain ⟨acc, rfl, left, cnt, hrg, hacc, hbw⟩ := hrel
    have Hacc := Lib.hid hacc
    clear hacc
    go_wp2_with (at_next; refine wpList_next_ranges _ rfl _ rfl 3 kint bookR (Value.int .i64) (fun r : Option Nat => Value.agg #[.map r]) bookKey bookElem B w.heap.size N _ _ _ rfl hrg ?_ ?_)
    · intro _ hl0
      go_wp2
      go_ret
      exact ⟨by rw [Hacc.out, sumL_end _ hl0]; rfl, hbw⟩
    · intro x c kl y ps w1 cnt1 hkx hlx hRc hat hrg1 hlt hg1 hs1 hen
      have hkx2 : keyOf Try.prog 3 (Value.int .i64 x) = some kl := hkx
      obtain ⟨x', ex, rfl, hwx⟩ := keyOf_int_inv Try.underlying3 hkx2
      cases ex
      have hD := (hrg.owns.canon kint)
      have hhas : Maps.has D (.int .i64 x) = true := has_true_of_atKey (y := y) hat
      obtain ⟨b, hb⟩ := h.present x hwx hhas
      obtain rfl : c = some b := by
        have e := hat .nil
        unfold blk at hb
        rw [hb] at e
        rcases bookR_inv hRc with ⟨_, e2⟩ | ⟨b', e1, e2⟩
        · rw [← e] at e2
          cases e2
        · rw [← e] at e2
          simp only [DataW.lit.injEq, Lit.int.injEq, true_and] at e2
          obtain rfl : b = b' := by omega
          simpa using e1
      have hin := (h.inner x b hwx hb).1
      have hbw1 : Below w.heap.size w w1 := hbw.grown hg1 hbw.size (fun k hk => by cases hk; exact Nat.le_refl _)
      have hin1 : IM w1 b N (F x) := hin.blocks (hbw1.block _ hin.lt)
      have hin2 : IM (w1.alloc (.cells #[.map (some b)] 74)) b N (F x) := hin1.kept (World.grownBy_alloc _ _ none) (by simp)
      have hstep := Lib.hid (sumL_step hD (fun t => F t p) hlx hhas)
      have hrg2 := hrg1.alloc (.cells #[.map (some b)] 74)
      have hbw2 : Below w.heap.size w (w1.alloc (.cells #[.map (some b)] 74)) := hbw1.alloc hbw1.size _
      clear hin hin1 hb hhas hD hbw1 hRc hat
      go_wp2_with (go_at_call 29; refine (of_im _ _ _ _ _ hin2 hp).mono ?_; rintro e w' ⟨rfl, hbel⟩)
      go_roundw
      case rel => exact ⟨_, rfl, _, cnt1, hrg2.kept (grown_of_below hbel) (by simp) (by simp), by rw [hstep.out, Hacc.out, wrap_add], hbw2.trans (hbel.mono hbw2.size)⟩
      case measure =>
        rw [(hrg2.kept (grown_of_below hbel) (by simp) (by simp)).left_eq, hrg.left_eq]
        omega

/-- What is left of a page. -/
def leftV (D : DataW Unit) (F : Int → Int → Int) (t p n : Int) : Int := IntKind.i64.wrap (IntKind.i64.wrap (IntKind.i64.wrap (8 - n) - wrap64 (sumD D (fun t => F t p))) + F t p)
theorem wrap_eq (x : Int) : IntKind.i64.wrap x = wrap64 x := by unfold wrap64; exact IntKind.wrap_i64 x

/-- What holds while a page's room is reckoned. -/
def LX (w : World) (base sb N B : Nat) (D : DataW Unit) (F : Int → Int → Int) (w' : World) : Prop := Rep w' base sb N B D F ∧ Below w.heap.size w w' ∧ w.heap.size < w'.heap.size

theorem LX.start {w : World} {base sb N B : Nat} {D : DataW Unit} {F : Int → Int → Int} (h : Rep w base sb N B D F) (o : Obj) : LX w base sb N B D F (w.alloc o) :=
  ⟨h.below ((Below.refl _ _).alloc (Nat.le_refl _) _), (Below.refl _ _).alloc (Nat.le_refl _) _, by simp⟩

theorem LX.keep {w w1 w2 : World} {base sb N B : Nat} {D : DataW Unit} {F : Int → Int → Int} {x y : Value} {i j : Nat} (hb : Below w1.heap.size w1 w2)
    (h0 : w1.cell? ⟨w.heap.size, i, none⟩ = some x ∧ w1.cell? ⟨w.heap.size, j, none⟩ = some y ∧ LX w base sb N B D F w1) :
    w2.cell? ⟨w.heap.size, i, none⟩ = some x ∧ w2.cell? ⟨w.heap.size, j, none⟩ = some y ∧ LX w base sb N B D F w2 :=
  have h := h0.2.2
  ⟨(hb.cell (p := ⟨w.heap.size, i, none⟩) h.2.2).trans h0.1, (hb.cell (p := ⟨w.heap.size, j, none⟩) h.2.2).trans h0.2.1, h.1.below hb, h.2.1.trans (hb.mono (Nat.le_of_lt h.2.2)), Nat.lt_of_lt_of_le h.2.2 hb.size⟩
theorem LX.all {w w1 : World} {base sb N B : Nat} {D : DataW Unit} {F : Int → Int → Int} {p q : Prop} (h : p ∧ q ∧ LX w base sb N B D F w1) : Below w.heap.size w w1 := h.2.2.2.1
theorem LX.drew {w w1 : World} {base sb N B : Nat} {D : DataW Unit} {F : Int → Int → Int} (h : LX w base sb N B D F w1) : LX w base sb N B D F w1.drew :=
  ⟨h.1.below ((Below.refl _ _).drew), h.2.1.drew, h.2.2⟩
theorem LX.rep {w w1 : World} {base sb N B : Nat} {D : DataW Unit} {F : Int → Int → Int} {p q : Prop} (h : p ∧ q ∧ LX w base sb N B D F w1) : Rep w1 base sb N B D F := h.2.2.1

set_option maxRecDepth 100000 in
set_option maxHeartbeats 1000000 in
theorem left_rep {w : World} {base sb N B : Nat} {D : DataW Unit} {F : Int → Int → Int} (h : Rep w base sb N B D F) (t p g : Int) (A : Option Addr) (n c : Nat) (ht : (Lit.int .i64 t).wf = true) (hp : (Lit.int .i64 p).wf = true) (hn : (n : Int) ≤ 1000) :
    Calls Try.prog 28 #[.pointer (some ⟨sb, 0, none⟩), .int .i64 t, .agg #[.int .i64 p, .int .i64 g, .slice A n c]] w fun e w' => e = .returned (.int .i64 (leftV D F t p n)) ∧ Below w.heap.size w w' := by
  have h0 := LX.start h (.cells #[.int .i64 p, .int .i64 g, .slice A n c] 35)
  go_enter Try.func28, Try.ntmps28
  go_wp2
  go_region_held3 (fun w' => w'.cell? ⟨w.heap.size, 0, none⟩ = some (.int .i64 p) ∧ w'.cell? ⟨w.heap.size, 2, none⟩ = some (.slice A n c) ∧ LX w base sb N B D F w') (first | (exact ⟨by simp, by simp, LX.drew h0⟩) | (exact LX.keep (by assumption) (by assumption))) (first | (go_at_call 15; refine (all_rep (LX.rep (by assumption)) p hp).mono ?_; rintro e w' ⟨rfl, hbel⟩) | (go_at_call 18; refine (need_rep (LX.rep (by assumption)) t p ht hp).mono ?_; rintro e w' ⟨rfl, hbel⟩))
  go_wp2
  go_ret
  have hx := LX.all (by assumption)
  exact ⟨rfl, hx⟩

set_option maxRecDepth 100000 in
set_option maxHeartbeats 1000000 in
theorem room_rep {w : World} {base sb N B : Nat} {D : DataW Unit} {F : Int → Int → Int} (h : Rep w base sb N B D F) (t p g : Int) (A : Option Addr) (n c : Nat) (ht : (Lit.int .i64 t).wf = true) (hp : (Lit.int .i64 p).wf = true) (hn : (n : Int) ≤ 1000) :
    Calls Try.prog 19 #[.pointer (some ⟨sb, 0, none⟩), .int .i64 t, .agg #[.int .i64 p, .int .i64 g, .slice A n c]] w fun e w' => e = .returned (.int .i64 (if leftV D F t p n < 0 then 0 else leftV D F t p n)) ∧ Below w.heap.size w w' := by
  have h0 := LX.start h (.cells #[.int .i64 p, .int .i64 g, .slice A n c] 35)
  by_cases hl : leftV D F t p n < 0
  all_goals
    have Hl := Lib.hid hl
    go_enter Try.func19, Try.ntmps19
    go_wp2_with (go_at_call 28; refine (left_rep h0.1 t p g A n c ht hp hn).mono ?_; rintro e w' ⟨rfl, hbel⟩)
    go_ret
    exact ⟨rfl, h0.2.1.trans (hbel.mono (Nat.le_of_lt h0.2.2))⟩

theorem LX.keep3 {w w1 w2 : World} {base sb N B : Nat} {D : DataW Unit} {F : Int → Int → Int} {x y z : Value} {i j k : Nat} (hb : Below w1.heap.size w1 w2)
    (h0 : w1.cell? ⟨w.heap.size, i, none⟩ = some x ∧ w1.cell? ⟨w.heap.size, j, none⟩ = some y ∧ w1.cell? ⟨w.heap.size, k, none⟩ = some z ∧ LX w base sb N B D F w1) :
    w2.cell? ⟨w.heap.size, i, none⟩ = some x ∧ w2.cell? ⟨w.heap.size, j, none⟩ = some y ∧ w2.cell? ⟨w.heap.size, k, none⟩ = some z ∧ LX w base sb N B D F w2 :=
  have h := h0.2.2.2
  ⟨(hb.cell (p := ⟨w.heap.size, i, none⟩) h.2.2).trans h0.1, (hb.cell (p := ⟨w.heap.size, j, none⟩) h.2.2).trans h0.2.1, (hb.cell (p := ⟨w.heap.size, k, none⟩) h.2.2).trans h0.2.2.1, h.1.below hb, h.2.1.trans (hb.mono (Nat.le_of_lt h.2.2)), Nat.lt_of_lt_of_le h.2.2 hb.size⟩
theorem LX.all3 {w w1 : World} {base sb N B : Nat} {D : DataW Unit} {F : Int → Int → Int} {p q r : Prop} (h : p ∧ q ∧ r ∧ LX w base sb N B D F w1) : Below w.heap.size w w1 := h.2.2.2.2.1
theorem LX.rep3 {w w1 : World} {base sb N B : Nat} {D : DataW Unit} {F : Int → Int → Int} {p q r : Prop} (h : p ∧ q ∧ r ∧ LX w base sb N B D F w1) : Rep w1 base sb N B D F := h.2.2.2.1

/-- May a transaction put one more? -/
def mayV (D : DataW Unit) (F : Int → Int → Int) (t p n : Int) : Bool :=
  decide (IntKind.i64.wrap (1 + (if IntKind.i64.wrap (F t p - 1) < 0 then 0 else IntKind.i64.wrap (F t p - 1))) ≤ leftV D F t p n)

set_option maxRecDepth 100000 in
set_option maxHeartbeats 1000000 in
theorem may_rep {w : World} {base sb N B : Nat} {D : DataW Unit} {F : Int → Int → Int} (h : Rep w base sb N B D F) (t p g : Int) (A : Option Addr) (n c : Nat) (ht : (Lit.int .i64 t).wf = true) (hp : (Lit.int .i64 p).wf = true) (hn : (n : Int) ≤ 1000) :
    Calls Try.prog 12 #[.pointer (some ⟨sb, 0, none⟩), .int .i64 t, .agg #[.int .i64 p, .int .i64 g, .slice A n c]] w fun e w' => e = .returned (.bool (mayV D F t p n)) ∧ Below w.heap.size w w' := by
  have h0 := LX.start h (.cells #[.int .i64 p, .int .i64 g, .slice A n c] 35)
  by_cases hl : IntKind.i64.wrap (F t p - 1) < 0
  all_goals
    have Hl := Lib.hid hl
    go_enter Try.func12, Try.ntmps12
    go_wp2
    go_region_held3 (fun w' => w'.cell? ⟨w.heap.size, 0, none⟩ = some (.int .i64 p) ∧ w'.cell? ⟨w.heap.size, 1, none⟩ = some (.int .i64 g) ∧ w'.cell? ⟨w.heap.size, 2, none⟩ = some (.slice A n c) ∧ LX w base sb N B D F w') (first | assumption | (exact ⟨by simp, by simp, by simp, LX.drew h0⟩) | (exact LX.keep3 (by assumption) (by assumption))) (first | (go_at_call 28; refine (left_rep (LX.rep3 (by assumption)) t p g A n c ht hp hn).mono ?_; rintro e w' ⟨rfl, hbel⟩) | (go_at_call 18; refine (need_rep (LX.rep3 (by assumption)) t p ht hp).mono ?_; rintro e w' ⟨rfl, hbel⟩))
    go_wp2
    go_ret
    have hx := LX.all3 (by assumption)
    have hz := Hl.out
    refine ⟨?_, hx⟩
    unfold mayV
    first
      | (rw [if_pos hz]; rfl)
      | (rw [if_neg (by omega)]; rfl)

end Go.Proofs.Ytlicobfjeajcfaa
