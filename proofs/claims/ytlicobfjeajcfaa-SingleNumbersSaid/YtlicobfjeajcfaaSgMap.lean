/-
  Records as one log: the map of their new numbers, and its one look-up.
-/
import Derived.Test.YtlicobfjeajcfaaRows
import Derived.Test.YtlicobfjeajcfaaWWords
import Derived.WalkKit
import Derived.WalkSpells
import Derived.WalkLawsBesides
import Derived.Maps.Own
import Derived.Maps.OwnOps
import Derived.Maps.Views
import Derived.Maps.Ext
import Derived.DeepKeys4
import Derived.Lib.Hide
import Derived.RegionTactic
import Derived.BigRegion
import Derived.Deep.RegionHeld3
import Derived.Outline
namespace Go.Proofs.Ytlicobfjeajcfaa
open Go.RowKit Go.Maps
open Go.Proofs.YtlicobfjeajcfaaW.PrintWords
set_option linter.unusedVariables false
set_option linter.unusedSimpArgs false

set_option maxRecDepth 100000 in
theorem plOut : laidOutB Try.prog = true := by kernel_rfl
set_option maxRecDepth 100000 in
theorem plRow : (92 : TypeId) < Try.prog.types.size := of_decide_eq_true (by kernel_rfl)
set_option maxRecDepth 100000 in
theorem plWide : (match Try.prog.underlying 92 with | some (.array _ _) | some (.struct _) => true | _ => false) = true := by rw [Try.underlying92]
set_option maxRecDepth 100000 in
theorem kpl : Keyed Try.prog 92 := Keyed.of_law (deep_law_laid plOut (m := 2) (by omega) plRow (by kernel_rfl) plWide)
/-- A place as a key. -/
def plK (t g : Int) : Lit := .string (keyBytes [.int .i64 t, .int .i64 g])
set_option maxRecDepth 100000 in
theorem plType : Try.prog.keyType 92 = true := by kernel_rfl
set_option maxRecDepth 100000 in
theorem plCells : Try.prog.cellsOf 92 = 2 := by kernel_rfl
set_option maxRecDepth 100000 in
theorem intCells : Try.prog.cellsOf 3 = 1 := by kernel_rfl

set_option maxRecDepth 100000 in
theorem keyOf_pl {t g : Int} (ht : (Lit.int .i64 t).wf = true) (hg : (Lit.int .i64 g).wf = true) : keyOf Try.prog 92 (.agg #[.int .i64 t, .int .i64 g]) = some (plK t g) := by
  obtain ⟨m, hm⟩ : ∃ m, Try.prog.types.size = m + 1 := ⟨Try.prog.types.size - 1, by have h := plRow; exact (Nat.succ_pred_eq_of_pos (Nat.lt_of_le_of_lt (Nat.zero_le _) h)).symm⟩
  unfold keyOf
  simp only [Try.underlying92]
  rw [if_pos (by simp [plType, Value.formed, Try.underlying92, plCells]), hm]
  unfold Program.keyLits
  simp only [Try.underlying92, Value.cells]
  rw [if_pos (by constructor <;> simp [plCells])]
  simp [intCells, Program.keyLits, Try.underlying3, ht, hg, plK]
  try rfl
theorem plK_inj {t g t' g' : Int} (ht : (Lit.int .i64 t).wf = true) (hg : (Lit.int .i64 g).wf = true) (ht' : (Lit.int .i64 t').wf = true) (hg' : (Lit.int .i64 g').wf = true) (h : plK t g = plK t' g') : t = t' ∧ g = g' := by
  have h1 := keyOf_pl ht hg
  have h2 := keyOf_pl ht' hg'
  rw [h] at h1
  have e := kpl.inj h1 h2
  simpa using e

theorem plZero (w : World) : (zeroValue 3).run Try.prog w = .ok (.int .i64 0) w := by kernel_rfl

/-- The map of new numbers at block b. -/
def PM (w : World) (b n : Nat) (f : Int → Int → Option Int) : Prop :=
  ∃ D : DataW Unit, w.ownsMap Try.prog 92 (plainElem Try.prog 3) b n D ∧ ∀ t g, (Lit.int .i64 t).wf = true → (Lit.int .i64 g).wf = true →
    Maps.has D (plK t g) = (f t g).isSome ∧ D.atKey (plK t g) (.lit (.int .i64 0)) = .lit (.int .i64 ((f t g).getD 0))
theorem PM.kept {w w' : World} {b n : Nat} {f : Int → Int → Option Int} {row : Option Nat} (h : PM w b n f) (hg : w.grownBy w' row) (hne : some b ≠ row) : PM w' b n f := by
  obtain ⟨D, ho, hf⟩ := h
  exact ⟨D, ho.kept hg hne, hf⟩
theorem PM.blk {w w' : World} {b n : Nat} {f : Int → Int → Option Int} (h : PM w b n f) (hk : w'.heap[b]? = w.heap[b]?) : PM w' b n f := by
  obtain ⟨D, ⟨es, c, hb, r⟩, hf⟩ := h
  exact ⟨D, ⟨es, c, hk.trans hb, r⟩, hf⟩
theorem PM.lt {w : World} {b n : Nat} {f : Int → Int → Option Int} (h : PM w b n f) : b < w.heap.size := by
  obtain ⟨D, ho, hf⟩ := h
  exact ho.lt
theorem PM.below {w w' : World} {b n : Nat} {f : Int → Int → Option Int} (h : PM w b n f) (hb : Below w.heap.size w w') : PM w' b n f := h.blk (hb.block _ h.lt)
theorem PM.notCells {w : World} {b n : Nat} {f : Int → Int → Option Int} (h : PM w b n f) : ∀ c e g, w.heap[b]? ≠ some (Obj.cells c e g) := by
  obtain ⟨D, ⟨es, cl, hb, _⟩, hf⟩ := h
  intro c e g hc
  rw [hb] at hc
  cases hc
theorem PM.made (w : World) : PM (w.alloc (.map #[] 0)) w.heap.size 0 (fun _ _ => none) := ⟨_, World.ownsMap_made _ _ _ _, fun t g _ _ => ⟨rfl, rfl⟩⟩
def putP (f : Int → Int → Option Int) (t g v : Int) : Int → Int → Option Int := fun t' g' => if t' = t ∧ g' = g then some v else f t' g'
theorem PM.put {w w' : World} {b n n' : Nat} {f : Int → Int → Option Int} {D E : DataW Unit} {t g v : Int} (hD : IsMap D) (hf : ∀ t g, (Lit.int .i64 t).wf = true → (Lit.int .i64 g).wf = true →
    Maps.has D (plK t g) = (f t g).isSome ∧ D.atKey (plK t g) (.lit (.int .i64 0)) = .lit (.int .i64 ((f t g).getD 0))) (ht : (Lit.int .i64 t).wf = true) (hg : (Lit.int .i64 g).wf = true)
    (hown : w'.ownsMap Try.prog 92 (plainElem Try.prog 3) b n' E) (hE : E = D.put (plK t g) (.lit (.int .i64 v))) : PM w' b n' (putP f t g v) := by
  subst hE
  refine ⟨_, hown, fun t' g' ht' hg' => ?_⟩
  unfold putP
  by_cases e : t' = t ∧ g' = g
  · obtain ⟨rfl, rfl⟩ := e
    rw [if_pos ⟨rfl, rfl⟩]
    refine ⟨?_, atKey_put_same (k := plK t' g') hD trivial _ _⟩
    rw [has_put_same (k := plK t' g') hD trivial]
    rfl
  · rw [if_neg e]
    have hne : plK t' g' ≠ plK t g := fun h => e (plK_inj ht' hg' ht hg h)
    obtain ⟨h1, h2⟩ := hf t' g' ht' hg'
    exact ⟨by rw [has_put_other hne]; exact h1, by rw [atKey_put_other hne]; exact h2⟩

/-- The numbers' own block, and their map. -/
def NM (w : World) (base nb b n : Nat) (f : Int → Int → Option Int) (none_ : Bool) : Prop :=
  PM w b n f ∧ w.heap[nb]? = some (Obj.cells #[.map (some b), .bool none_] 90 (0, 0)) ∧ base ≤ b ∧ base ≤ nb
theorem NM.below {w w' : World} {base nb b n : Nat} {f : Int → Int → Option Int} {none_ : Bool} (h : NM w base nb b n f none_) (hb : Below w.heap.size w w') : NM w' base nb b n f none_ := by
  obtain ⟨h1, h2, h3, h4⟩ := h
  exact ⟨h1.below hb, blk_below h2 hb, h3, h4⟩

theorem grown_setCell (w : World) (g i : Nat) (u : Value) : w.grownBy (w.setCell ⟨g, i, none⟩ u) (some g) :=
  ⟨rfl, rfl, rfl, by simp [World.setCell], fun k hk hne => Below.heap_setCell w ⟨g, i, none⟩ u k (fun e => hne (by rw [e]))⟩
def ofV (f : Int → Int → Option Int) (t g : Int) : Int := if g = 0 then 0 else (f t g).getD 0
def ofN (f : Int → Int → Option Int) (t g : Int) (none_ : Bool) : Bool := if g = 0 then none_ else none_ || (f t g).isNone

set_option maxRecDepth 100000 in
set_option maxHeartbeats 1000000 in
theorem of_nm {w : World} {base nb b n : Nat} {f : Int → Int → Option Int} {none_ : Bool} (h : NM w base nb b n f none_) (t g : Int) (ht : (Lit.int .i64 t).wf = true) (hg : (Lit.int .i64 g).wf = true) :
    Calls Try.prog 34 #[.pointer (some ⟨nb, 0, none⟩), .int .i64 t, .int .i64 g] w fun e w' => e = .returned (.int .i64 (ofV f t g)) ∧ NM w' base nb b n f (ofN f t g none_) ∧ w.grownBy w' (some nb) := by
  obtain ⟨⟨D, hown, hf⟩, hblk, hb1, hb2⟩ := h
  have c0 := blk_cell hblk 0
  have c1 := blk_cell hblk 1
  have fz := blk_frozen hblk 1
  by_cases hz : g = 0
  · subst hz
    have hh : NM w base nb b n f none_ := ⟨⟨D, hown, hf⟩, hblk, hb1, hb2⟩
    have Hh := Lib.hid hh
    clear hown hf hblk hh
    go_enter Try.func34, Try.ntmps34
    go_wp2
    go_ret
    exact ⟨rfl, Hh.out, World.grownBy.refl _ _⟩
  · have hzb : (g == 0) = false := by simpa using hz
    have hkey := keyOf_pl ht hg
    obtain ⟨v, ps, hr, hv⟩ := hown.look_ok kpl Try.underlying88 (plZero w) (plainElem_int Try.underlying3 (by decide)) hkey
    obtain ⟨h1, h2⟩ := hf t g ht hg
    obtain ⟨q, rfl, hq, hwq⟩ := plainElem_int_inv Try.underlying3 hv
    rw [h2] at hq
    simp only [Prod.mk.injEq, DataW.lit.injEq, Lit.int.injEq, true_and] at hq
    obtain ⟨hq, _⟩ := hq
    rw [h1, ← hq] at hr
    have hout : ∀ (nn : Bool) (w' : World), w'.heap[nb]? = some (Obj.cells #[.map (some b), .bool nn] 90 (0, 0)) → w.grownBy w' (some nb) → NM w' base nb b n f nn := by
      intro nn w' e1 e2
      refine ⟨?_, e1, hb1, hb2⟩
      refine PM.kept ⟨D, hown, hf⟩ e2 ?_
      intro e
      injection e with e
      subst e
      exact (PM.notCells (f := f) (n := n) ⟨D, hown, hf⟩) _ _ _ hblk
    have Hout := Lib.hid hout
    have Hblk := Lib.hid hblk
    have Hf := Lib.hid (show (f t g).getD 0 = (f t g).getD 0 from rfl)
    clear hown hf h1 h2 hv hq hout hkey hblk
    have HV : Hid (ofV f t g = (f t g).getD 0 ∧ ∀ x, ofN f t g x = (x || (f t g).isNone)) := Lib.hid (by unfold ofV ofN; simp [hz])
    cases hs : (f t g) with
    | none =>
      rw [hs] at hr HV
      simp only [Option.isSome_none, Option.getD_none, Option.isNone_none, Bool.or_true] at hr HV
      clear hs
      cases none_
      all_goals
        go_enter Try.func34, Try.ntmps34
        go_wp2
        go_ret
        refine ⟨by rw [HV.out.1]; rfl, ?_, grown_setCell w nb 1 _⟩
        rw [HV.out.2]
        exact Hout.out _ _ (blk_put Hblk.out 1 _ rfl) (grown_setCell w nb 1 _)
    | some x =>
      rw [hs] at hr HV
      simp only [Option.isSome_some, Option.getD_some, Option.isNone_some, Bool.or_false] at hr HV
      clear hs
      cases none_
      all_goals
        go_enter Try.func34, Try.ntmps34
        go_wp2
        go_ret
        refine ⟨by rw [HV.out.1]; rfl, ?_, grown_setCell w nb 1 _⟩
        rw [HV.out.2]
        exact Hout.out _ _ (blk_put Hblk.out 1 _ rfl) (grown_setCell w nb 1 _)
end Go.Proofs.Ytlicobfjeajcfaa
