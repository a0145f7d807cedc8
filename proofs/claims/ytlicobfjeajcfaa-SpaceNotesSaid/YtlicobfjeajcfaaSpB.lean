/-
  The space layer: what a book of needs is in memory, and its methods.
-/
import Derived.Test.YtlicobfjeajcfaaSpA
import Derived.Deep.QuietTactic
import Derived.BigQuiet
import Derived.Deep.RegionHeld3
import Derived.Deep.LoopGhost
import Derived.Maps.Ext
namespace Go.Proofs.Ytlicobfjeajcfaa
open Go.RowKit Go.Maps
set_option linter.unusedVariables false
set_option linter.unusedSimpArgs false

/-- A book as a map's element: the block of the map inside. -/
def bookR (v : Value) : Option (DataW Unit × List MemPlace) :=
  match v with
  | .agg ⟨[.map (some b)]⟩ => some (.lit (.int .i64 b), [])
  | .agg ⟨[.map none]⟩ => some (.nil, [])
  | _ => none

theorem bookR_some (b : Nat) : bookR (.agg #[.map (some b)]) = some (.lit (.int .i64 b), []) := rfl
theorem bookR_none : bookR (.agg #[.map none]) = some (.nil, []) := rfl
theorem bookR_inv {v : Value} {d : DataW Unit} {ps : List MemPlace} (h : bookR v = some (d, ps)) :
    (v = .agg #[.map none] ∧ d = .nil) ∨ ∃ b : Nat, v = .agg #[.map (some b)] ∧ d = .lit (.int .i64 b) := by
  unfold bookR at h
  split at h
  · rename_i b
    cases h
    exact .inr ⟨b, rfl, rfl⟩
  · cases h
    exact .inl ⟨rfl, rfl⟩
  · cases h

/-- The book at a transaction: the block of its map. -/
def blk (D : DataW Unit) (t : Int) : DataW Unit := D.atKey (.int .i64 t) .nil

/-- What lies at s: all books; F tells each transaction's need on each page. -/
structure Rep (w : World) (base sb N B : Nat) (D : DataW Unit) (F : Int → Int → Int) : Prop where
  cell : w.cell? ⟨sb, 0, none⟩ = some (.map (some B))
  hB : base ≤ B
  hbase : base ≤ w.heap.size
  own : w.ownsMap Try.prog 3 bookR B N D
  inner : ∀ (t : Int) (b : Nat), (Lit.int .i64 t).wf = true → blk D t = .lit (.int .i64 b) → IM w b N (F t) ∧ base ≤ b ∧ b ≠ B
  inj : ∀ (t t' : Int) (b : Nat), (Lit.int .i64 t).wf = true → (Lit.int .i64 t').wf = true → blk D t = .lit (.int .i64 b) → blk D t' = .lit (.int .i64 b) → t = t'
  present : ∀ t : Int, (Lit.int .i64 t).wf = true → Maps.has D (.int .i64 t) = true → ∃ b : Nat, blk D t = .lit (.int .i64 b)
  absent : ∀ t : Int, (Lit.int .i64 t).wf = true → Maps.has D (.int .i64 t) = false → F t = fun _ => 0

theorem IM.blocks {w w' : World} {b n : Nat} {f : Int → Int} (h : IM w b n f) (hk : w'.heap[b]? = w.heap[b]?) : IM w' b n f := by
  obtain ⟨D, ⟨es, c, hb, r⟩, hf⟩ := h
  exact ⟨D, ⟨es, c, hk.trans hb, r⟩, hf⟩

/-- It stays what it is while no map and not its own cell is touched. -/
theorem Rep.kept {w w' : World} {base sb N B : Nat} {D : DataW Unit} {F : Int → Int → Int} (h : Rep w base sb N B D F) (hs : w.heap.size ≤ w'.heap.size)
    (hc : w'.heap[sb]? = w.heap[sb]?) (hm : ∀ (i : Nat) es c, w.heap[i]? = some (Obj.map es c) → w'.heap[i]? = some (Obj.map es c)) : Rep w' base sb N B D F := by
  have hin : ∀ {b n : Nat} {f : Int → Int}, IM w b n f → IM w' b n f := by
    intro b n f hi
    obtain ⟨E, ⟨es, c, hb, r⟩, hf⟩ := hi
    exact ⟨E, ⟨es, c, hm _ _ _ hb, r⟩, hf⟩
  refine ⟨(World.cell?_of_block (w := w) (a := ⟨sb, 0, none⟩) hc).trans h.cell, h.hB, Nat.le_trans h.hbase hs, ?_, ?_, h.inj, h.present, h.absent⟩
  · obtain ⟨es, c, hb, r⟩ := h.own
    exact ⟨es, c, hm _ _ _ hb, r⟩
  · intro t b ht hb
    obtain ⟨a1, a2⟩ := h.inner t b ht hb
    exact ⟨hin a1, a2⟩

theorem Rep.sblt {w : World} {base sb N B : Nat} {D : DataW Unit} {F : Int → Int → Int} (h : Rep w base sb N B D F) : sb < w.heap.size := by
  have := h.cell
  unfold World.cell? at this
  split at this
  · rename_i c e f hi
    exact (Array.getElem?_eq_some_iff.1 hi).1
  · cases this

theorem Rep.below {w w' : World} {base sb N B : Nat} {D : DataW Unit} {F : Int → Int → Int} (h : Rep w base sb N B D F) (hb : Below w.heap.size w w') : Rep w' base sb N B D F :=
  h.kept hb.size (hb.block _ h.sblt) (fun i _ _ hi => (hb.block i (Array.getElem?_eq_some_iff.1 hi).1).trans hi)

theorem Rep.mono {w : World} {base sb N N' B : Nat} {D : DataW Unit} {F : Int → Int → Int} (h : Rep w base sb N B D F) (hn : N ≤ N') : Rep w base sb N' B D F :=
  ⟨h.cell, h.hB, h.hbase, h.own.mono hn, fun t b ht hb => ⟨(h.inner t b ht hb).1.mono hn, (h.inner t b ht hb).2⟩, h.inj, h.present, h.absent⟩

theorem zbook (w : World) : (zeroValue 74).run Try.prog w = .ok (.agg #[.map none]) w := by kernel_rfl

/-- A look into the books. -/
theorem Rep.look {w : World} {base sb N B : Nat} {D : DataW Unit} {F : Int → Int → Int} (h : Rep w base sb N B D F) (t : Int) (ht : (Lit.int .i64 t).wf = true) :
    (Maps.has D (.int .i64 t) = false ∧ (Instr.lookup 64 (.map (some B)) (.int .i64 t) false).run Try.prog w = .ok (.agg #[.map none]) w ∧
      (Instr.lookup 64 (.map (some B)) (.int .i64 t) true).run Try.prog w = .ok (.tuple #[.agg #[.map none], .bool false]) w) ∨
    ∃ b : Nat, Maps.has D (.int .i64 t) = true ∧ blk D t = .lit (.int .i64 b) ∧ (Instr.lookup 64 (.map (some B)) (.int .i64 t) false).run Try.prog w = .ok (.agg #[.map (some b)]) w ∧
      (Instr.lookup 64 (.map (some B)) (.int .i64 t) true).run Try.prog w = .ok (.tuple #[.agg #[.map (some b)], .bool true]) w := by
  have hkey := keyOf_int_mk (P := Try.prog) Try.underlying3 ht
  obtain ⟨v, ps, hr, hv⟩ := h.own.lookup kint Try.underlying64 (zbook w) bookR_none hkey
  obtain ⟨v2, ps2, hr2, hv2⟩ := h.own.look_ok kint Try.underlying64 (zbook w) bookR_none hkey
  cases hh : Maps.has D (.int .i64 t) with
  | false =>
    rw [atKey_of_not_has hh] at hv hv2
    rw [hh] at hr2
    rcases bookR_inv hv with ⟨rfl, _⟩ | ⟨b, rfl, hb⟩
    · rcases bookR_inv hv2 with ⟨rfl, _⟩ | ⟨b, rfl, hb⟩
      · exact .inl ⟨rfl, hr, hr2⟩
      · cases hb
    · cases hb
  | true =>
    obtain ⟨b, hb⟩ := h.present t ht hh
    unfold blk at hb
    rw [hb] at hv hv2
    rw [hh] at hr2
    rcases bookR_inv hv with ⟨rfl, e⟩ | ⟨b', rfl, e⟩
    · cases e
    · rcases bookR_inv hv2 with ⟨rfl, e2⟩ | ⟨b2, rfl, e2⟩
      · cases e2
      · simp only [DataW.lit.injEq, Lit.int.injEq, true_and] at e e2
        obtain rfl : b = b' := by omega
        obtain rfl : b = b2 := by omega
        exact .inr ⟨b, rfl, hb, hr, hr2⟩

theorem field_book (r : Option Nat) (w : World) : (Instr.field 74 (.agg #[.map r]) 0).run Try.prog w = .ok (.agg #[.map r]) w := by kernel_rfl
theorem field_tally (r : Option Nat) (w : World) : (Instr.field 72 (.agg #[.map r]) 0).run Try.prog w = .ok (.map r) w := by kernel_rfl

set_option maxRecDepth 100000 in
set_option maxHeartbeats 400000 in
theorem need_rep {w : World} {base sb N B : Nat} {D : DataW Unit} {F : Int → Int → Int} (h : Rep w base sb N B D F) (t p : Int) (ht : (Lit.int .i64 t).wf = true) (hp : (Lit.int .i64 p).wf = true) :
    Calls Try.prog 18 #[.pointer (some ⟨sb, 0, none⟩), .int .i64 t, .int .i64 p] w fun e w' => e = .returned (.int .i64 (F t p)) ∧ Below w.heap.size w w' := by
  have hc := h.cell
  have fb := field_book
  have ft := field_tally
  have hnil : ∀ (w : World) (r : Option Nat), (binOp .eql 70 (.map r) (.map none)).run Try.prog w = .ok (.bool r.isNone) w := fun w r => run_eql_map_nil w _ _ _ r Try.underlying70
  rcases h.look t ht with ⟨hh, hr, _⟩ | ⟨b, hh, hb, hr, _⟩
  · have hz := h.absent t ht hh
    have Hz := Lib.hid hz
    clear hz hh
    go_enter Try.func18, Try.ntmps18
    go_wp2
    go_ret
    exact ⟨by rw [Hz.out]; rfl, Below.refl _ _⟩
  · have hi := (h.inner t b ht hb).1
    clear hh hb
    go_enter Try.func18, Try.ntmps18
    go_wp2_with (go_at_call 29; refine (of_im _ _ _ _ _ hi hp).mono ?_; rintro e w' ⟨rfl, hbel⟩)
    go_ret
    exact ⟨rfl, hbel⟩


theorem grown_of_below {w w' : World} (h : Below w.heap.size w w') : w.grownBy w' none := ⟨h.os, h.tape, h.output, h.size, fun i hi _ => h.block i hi⟩

/-- The sum over the entries of a map whose keys are numbers. -/
def sumE (h : Int → Int) : List (Lit × DataW Unit) → Int
  | [] => 0
  | p :: r => (match p.1 with | .int _ t => h t | _ => 0) + sumE h r
def sumD (D : DataW Unit) (h : Int → Int) : Int := match D with | .map es => sumE h es | _ => 0
/-- .. over those that have come. -/
def sumL (D : DataW Unit) (left : Lit → Bool) (h : Int → Int) : Int := match D with | .map es => sumE h (es.filter fun p => !left p.1) | _ => 0

theorem sumL_start {D : DataW Unit} (hc : Canon D) (h : Int → Int) : sumL D (Maps.has D) h = 0 := by
  obtain ⟨es, rfl, _, hk⟩ := hc
  have : es.filter (fun p => !Maps.has (.map es) p.1) = [] := by
    rw [List.filter_eq_nil_iff]
    intro p hp
    have : Maps.has (.map es) p.1 = true := by
      rw [has_eq, List.any_eq_true]
      exact ⟨p, hp, WideAt.sameKey_self (hk p hp)⟩
    simp [this]
  simp [sumL, this, sumE]

theorem filter_yes {α : Type} : ∀ l : List α, l.filter (fun _ => true) = l
  | [] => rfl
  | a :: r => by simp

theorem sumL_end {D : DataW Unit} {left : Lit → Bool} (h : Int → Int) (hl : ∀ k, left k = false) : sumL D left h = sumD D h := by
  cases D <;> simp [sumL, sumD, hl, filter_yes]

theorem key_same {t : Int} {l : Lit} (h : l.sameKey (.int .i64 t) = true) : l = .int .i64 t := (WideAt.sameKey_iff (b := .int .i64 t) trivial).1 h
theorem key_self (t : Int) : Lit.sameKey (.int .i64 t) (.int .i64 t) = true := WideAt.sameKey_self (a := .int .i64 t) trivial

theorem sumE_step {h : Int → Int} {left : Lit → Bool} {t : Int} (hl : left (.int .i64 t) = true) : ∀ (es : List (Lit × DataW Unit)), es.Pairwise (fun p q => p.1 ≠ q.1) →
    sumE h (es.filter fun p => !(left p.1 && !p.1.sameKey (.int .i64 t))) = sumE h (es.filter fun p => !left p.1) + (if es.any (fun p => p.1.sameKey (.int .i64 t)) then h t else 0)
  | [], _ => by simp [sumE]
  | p :: r, hp => by
    have ih := sumE_step (h := h) hl r (List.pairwise_cons.1 hp).2
    have hne := (List.pairwise_cons.1 hp).1
    cases hs : p.1.sameKey (.int .i64 t) with
    | true =>
      have e := key_same hs
      have hnone : r.any (fun q => q.1.sameKey (.int .i64 t)) = false := by
        rw [List.any_eq_false]
        intro q hq hq2
        exact hne q hq (e.trans (key_same hq2).symm)
      rw [hnone] at ih
      have f1 : (fun q : Lit × DataW Unit => !(left q.1 && !q.1.sameKey (.int .i64 t))) p = true := by simp [hs]
      have f2 : ¬ ((fun q : Lit × DataW Unit => !left q.1) p = true) := by simp [e, hl]
      rw [List.filter_cons_of_pos (p := fun q : Lit × DataW Unit => !(left q.1 && !q.1.sameKey (.int .i64 t))) f1, List.filter_cons_of_neg (p := fun q : Lit × DataW Unit => !left q.1) f2, List.any_cons, hs]
      simp only [sumE, e, Bool.true_or, if_true]
      simp only [Bool.false_eq_true, if_false] at ih
      omega
    | false =>
      rw [List.any_cons, hs, Bool.false_or]
      cases el : left p.1 with
      | true =>
        have f1 : ¬ ((fun q : Lit × DataW Unit => !(left q.1 && !q.1.sameKey (.int .i64 t))) p = true) := by simp [hs, el]
        have f2 : ¬ ((fun q : Lit × DataW Unit => !left q.1) p = true) := by simp [el]
        rw [List.filter_cons_of_neg (p := fun q : Lit × DataW Unit => !(left q.1 && !q.1.sameKey (.int .i64 t))) f1, List.filter_cons_of_neg (p := fun q : Lit × DataW Unit => !left q.1) f2]
        exact ih
      | false =>
        have f1 : (fun q : Lit × DataW Unit => !(left q.1 && !q.1.sameKey (.int .i64 t))) p = true := by simp [el]
        have f2 : (fun q : Lit × DataW Unit => !left q.1) p = true := by simp [el]
        rw [List.filter_cons_of_pos (p := fun q : Lit × DataW Unit => !(left q.1 && !q.1.sameKey (.int .i64 t))) f1, List.filter_cons_of_pos (p := fun q : Lit × DataW Unit => !left q.1) f2]
        simp only [sumE]
        omega

theorem sumL_step {D : DataW Unit} {left : Lit → Bool} {t : Int} (hc : Canon D) (h : Int → Int) (hl : left (.int .i64 t) = true) (hh : Maps.has D (.int .i64 t) = true) :
    sumL D (fun z => left z && !z.sameKey (.int .i64 t)) h = sumL D left h + h t := by
  obtain ⟨es, rfl, hr, hk⟩ := hc
  have := sumE_step (h := h) hl es (apart_of_rising hr)
  rw [has_eq] at hh
  rw [hh] at this
  simpa [sumL] using this

end Go.Proofs.Ytlicobfjeajcfaa
