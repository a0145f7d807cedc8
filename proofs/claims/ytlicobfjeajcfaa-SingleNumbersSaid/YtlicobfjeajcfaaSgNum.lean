/-
  Records as one log: the walk of single.Number.
-/
import Derived.Test.YtlicobfjeajcfaaSgDef
import Derived.Outline
import Derived.Deep.DrawnRows
namespace Go.Proofs.Ytlicobfjeajcfaa
open Go.RowKit Go.Proofs.Ytlicobfjeajcfaa.Q29 Go.Proofs.YtlicobfjeajcfaaW.PrintWords Go.Proofs.YtlicobfjeajcfaaW.PrintLast Go.Proofs.YtlicobfjeajcfaaW.PrintMore
set_option linter.unusedVariables false
set_option linter.unusedSimpArgs false

theorem bel_go {w x y : World} (h : Below w.heap.size w x) (hb : Below x.heap.size x y) : Below w.heap.size w y := h.trans (hb.mono h.size)
/-- One record in a block of its own. -/
def Bx (w : World) (g : Nat) (x : Br) : Prop := w.heap[g]? = some (Obj.cells #[.int .i64 x.f0, .int .i64 x.f1.f0, .int .i64 x.f1.f1, .int .i64 x.f1.f2, .int .i64 x.f1.f3, .int .i64 x.f1.f4, .string x.f1.f5, .bool x.f1.f6.f0, .string x.f1.f6.f1, .bool x.f1.f7.f0, .string x.f1.f7.f1, .int .i64 x.f1.f8] 84 (0, 0))
theorem Bx.below {w w' : World} {g : Nat} {x : Br} (h : Bx w g x) (hb : Below w.heap.size w w') : Bx w' g x := blk_below h hb
theorem Bx.cells {w : World} {g : Nat} {x : Br} (h : Bx w g x) : w.cell? ⟨g, 0, none⟩ = some (.int .i64 x.f0) ∧ w.cell? ⟨g, 1, none⟩ = some (.int .i64 x.f1.f0) ∧ w.cell? ⟨g, 2, none⟩ = some (.int .i64 x.f1.f1) ∧ w.cell? ⟨g, 3, none⟩ = some (.int .i64 x.f1.f2) ∧ w.cell? ⟨g, 4, none⟩ = some (.int .i64 x.f1.f3) ∧ w.cell? ⟨g, 5, none⟩ = some (.int .i64 x.f1.f4) ∧ w.cell? ⟨g, 6, none⟩ = some (.string x.f1.f5) ∧ w.cell? ⟨g, 7, none⟩ = some (.bool x.f1.f6.f0) ∧ w.cell? ⟨g, 8, none⟩ = some (.string x.f1.f6.f1) ∧ w.cell? ⟨g, 9, none⟩ = some (.bool x.f1.f7.f0) ∧ w.cell? ⟨g, 10, none⟩ = some (.string x.f1.f7.f1) ∧ w.cell? ⟨g, 11, none⟩ = some (.int .i64 x.f1.f8) :=
  ⟨blk_cell h 0, blk_cell h 1, blk_cell h 2, blk_cell h 3, blk_cell h 4, blk_cell h 5, blk_cell h 6, blk_cell h 7, blk_cell h 8, blk_cell h 9, blk_cell h 10, blk_cell h 11⟩
/-- One element of the row. -/
def El (w : World) (ad : Addr) (x : Br) : Prop := w.cell? (ad) = some (.int .i64 x.f0) ∧ w.cell? ⟨(ad).block, (ad).off + 1, none⟩ = some (.int .i64 x.f1.f0) ∧ w.cell? ⟨(ad).block, (ad).off + 2, none⟩ = some (.int .i64 x.f1.f1) ∧ w.cell? ⟨(ad).block, (ad).off + 3, none⟩ = some (.int .i64 x.f1.f2) ∧ w.cell? ⟨(ad).block, (ad).off + 4, none⟩ = some (.int .i64 x.f1.f3) ∧ w.cell? ⟨(ad).block, (ad).off + 5, none⟩ = some (.int .i64 x.f1.f4) ∧ w.cell? ⟨(ad).block, (ad).off + 6, none⟩ = some (.string x.f1.f5) ∧ w.cell? ⟨(ad).block, (ad).off + 7, none⟩ = some (.bool x.f1.f6.f0) ∧ w.cell? ⟨(ad).block, (ad).off + 8, none⟩ = some (.string x.f1.f6.f1) ∧ w.cell? ⟨(ad).block, (ad).off + 9, none⟩ = some (.bool x.f1.f7.f0) ∧ w.cell? ⟨(ad).block, (ad).off + 10, none⟩ = some (.string x.f1.f7.f1) ∧ w.cell? ⟨(ad).block, (ad).off + 11, none⟩ = some (.int .i64 x.f1.f8)
theorem El.below {w w' : World} {ad : Addr} {x : Br} (h : El w ad x) (hb : Below w.heap.size w w') : El w' ad x := by
  obtain ⟨c0, c1, c2, c3, c4, c5, c6, c7, c8, c9, c10, c11⟩ := h
  exact ⟨pw_cell_below hb c0, pw_cell_below hb c1, pw_cell_below hb c2, pw_cell_below hb c3, pw_cell_below hb c4, pw_cell_below hb c5, pw_cell_below hb c6, pw_cell_below hb c7, pw_cell_below hb c8, pw_cell_below hb c9, pw_cell_below hb c10, pw_cell_below hb c11⟩
theorem El.of {w : World} {A : Option Addr} {n : Nat} {l : List Br} (h : kBr.C w A n l) (k : Nat) (hk : k < n) : ∃ ad, A = some ad ∧ El w (ad.add (k * 12)) (rd_T84 l (k : Int)) := by
  obtain ⟨ad, e, h⟩ := at_T84 h (k : Int) (by omega) (by omega)
  simp only [Int.toNat_natCast] at h
  exact ⟨ad, e, h⟩
theorem right_one (V : World) (g : Nat) (x : Br) (hg : V.heap[g]? = some (Obj.cells #[.int .i64 x.f1.f0, .int .i64 x.f1.f1, .int .i64 x.f1.f2, .int .i64 x.f1.f3, .int .i64 x.f1.f4, .string x.f1.f5, .bool x.f1.f6.f0, .string x.f1.f6.f1, .bool x.f1.f7.f0, .string x.f1.f7.f1, .int .i64 x.f1.f8] 79 (0, 0))) : Calls Try.prog 32 #[.slice (some ⟨g, 0, none⟩) 1 1] V fun e w' => e = .returned (.bool (rightB x.f1)) ∧ Below V.heap.size V w' := by
  have hC : kRc.C V (some ⟨g, 0, none⟩) [x.f1].length [x.f1] := by
    refine ⟨rfl, by simp, fun _ => ⟨_, rfl, fun j p hj => ?_⟩⟩
    cases j with
    | zero =>
      obtain rfl := Option.some.inj hj
      refine ⟨_, rfl, k79_mk _ _, fun i u hu => ?_⟩
      have := blk_cell hg i
      rw [add_plain]
      simp only [Nat.zero_mul, Nat.zero_add]
      rw [this]
      rw [← Array.getElem?_toList]
      exact hu
    | succ j => simp at hj
  exact record_Right.calls _ 1 [x.f1] (rightB x.f1) _ hC (Nat.le_refl _) (by simp [record_Right.f])

/-- Between the rounds of the second loop. -/
structure NL (w wr : World) (nb b : Nat) (l : List Br) (vo : Value) (k : Nat) : Prop where
  hk : k ≤ l.length
  nm : NM wr w.heap.size nb b k (runS l k).f (runS l k).none_
  row : Kd.R kRc 79 wr w.heap.size (fun _ => True) vo (runS l k).out
  bel : Below w.heap.size w wr
theorem NL.start {w wr : World} {l : List Br} (hb : Below w.heap.size w wr) : NL w ((wr.alloc (.map #[] 0)).alloc (.cells #[.map (some wr.heap.size), .bool false] 90)) (wr.heap.size + 1) wr.heap.size l (.slice none 0 0) 0 := by
  refine ⟨Nat.zero_le _, ⟨(PM.made wr).below ((Below.refl _ _).alloc (Nat.le_refl _) _), ?_, hb.size, by have := hb.size; omega⟩, Kd.R_nil _ _ _ _ _, (hb.alloc hb.size _).alloc (by have := hb.size; simp; omega) _⟩
  have h := blk_new (wr.alloc (.map #[] 0)) (.cells #[.map (some wr.heap.size), .bool false] 90)
  have e : (wr.alloc (.map #[] 0)).heap.size = wr.heap.size + 1 := by simp
  rw [e] at h
  exact h
/-- What stands in the middle of a round: the record's box g, the new record's box behind it. -/
structure RS (w W : World) (nb b g : Nat) (vo : Value) (out : List Rc) (f : Int → Int → Option Int) (nn : Bool) (k : Nat) (x : Br) (cs : Array Value) : Prop where
  nm : NM W w.heap.size nb b k f nn
  row : Kd.R kRc 79 W w.heap.size (fun q => q ≠ g ∧ q ≠ g + 1) vo out
  bx : Bx W g x
  xb : W.heap[g + 1]? = some (Obj.cells cs 79 (0, 0))
  bel : Below w.heap.size w W
  hg : nb < g ∧ b < g ∧ w.heap.size ≤ g
theorem NL.rs {w wr : World} {nb b : Nat} {l : List Br} {vo : Value} {k : Nat} (h : NL w wr nb b l vo k) (x : Br) (cs : Array Value) :
    RS w ((wr.alloc (.cells #[.int .i64 x.f0, .int .i64 x.f1.f0, .int .i64 x.f1.f1, .int .i64 x.f1.f2, .int .i64 x.f1.f3, .int .i64 x.f1.f4, .string x.f1.f5, .bool x.f1.f6.f0, .string x.f1.f6.f1, .bool x.f1.f7.f0, .string x.f1.f7.f1, .int .i64 x.f1.f8] 84)).alloc (.cells cs 79)) nb b wr.heap.size vo (runS l k).out (runS l k).f (runS l k).none_ k x cs := by
  have hb1 : Below wr.heap.size wr ((wr.alloc (.cells #[.int .i64 x.f0, .int .i64 x.f1.f0, .int .i64 x.f1.f1, .int .i64 x.f1.f2, .int .i64 x.f1.f3, .int .i64 x.f1.f4, .string x.f1.f5, .bool x.f1.f6.f0, .string x.f1.f6.f1, .bool x.f1.f7.f0, .string x.f1.f7.f1, .int .i64 x.f1.f8] 84)).alloc (.cells cs 79)) := ((Below.refl _ _).alloc (Nat.le_refl _) _).alloc (by simp) _
  have hx := blk_new (wr.alloc (.cells #[.int .i64 x.f0, .int .i64 x.f1.f0, .int .i64 x.f1.f1, .int .i64 x.f1.f2, .int .i64 x.f1.f3, .int .i64 x.f1.f4, .string x.f1.f5, .bool x.f1.f6.f0, .string x.f1.f6.f1, .bool x.f1.f7.f0, .string x.f1.f7.f1, .int .i64 x.f1.f8] 84)) (.cells cs 79)
  have e : (wr.alloc (.cells #[.int .i64 x.f0, .int .i64 x.f1.f0, .int .i64 x.f1.f1, .int .i64 x.f1.f2, .int .i64 x.f1.f3, .int .i64 x.f1.f4, .string x.f1.f5, .bool x.f1.f6.f0, .string x.f1.f6.f1, .bool x.f1.f7.f0, .string x.f1.f7.f1, .int .i64 x.f1.f8] 84)).heap.size = wr.heap.size + 1 := by simp
  rw [e] at hx
  refine ⟨h.nm.below hb1, ?_, ?_, hx, bel_go h.bel hb1, blk_lt h.nm.2.1, h.nm.1.lt, h.bel.size⟩
  · refine Kd.R_below (Kd.R_mono (Kd.R_bound h.row) ?_) hb1
    rintro q ⟨_, _, hq, _⟩
    constructor <;> omega
  · exact blk_below (blk_new wr _) ((Below.refl _ _).alloc (Nat.le_refl _) _)
section
variable {w W : World} {nb b g k : Nat} {vo : Value} {out : List Rc} {f : Int → Int → Option Int} {nn : Bool} {x : Br} {cs : Array Value}
theorem RS.of (h : RS w W nb b g vo out f nn k x cs) {w2 : World} {f' : Int → Int → Option Int} {nn' : Bool} (hn : NM w2 w.heap.size nb b k f' nn') (hg : W.grownBy w2 (some nb)) : RS w w2 nb b g vo out f' nn' k x cs := by
  have hlt := h.hg
  refine ⟨hn, ?_, (hg.block g (blk_lt h.bx) (by intro e; injection e with e; omega)).trans h.bx, (hg.block (g + 1) (blk_lt h.xb) (by intro e; injection e with e; omega)).trans h.xb,
    pw_below_grown h.bel (some nb) h.bel.size hg (fun q hq => by injection hq with hq; subst hq; exact h.nm.2.2.2), hlt⟩
  exact Kd.R_mono (Kd.R_grown (Kd.R_types h.row h.nm.2.1 (by decide)) hg (fun q hq e => by injection e with e; exact hq.2 e)) (fun _ hk => hk.1)
theorem RS.set (h : RS w W nb b g vo out f nn k x cs) (i : Nat) (u : Value) {cs' : Array Value} (e : cs.setIfInBounds i u = cs') : RS w (W.setCell ⟨g + 1, i, none⟩ u) nb b g vo out f nn k x cs' := by
  have hlt := h.hg
  refine ⟨⟨h.nm.1.kept (grown_setCell W (g + 1) i u) (by intro e; injection e with e; omega), blk_far h.nm.2.1 (by show nb ≠ g + 1; omega) u, h.nm.2.2⟩, ?_, blk_far h.bx (by show g ≠ g + 1; omega) u, blk_put h.xb i u e, ?_, hlt⟩
  · exact Kd.R_far h.row (fun q hq => hq.2) u
  · exact pw_below_grown h.bel (some (g + 1)) h.bel.size (grown_setCell W (g + 1) i u) (fun q hq => by injection hq with hq; omega)
theorem RS.drew (h : RS w W nb b g vo out f nn k x cs) : RS w W.drew nb b g vo out f nn k x cs :=
  ⟨h.nm, Kd.R_drewN h.row 1, h.bx, h.xb, pw_below_drewN h.bel 1, h.hg⟩
/-- The record's new number is put. -/
theorem RS.put (h : RS w W nb b g vo out f nn k x cs) (hk : (k : Int) ≤ 1000) (v : Int) (hv : (Lit.int .i64 v).wf = true) (ht : (Lit.int .i64 x.f1.f2).wf = true) (hg : (Lit.int .i64 x.f1.f1).wf = true) :
    ∃ w', (Instr.mapUpdate 88 (.map (some b)) (.agg #[.int .i64 x.f1.f2, .int .i64 x.f1.f1]) (.int .i64 v)).run Try.prog W = .ok () w' ∧ RS w w' nb b g vo out (putP f x.f1.f2 x.f1.f1 v) nn (k + 1) x cs := by
  obtain ⟨⟨D, hown, hf⟩, hblk, hb1, hb2⟩ := h.nm
  have hlt := h.hg
  obtain ⟨w', hrun, hown', hgr⟩ := hown.update kpl Try.underlying88 (by unfold maxLen; omega) (keyOf_pl ht hg) (plainElem_int Try.underlying3 hv)
  have hnc := PM.notCells (f := f) (n := k) ⟨D, hown, hf⟩
  have hne : ∀ q c e z, W.heap[q]? = some (Obj.cells c e z) → some q ≠ some b := by
    intro q c e z hq he
    injection he with he
    subst he
    exact hnc _ _ _ hq
  refine ⟨w', hrun, ⟨⟨PM.put (w := W) (n := k) hown.isMap hf ht hg hown' rfl, (hgr.block nb (blk_lt hblk) (hne _ _ _ _ hblk)).trans hblk, hb1, hb2⟩, ?_, (hgr.block g (blk_lt h.bx) (hne _ _ _ _ h.bx)).trans h.bx, (hgr.block (g + 1) (blk_lt h.xb) (hne _ _ _ _ h.xb)).trans h.xb,
    pw_below_grown h.bel (some b) h.bel.size hgr (fun q hq => by injection hq with hq; subst hq; exact hb1), hlt⟩⟩
  have hr := Kd.R_bound h.row
  refine Kd.R_mono (Kd.R_grown hr hgr ?_) (fun _ hk => hk.1)
  rintro q ⟨_, _, _, t, _, cells, hc⟩
  exact hne _ _ _ _ hc
theorem RS.next {l : List Br} {w7 : World} {v1 : Value} {r : Rc} (h : RS w W nb b g vo out f nn (k + 1) x cs) (hr : Kd.R kRc 79 w7 w.heap.size (fun q => q ≠ g ∧ q ≠ g + 1) v1 (out ++ [r])) (hg : W.grownBy w7 vo.ownBlock) (hb7 : Below w.heap.size w w7)
    (e : runS l (k + 1) = ⟨f, nn, out ++ [r]⟩) (hk : k < l.length) : NL w w7 nb b l v1 (k + 1) := by
  refine ⟨hk, ?_, by rw [e]; exact Kd.R_mono hr (fun _ _ => trivial), hb7⟩
  rw [e]
  refine ⟨h.nm.1.kept hg ?_, (hg.block nb (blk_lt h.nm.2.1) (Kd.R_ne h.row h.nm.2.1 (by decide))).trans h.nm.2.1, h.nm.2.2⟩
  intro e2
  obtain ⟨_, h2⟩ := Kd.R_own h.row
  obtain ⟨c, hc⟩ := own_typed h2 b e2.symm
  exact PM.notCells h.nm.1 _ _ _ hc
end
theorem wf64' {x : Int} : (Lit.int .i64 x).wf = true ↔ -9223372036854775808 ≤ x ∧ x ≤ 9223372036854775807 := by
  simp [Lit.wf, IntKind.min, IntKind.max, IntKind.signed, IntKind.bits]
theorem right_of_okB {l : List Br} {k : Nat} (h : okB l k = true) : rightB (rd_T84 l (k : Int)).f1 = true := by
  unfold okB at h
  rw [Bool.and_eq_true] at h
  exact h.1


set_option maxRecDepth 100000 in
set_option maxHeartbeats 8000000 in
theorem num_bad (A0 : Option Addr) (c0 : Nat) (l : List Br) (w : World) (hr0 : kBr.C w A0 l.length l) (hc0 : l.length ≤ c0) (hl : (l.length : Int) ≤ 1000) (hbad : ¬ ∀ i, i < l.length → okB l i = true) :
    Calls Try.prog 23 #[.slice A0 l.length c0] w fun e w' => ∃ v0, e = .returned (.tuple #[v0, .int .i64 1]) ∧ Kd.R kRc 79 w' w.heap.size (fun _ => True) v0 [] ∧ Below w.heap.size w w' := by
  have Hall := Lib.hid hbad
  clear hbad
  have hmm := @run_makeMap Try.prog
  have Hr := Lib.hid hr0
  have hc2 : (l.length : Int) ≤ c0 := by omega
  have HO := Lib.hid (fun (x y : Br) (W : World) => ord_calls x y W)
  clear hr0
  go_enter Try.func23, Try.ntmps23
  go_wp2
  go_loopw [13] (fun v13 wr => ∃ k : Nat, v13 = .int .i64 k ∧ k ≤ l.length ∧ Hid (∀ i, i < k → okB l i = true) ∧ Hid (Below w.heap.size w wr)) (fun v13 _ => l.length - (intOf v13).toNat)
  case atStart => exact ⟨0, rfl, Nat.zero_le _, Lib.hid (fun i hi => by omega), Lib.hid (Below.refl _ _)⟩
  case round =>
    obtain ⟨k, rfl, hk, Hok, HB⟩ := hrel
    by_cases hlt : k < l.length
    · have hlt2 : (k : Int) < l.length := by omega
      have hk0 : (0 : Int) ≤ k := by omega
      obtain ⟨ad, rfl, hel⟩ := El.of (Kd.C_below Hr.out HB.out) k hlt
      obtain ⟨x, hx⟩ : ∃ x, x = rd_T84 l (k : Int) := ⟨_, rfl⟩
      rw [← hx] at hel
      have HX := Lib.hid hx
      obtain ⟨c0, c1, c2, c3, c4, c5, c6, c7, c8, c9, c10, c11⟩ := hel
      clear hx
      have hb1 : Bx (wr.alloc (.cells #[.int .i64 x.f0, .int .i64 x.f1.f0, .int .i64 x.f1.f1, .int .i64 x.f1.f2, .int .i64 x.f1.f3, .int .i64 x.f1.f4, .string x.f1.f5, .bool x.f1.f6.f0, .string x.f1.f6.f1, .bool x.f1.f7.f0, .string x.f1.f7.f1, .int .i64 x.f1.f8] 84)) wr.heap.size x := blk_new wr _
      have HBX := Lib.hid hb1
      have HBW : Hid (Below wr.heap.size wr (wr.alloc (.cells #[.int .i64 x.f0, .int .i64 x.f1.f0, .int .i64 x.f1.f1, .int .i64 x.f1.f2, .int .i64 x.f1.f3, .int .i64 x.f1.f4, .string x.f1.f5, .bool x.f1.f6.f0, .string x.f1.f6.f1, .bool x.f1.f7.f0, .string x.f1.f7.f1, .int .i64 x.f1.f8] 84))) := Lib.hid ((Below.refl _ _).alloc (Nat.le_refl _) _)
      have HB1 := Lib.hid (bel_go HB.out HBW.out)
      clear hb1
      have HR := Lib.hid (fun V g => right_one V g x)
      go_wp2_with fail
      clear c0 c1 c2 c3 c4 c5 c6 c7 c8 c9 c10 c11
      obtain ⟨bg, hbg⟩ : ∃ bg, bg = wr.heap.size := ⟨_, rfl⟩
      rw [← hbg] at HBX
      generalize wr.alloc (.cells #[.int .i64 x.f0, .int .i64 x.f1.f0, .int .i64 x.f1.f1, .int .i64 x.f1.f2, .int .i64 x.f1.f3, .int .i64 x.f1.f4, .string x.f1.f5, .bool x.f1.f6.f0, .string x.f1.f6.f1, .bool x.f1.f7.f0, .string x.f1.f7.f1, .int .i64 x.f1.f8] 84) = w1 at *
      rw [← hbg]
      clear hbg
      cases hrt : rightB x.f1 with
      | false =>
        rw [hrt] at HR
        have Hbad : Hid (okB l k = false) := Lib.hid (by unfold okB; rw [← HX.out, hrt]; rfl)
        clear hrt
        refine start_ (n := 19) (S := fun w' => Bx w' bg x) (ds := []) #[false, false, false, false, false, false, false, false, false, false, false, false, false, false, false, false, false, false, false] (by kernel_rfl) rfl rfl HBX.out ?_
        intro hHeld
        have HBd : Hid (Below w.heap.size w w1.drew) := Lib.hid (pw_below_drewN HB1.out 1)
        generalize w1.drew = wd at *
        refine pure_ (i := 0) (N := some 18) (v := ?_) (a' := ?_) #[true, false, false, false, false, false, false, false, false, false, false, false, false, false, false, false, false, false, false] rfl rfl (by kernel_rfl) (fun _ _ _ h => h) (Or.inl ⟨by rfl, ?_⟩) ?_ ?_
        rotate_left
        · intro w'
          go_simp
          with_reducible rfl
        rotate_left
        · simp only [Act.put, List.setIfInBounds_toArray, List.set_cons_zero, List.set_cons_succ, i64_w, i32_w]
          rfl
        refine take_ (i := 1) (N := some 19) (v := ?_) (a' := ?_) #[true, true, false, false, false, false, false, false, false, false, false, false, false, false, false, false, false, false, false] rfl rfl (by kernel_rfl) (fun _ _ _ h => h) (Or.inl ⟨by rfl, ?_⟩) hHeld ?_ ?_
        rotate_left
        · intro w' hS
          have hbx : Bx w' bg x := hS
          obtain ⟨b0, b1, b2, b3, b4, b5, b6, b7, b8, b9, b10, b11⟩ := hbx.cells
          go_simp
          with_reducible rfl
        rotate_left
        · simp only [Act.put, List.setIfInBounds_toArray, List.set_cons_zero, List.set_cons_succ, i64_w, i32_w]
          rfl
        refine one_ (i := 2) (N := some 20) #[true, true, true, false, false, false, false, false, false, false, false, false, false, false, false, false, false, false, false] rfl rfl (by kernel_rfl) (by decide) (fun K hK => ?_)
        refine value_ (v := .slice (some ⟨wd.heap.size, 0, none⟩) 1 1) (w1 := wd.alloc (.cells #[.int .i64 x.f1.f0, .int .i64 x.f1.f1, .int .i64 x.f1.f2, .int .i64 x.f1.f3, .int .i64 x.f1.f4, .string x.f1.f5, .bool x.f1.f6.f0, .string x.f1.f6.f1, .bool x.f1.f7.f0, .string x.f1.f7.f1, .int .i64 x.f1.f8] 79)) (by rfl) rfl ?_ ?_
        · go_simp
        refine hK.out _ _ (Bx.below hHeld ((Below.refl _ _).alloc (Nat.le_refl _) _)) ?_
        intro hHeld
        clear hK K
        refine norm_ (a' := ?_) ?_ ?_
        rotate_left
        · simp only [Act.put, List.setIfInBounds_toArray, List.set_cons_zero, List.set_cons_succ, i64_w, i32_w]
          rfl
        refine one_ (i := 3) (N := some 21) #[true, true, true, true, false, false, false, false, false, false, false, false, false, false, false, false, false, false, false] rfl rfl (by kernel_rfl) (by decide) (fun K hK => ?_)
        refine goes_ Try.func32 (by kernel_rfl) rfl #[.slice (some ⟨wd.heap.size, 0, none⟩) 1 1] (by rfl) rfl rfl (by (try simp only [List.map_toArray, List.map_cons, List.map_nil]); first | done | rfl) ?_
        refine (HR.out _ _ (blk_new _ _)).mono ?_
        rintro e w2 ⟨rfl, hb2⟩
        refine ⟨_, rfl, ?_⟩
        have HB2 := Lib.hid (bel_go (HBd.out.alloc HBd.out.size _) hb2)
        refine hK.out _ _ (Bx.below hHeld hb2) ?_
        intro hHeld
        clear hK K hb2
        refine norm_ (a' := ?_) ?_ ?_
        rotate_left
        · simp only [Act.put, List.setIfInBounds_toArray, List.set_cons_zero, List.set_cons_succ, i64_w, i32_w]
          rfl
        refine pure_ (i := 4) (N := some 22) (v := ?_) (a' := ?_) #[true, true, true, true, true, false, false, false, false, false, false, false, false, false, false, false, false, false, false] rfl rfl (by kernel_rfl) (fun _ _ _ h => h) (Or.inl ⟨by rfl, ?_⟩) ?_ ?_
        rotate_left
        · intro w'
          go_simp
          with_reducible rfl
        rotate_left
        · simp only [Act.put, List.setIfInBounds_toArray, List.set_cons_zero, List.set_cons_succ, i64_w, i32_w]
          rfl
        refine pure_ (i := 5) (N := some 23) (v := ?_) (a' := ?_) #[true, true, true, true, true, true, false, false, false, false, false, false, false, false, false, false, false, false, false] rfl rfl (by kernel_rfl) (fun _ _ _ h => h) (Or.inl ⟨by rfl, ?_⟩) ?_ ?_
        rotate_left
        · intro w'
          go_simp
          with_reducible rfl
        rotate_left
        · simp only [Act.put, List.setIfInBounds_toArray, List.set_cons_zero, List.set_cons_succ, i64_w, i32_w]
          rfl
        refine pure_ (i := 6) (N := some 24) (v := undef) (a' := ?_) #[true, true, true, true, true, true, true, false, false, false, false, false, false, false, false, false, false, false, false] rfl rfl (by kernel_rfl) (fun _ _ _ h => h) (Or.inr ⟨by rfl, rfl⟩) ?_ ?_
        rotate_left
        · simp only [Act.put, List.setIfInBounds_toArray, List.set_cons_zero, List.set_cons_succ, i64_w, i32_w]
          rfl
        refine pure_ (i := 7) (N := some 25) (v := undef) (a' := ?_) #[true, true, true, true, true, true, true, true, false, false, false, false, false, false, false, false, false, false, false] rfl rfl (by kernel_rfl) (fun _ _ _ h => h) (Or.inr ⟨by rfl, rfl⟩) ?_ ?_
        rotate_left
        · simp only [Act.put, List.setIfInBounds_toArray, List.set_cons_zero, List.set_cons_succ, i64_w, i32_w]
          rfl
        refine pure_ (i := 8) (N := some 26) (v := undef) (a' := ?_) #[true, true, true, true, true, true, true, true, true, false, false, false, false, false, false, false, false, false, false] rfl rfl (by kernel_rfl) (fun _ _ _ h => h) (Or.inr ⟨by rfl, rfl⟩) ?_ ?_
        rotate_left
        · simp only [Act.put, List.setIfInBounds_toArray, List.set_cons_zero, List.set_cons_succ, i64_w, i32_w]
          rfl
        refine pure_ (i := 9) (N := some 27) (v := undef) (a' := ?_) #[true, true, true, true, true, true, true, true, true, true, false, false, false, false, false, false, false, false, false] rfl rfl (by kernel_rfl) (fun _ _ _ h => h) (Or.inr ⟨by rfl, rfl⟩) ?_ ?_
        rotate_left
        · simp only [Act.put, List.setIfInBounds_toArray, List.set_cons_zero, List.set_cons_succ, i64_w, i32_w]
          rfl
        refine pure_ (i := 10) (N := some 28) (v := undef) (a' := ?_) #[true, true, true, true, true, true, true, true, true, true, true, false, false, false, false, false, false, false, false] rfl rfl (by kernel_rfl) (fun _ _ _ h => h) (Or.inr ⟨by rfl, rfl⟩) ?_ ?_
        rotate_left
        · simp only [Act.put, List.setIfInBounds_toArray, List.set_cons_zero, List.set_cons_succ, i64_w, i32_w]
          rfl
        refine pure_ (i := 11) (N := some 29) (v := undef) (a' := ?_) #[true, true, true, true, true, true, true, true, true, true, true, true, false, false, false, false, false, false, false] rfl rfl (by kernel_rfl) (fun _ _ _ h => h) (Or.inr ⟨by rfl, rfl⟩) ?_ ?_
        rotate_left
        · simp only [Act.put, List.setIfInBounds_toArray, List.set_cons_zero, List.set_cons_succ, i64_w, i32_w]
          rfl
        refine pure_ (i := 12) (N := some 30) (v := undef) (a' := ?_) #[true, true, true, true, true, true, true, true, true, true, true, true, true, false, false, false, false, false, false] rfl rfl (by kernel_rfl) (fun _ _ _ h => h) (Or.inr ⟨by rfl, rfl⟩) ?_ ?_
        rotate_left
        · simp only [Act.put, List.setIfInBounds_toArray, List.set_cons_zero, List.set_cons_succ, i64_w, i32_w]
          rfl
        refine pure_ (i := 13) (N := some 31) (v := undef) (a' := ?_) #[true, true, true, true, true, true, true, true, true, true, true, true, true, true, false, false, false, false, false] rfl rfl (by kernel_rfl) (fun _ _ _ h => h) (Or.inr ⟨by rfl, rfl⟩) ?_ ?_
        rotate_left
        · simp only [Act.put, List.setIfInBounds_toArray, List.set_cons_zero, List.set_cons_succ, i64_w, i32_w]
          rfl
        refine pure_ (i := 14) (N := some 32) (v := undef) (a' := ?_) #[true, true, true, true, true, true, true, true, true, true, true, true, true, true, true, false, false, false, false] rfl rfl (by kernel_rfl) (fun _ _ _ h => h) (Or.inr ⟨by rfl, rfl⟩) ?_ ?_
        rotate_left
        · simp only [Act.put, List.setIfInBounds_toArray, List.set_cons_zero, List.set_cons_succ, i64_w, i32_w]
          rfl
        refine pure_ (i := 15) (N := some 33) (v := undef) (a' := ?_) #[true, true, true, true, true, true, true, true, true, true, true, true, true, true, true, true, false, false, false] rfl rfl (by kernel_rfl) (fun _ _ _ h => h) (Or.inr ⟨by rfl, rfl⟩) ?_ ?_
        rotate_left
        · simp only [Act.put, List.setIfInBounds_toArray, List.set_cons_zero, List.set_cons_succ, i64_w, i32_w]
          rfl
        refine pure_ (i := 16) (N := some 34) (v := undef) (a' := ?_) #[true, true, true, true, true, true, true, true, true, true, true, true, true, true, true, true, true, false, false] rfl rfl (by kernel_rfl) (fun _ _ _ h => h) (Or.inr ⟨by rfl, rfl⟩) ?_ ?_
        rotate_left
        · simp only [Act.put, List.setIfInBounds_toArray, List.set_cons_zero, List.set_cons_succ, i64_w, i32_w]
          rfl
        refine pure_ (i := 17) (N := some 35) (v := undef) (a' := ?_) #[true, true, true, true, true, true, true, true, true, true, true, true, true, true, true, true, true, true, false] rfl rfl (by kernel_rfl) (fun _ _ _ h => h) (Or.inr ⟨by rfl, rfl⟩) ?_ ?_
        rotate_left
        · simp only [Act.put, List.setIfInBounds_toArray, List.set_cons_zero, List.set_cons_succ, i64_w, i32_w]
          rfl
        refine pure_ (i := 18) (N := some 36) (v := ?_) (a' := ?_) #[true, true, true, true, true, true, true, true, true, true, true, true, true, true, true, true, true, true, true] rfl rfl (by kernel_rfl) (fun _ _ _ h => h) (Or.inl ⟨by rfl, ?_⟩) ?_ ?_
        rotate_left
        · intro w'
          go_simp
          with_reducible rfl
        rotate_left
        · simp only [Act.put, List.setIfInBounds_toArray, List.set_cons_zero, List.set_cons_succ, i64_w, i32_w]
          rfl
        refine done_ (by kernel_rfl) ?_
        go_wp2
        go_ret2
        exact ⟨_, rfl, Kd.R_nil _ _ _ _ _, HB2.out⟩
      | true =>
        rw [hrt] at HR
        have Hrt := Lib.hid hrt
        clear hrt
        rcases Nat.eq_zero_or_pos k with hz | hz
        · subst hz
          have Hgd : Hid (okB l 0 = true) := Lib.hid (by unfold okB; rw [← HX.out, Hrt.out]; rfl)
          refine start_ (n := 19) (S := fun w' => Bx w' bg x) (ds := []) #[false, false, false, false, false, false, false, false, false, false, false, false, false, false, false, false, false, false, false] (by kernel_rfl) rfl rfl HBX.out ?_
          intro hHeld
          have HBd : Hid (Below w.heap.size w w1.drew) := Lib.hid (pw_below_drewN HB1.out 1)
          generalize w1.drew = wd at *
          refine pure_ (i := 0) (N := some 18) (v := ?_) (a' := ?_) #[true, false, false, false, false, false, false, false, false, false, false, false, false, false, false, false, false, false, false] rfl rfl (by kernel_rfl) (fun _ _ _ h => h) (Or.inl ⟨by rfl, ?_⟩) ?_ ?_
          rotate_left
          · intro w'
            go_simp
            with_reducible rfl
          rotate_left
          · simp only [Act.put, List.setIfInBounds_toArray, List.set_cons_zero, List.set_cons_succ, i64_w, i32_w]
            rfl
          refine take_ (i := 1) (N := some 19) (v := ?_) (a' := ?_) #[true, true, false, false, false, false, false, false, false, false, false, false, false, false, false, false, false, false, false] rfl rfl (by kernel_rfl) (fun _ _ _ h => h) (Or.inl ⟨by rfl, ?_⟩) hHeld ?_ ?_
          rotate_left
          · intro w' hS
            have hbx : Bx w' bg x := hS
            obtain ⟨b0, b1, b2, b3, b4, b5, b6, b7, b8, b9, b10, b11⟩ := hbx.cells
            go_simp
            with_reducible rfl
          rotate_left
          · simp only [Act.put, List.setIfInBounds_toArray, List.set_cons_zero, List.set_cons_succ, i64_w, i32_w]
            rfl
          refine one_ (i := 2) (N := some 20) #[true, true, true, false, false, false, false, false, false, false, false, false, false, false, false, false, false, false, false] rfl rfl (by kernel_rfl) (by decide) (fun K hK => ?_)
          refine value_ (v := .slice (some ⟨wd.heap.size, 0, none⟩) 1 1) (w1 := wd.alloc (.cells #[.int .i64 x.f1.f0, .int .i64 x.f1.f1, .int .i64 x.f1.f2, .int .i64 x.f1.f3, .int .i64 x.f1.f4, .string x.f1.f5, .bool x.f1.f6.f0, .string x.f1.f6.f1, .bool x.f1.f7.f0, .string x.f1.f7.f1, .int .i64 x.f1.f8] 79)) (by rfl) rfl ?_ ?_
          · go_simp
          refine hK.out _ _ (Bx.below hHeld ((Below.refl _ _).alloc (Nat.le_refl _) _)) ?_
          intro hHeld
          clear hK K
          refine norm_ (a' := ?_) ?_ ?_
          rotate_left
          · simp only [Act.put, List.setIfInBounds_toArray, List.set_cons_zero, List.set_cons_succ, i64_w, i32_w]
            rfl
          refine one_ (i := 3) (N := some 21) #[true, true, true, true, false, false, false, false, false, false, false, false, false, false, false, false, false, false, false] rfl rfl (by kernel_rfl) (by decide) (fun K hK => ?_)
          refine goes_ Try.func32 (by kernel_rfl) rfl #[.slice (some ⟨wd.heap.size, 0, none⟩) 1 1] (by rfl) rfl rfl (by (try simp only [List.map_toArray, List.map_cons, List.map_nil]); first | done | rfl) ?_
          refine (HR.out _ _ (blk_new _ _)).mono ?_
          rintro e w2 ⟨rfl, hb2⟩
          refine ⟨_, rfl, ?_⟩
          have HB2 := Lib.hid (bel_go (HBd.out.alloc HBd.out.size _) hb2)
          refine hK.out _ _ (Bx.below hHeld hb2) ?_
          intro hHeld
          clear hK K hb2
          refine norm_ (a' := ?_) ?_ ?_
          rotate_left
          · simp only [Act.put, List.setIfInBounds_toArray, List.set_cons_zero, List.set_cons_succ, i64_w, i32_w]
            rfl
          refine pure_ (i := 4) (N := some 22) (v := ?_) (a' := ?_) #[true, true, true, true, true, false, false, false, false, false, false, false, false, false, false, false, false, false, false] rfl rfl (by kernel_rfl) (fun _ _ _ h => h) (Or.inl ⟨by rfl, ?_⟩) ?_ ?_
          rotate_left
          · intro w'
            go_simp
            with_reducible rfl
          rotate_left
          · simp only [Act.put, List.setIfInBounds_toArray, List.set_cons_zero, List.set_cons_succ, i64_w, i32_w]
            rfl
          refine pure_ (i := 5) (N := some 23) (v := ?_) (a' := ?_) #[true, true, true, true, true, true, false, false, false, false, false, false, false, false, false, false, false, false, false] rfl rfl (by kernel_rfl) (fun _ _ _ h => h) (Or.inl ⟨by rfl, ?_⟩) ?_ ?_
          rotate_left
          · intro w'
            go_simp
            with_reducible rfl
          rotate_left
          · simp only [Act.put, List.setIfInBounds_toArray, List.set_cons_zero, List.set_cons_succ, i64_w, i32_w]
            rfl
          refine pure_ (i := 6) (N := some 24) (v := ?_) (a' := ?_) #[true, true, true, true, true, true, true, false, false, false, false, false, false, false, false, false, false, false, false] rfl rfl (by kernel_rfl) (fun _ _ _ h => h) (Or.inl ⟨by rfl, ?_⟩) ?_ ?_
          rotate_left
          · intro w'
            go_simp
            with_reducible rfl
          rotate_left
          · simp only [Act.put, List.setIfInBounds_toArray, List.set_cons_zero, List.set_cons_succ, i64_w, i32_w]
            rfl
          refine pure_ (i := 7) (N := some 25) (v := ?_) (a' := ?_) #[true, true, true, true, true, true, true, true, false, false, false, false, false, false, false, false, false, false, false] rfl rfl (by kernel_rfl) (fun _ _ _ h => h) (Or.inl ⟨by rfl, ?_⟩) ?_ ?_
          rotate_left
          · intro w'
            go_simp
            with_reducible rfl
          rotate_left
          · simp only [Act.put, List.setIfInBounds_toArray, List.set_cons_zero, List.set_cons_succ, i64_w, i32_w]
            rfl
          refine pure_ (i := 8) (N := some 26) (v := ?_) (a' := ?_) #[true, true, true, true, true, true, true, true, true, false, false, false, false, false, false, false, false, false, false] rfl rfl (by kernel_rfl) (fun _ _ _ h => h) (Or.inl ⟨by rfl, ?_⟩) ?_ ?_
          rotate_left
          · intro w'
            go_simp
            with_reducible rfl
          rotate_left
          · simp only [Act.put, List.setIfInBounds_toArray, List.set_cons_zero, List.set_cons_succ, i64_w, i32_w]
            rfl
          refine pure_ (i := 9) (N := some 27) (v := undef) (a' := ?_) #[true, true, true, true, true, true, true, true, true, true, false, false, false, false, false, false, false, false, false] rfl rfl (by kernel_rfl) (fun _ _ _ h => h) (Or.inr ⟨by rfl, rfl⟩) ?_ ?_
          rotate_left
          · simp only [Act.put, List.setIfInBounds_toArray, List.set_cons_zero, List.set_cons_succ, i64_w, i32_w]
            rfl
          refine pure_ (i := 10) (N := some 28) (v := undef) (a' := ?_) #[true, true, true, true, true, true, true, true, true, true, true, false, false, false, false, false, false, false, false] rfl rfl (by kernel_rfl) (fun _ _ _ h => h) (Or.inr ⟨by rfl, rfl⟩) ?_ ?_
          rotate_left
          · simp only [Act.put, List.setIfInBounds_toArray, List.set_cons_zero, List.set_cons_succ, i64_w, i32_w]
            rfl
          refine pure_ (i := 11) (N := some 29) (v := undef) (a' := ?_) #[true, true, true, true, true, true, true, true, true, true, true, true, false, false, false, false, false, false, false] rfl rfl (by kernel_rfl) (fun _ _ _ h => h) (Or.inr ⟨by rfl, rfl⟩) ?_ ?_
          rotate_left
          · simp only [Act.put, List.setIfInBounds_toArray, List.set_cons_zero, List.set_cons_succ, i64_w, i32_w]
            rfl
          refine pure_ (i := 12) (N := some 30) (v := undef) (a' := ?_) #[true, true, true, true, true, true, true, true, true, true, true, true, true, false, false, false, false, false, false] rfl rfl (by kernel_rfl) (fun _ _ _ h => h) (Or.inr ⟨by rfl, rfl⟩) ?_ ?_
          rotate_left
          · simp only [Act.put, List.setIfInBounds_toArray, List.set_cons_zero, List.set_cons_succ, i64_w, i32_w]
            rfl
          refine pure_ (i := 13) (N := some 31) (v := undef) (a' := ?_) #[true, true, true, true, true, true, true, true, true, true, true, true, true, true, false, false, false, false, false] rfl rfl (by kernel_rfl) (fun _ _ _ h => h) (Or.inr ⟨by rfl, rfl⟩) ?_ ?_
          rotate_left
          · simp only [Act.put, List.setIfInBounds_toArray, List.set_cons_zero, List.set_cons_succ, i64_w, i32_w]
            rfl
          refine pure_ (i := 14) (N := some 32) (v := undef) (a' := ?_) #[true, true, true, true, true, true, true, true, true, true, true, true, true, true, true, false, false, false, false] rfl rfl (by kernel_rfl) (fun _ _ _ h => h) (Or.inr ⟨by rfl, rfl⟩) ?_ ?_
          rotate_left
          · simp only [Act.put, List.setIfInBounds_toArray, List.set_cons_zero, List.set_cons_succ, i64_w, i32_w]
            rfl
          refine pure_ (i := 15) (N := some 33) (v := undef) (a' := ?_) #[true, true, true, true, true, true, true, true, true, true, true, true, true, true, true, true, false, false, false] rfl rfl (by kernel_rfl) (fun _ _ _ h => h) (Or.inr ⟨by rfl, rfl⟩) ?_ ?_
          rotate_left
          · simp only [Act.put, List.setIfInBounds_toArray, List.set_cons_zero, List.set_cons_succ, i64_w, i32_w]
            rfl
          refine pure_ (i := 16) (N := some 34) (v := undef) (a' := ?_) #[true, true, true, true, true, true, true, true, true, true, true, true, true, true, true, true, true, false, false] rfl rfl (by kernel_rfl) (fun _ _ _ h => h) (Or.inr ⟨by rfl, rfl⟩) ?_ ?_
          rotate_left
          · simp only [Act.put, List.setIfInBounds_toArray, List.set_cons_zero, List.set_cons_succ, i64_w, i32_w]
            rfl
          refine pure_ (i := 17) (N := some 35) (v := ?_) (a' := ?_) #[true, true, true, true, true, true, true, true, true, true, true, true, true, true, true, true, true, true, false] rfl rfl (by kernel_rfl) (fun _ _ _ h => h) (Or.inl ⟨by rfl, ?_⟩) ?_ ?_
          rotate_left
          · intro w'
            go_simp
            with_reducible rfl
          rotate_left
          · simp only [Act.put, List.setIfInBounds_toArray, List.set_cons_zero, List.set_cons_succ, i64_w, i32_w]
            rfl
          refine pure_ (i := 18) (N := some 36) (v := ?_) (a' := ?_) #[true, true, true, true, true, true, true, true, true, true, true, true, true, true, true, true, true, true, true] rfl rfl (by kernel_rfl) (fun _ _ _ h => h) (Or.inl ⟨by rfl, ?_⟩) ?_ ?_
          rotate_left
          · intro w'
            go_simp
            with_reducible rfl
          rotate_left
          · simp only [Act.put, List.setIfInBounds_toArray, List.set_cons_zero, List.set_cons_succ, i64_w, i32_w]
            rfl
          refine done_ (by kernel_rfl) ?_
          go_wp2
          go_roundw
          case rel => exact ⟨0 + 1, by go_num, by omega, Lib.hid (fun i hi => by
            by_cases e : i = 0
            · subst e
              exact Hgd.out
            · exact Hok.out i (by omega)), HB2⟩
          case measure => simp [intOf]; omega
        · obtain ⟨m, rfl⟩ : ∃ m, k = m + 1 := ⟨k - 1, by omega⟩
          have hmm : ((m + 1 : Nat) : Int) - 1 = (m : Int) := by omega
          have hm0 : (0 : Int) ≤ m := by omega
          have hml : (m : Int) < l.length := by omega
          obtain ⟨ad', had, hel⟩ := El.of (Kd.C_below Hr.out HB1.out) m (by omega)
          obtain rfl := Option.some.inj had
          obtain ⟨y, hy⟩ : ∃ y, y = rd_T84 l (m : Int) := ⟨_, rfl⟩
          rw [← hy] at hel
          have HEL := Lib.hid hel
          clear hel had
          have hord : ordV (rd_T84 l (((m + 1 : Nat) : Int) - 1)) (rd_T84 l ((m + 1 : Nat) : Int)) = ordV y x := by rw [hmm, ← hy, ← HX.out]
          have HY := Lib.hid hy
          have Hord := Lib.hid hord
          clear hy hord hmm
          have HO := Lib.hid (HO.out y x)
          obtain ⟨q, hq⟩ : ∃ q, q = ordV y x := ⟨_, rfl⟩
          rw [← hq] at HO
          have HQ := Lib.hid hq
          clear hq
          by_cases hneg : q < 0
          · have Hgd : Hid (okB l (m + 1) = true) := Lib.hid (by
              unfold okB
              rw [Hord.out, ← HQ.out, ← HX.out, Hrt.out]
              simp [hneg])
            have hge : decide (q ≥ 0) = false := by simpa using hneg
            have hwm : wrap64 (m : Int) = (m : Int) := by unfold wrap64; omega
            refine start_ (n := 19) (S := fun w' => Bx w' bg x ∧ El w' (ad.add (m * 12)) y) (ds := []) #[false, false, false, false, false, false, false, false, false, false, false, false, false, false, false, false, false, false, false] (by kernel_rfl) rfl rfl ⟨HBX.out, HEL.out⟩ ?_
            intro hHeld
            have HBd : Hid (Below w.heap.size w w1.drew) := Lib.hid (pw_below_drewN HB1.out 1)
            generalize w1.drew = wd at *
            refine pure_ (i := 0) (N := some 18) (v := ?_) (a' := ?_) #[true, false, false, false, false, false, false, false, false, false, false, false, false, false, false, false, false, false, false] rfl rfl (by kernel_rfl) (fun _ _ _ h => h) (Or.inl ⟨by rfl, ?_⟩) ?_ ?_
            rotate_left
            · intro w'
              go_simp
              with_reducible rfl
            rotate_left
            · simp only [Act.put, List.setIfInBounds_toArray, List.set_cons_zero, List.set_cons_succ, i64_w, i32_w]
              rfl
            refine take_ (i := 1) (N := some 19) (v := ?_) (a' := ?_) #[true, true, false, false, false, false, false, false, false, false, false, false, false, false, false, false, false, false, false] rfl rfl (by kernel_rfl) (fun _ _ _ h => h) (Or.inl ⟨by rfl, ?_⟩) hHeld ?_ ?_
            rotate_left
            · intro w' hS
              obtain ⟨hbx, hel⟩ : Bx w' bg x ∧ El w' (ad.add (m * 12)) y := hS
              obtain ⟨b0, b1, b2, b3, b4, b5, b6, b7, b8, b9, b10, b11⟩ := hbx.cells
              obtain ⟨e0, e1, e2, e3, e4, e5, e6, e7, e8, e9, e10, e11⟩ := hel
              go_simp
              with_reducible rfl
            rotate_left
            · simp only [Act.put, List.setIfInBounds_toArray, List.set_cons_zero, List.set_cons_succ, i64_w, i32_w]
              rfl
            refine one_ (i := 2) (N := some 20) #[true, true, true, false, false, false, false, false, false, false, false, false, false, false, false, false, false, false, false] rfl rfl (by kernel_rfl) (by decide) (fun K hK => ?_)
            refine value_ (v := .slice (some ⟨wd.heap.size, 0, none⟩) 1 1) (w1 := wd.alloc (.cells #[.int .i64 x.f1.f0, .int .i64 x.f1.f1, .int .i64 x.f1.f2, .int .i64 x.f1.f3, .int .i64 x.f1.f4, .string x.f1.f5, .bool x.f1.f6.f0, .string x.f1.f6.f1, .bool x.f1.f7.f0, .string x.f1.f7.f1, .int .i64 x.f1.f8] 79)) (by rfl) rfl ?_ ?_
            · go_simp
            refine hK.out _ _ ⟨Bx.below hHeld.1 ((Below.refl _ _).alloc (Nat.le_refl _) _), El.below hHeld.2 ((Below.refl _ _).alloc (Nat.le_refl _) _)⟩ ?_
            intro hHeld
            clear hK K
            refine norm_ (a' := ?_) ?_ ?_
            rotate_left
            · simp only [Act.put, List.setIfInBounds_toArray, List.set_cons_zero, List.set_cons_succ, i64_w, i32_w]
              rfl
            refine one_ (i := 3) (N := some 21) #[true, true, true, true, false, false, false, false, false, false, false, false, false, false, false, false, false, false, false] rfl rfl (by kernel_rfl) (by decide) (fun K hK => ?_)
            refine goes_ Try.func32 (by kernel_rfl) rfl #[.slice (some ⟨wd.heap.size, 0, none⟩) 1 1] (by rfl) rfl rfl (by (try simp only [List.map_toArray, List.map_cons, List.map_nil]); first | done | rfl) ?_
            refine (HR.out _ _ (blk_new _ _)).mono ?_
            rintro e w2 ⟨rfl, hb2⟩
            refine ⟨_, rfl, ?_⟩
            have HB2 := Lib.hid (bel_go (HBd.out.alloc HBd.out.size _) hb2)
            refine hK.out _ _ ⟨Bx.below hHeld.1 hb2, El.below hHeld.2 hb2⟩ ?_
            intro hHeld
            clear hK K hb2
            refine norm_ (a' := ?_) ?_ ?_
            rotate_left
            · simp only [Act.put, List.setIfInBounds_toArray, List.set_cons_zero, List.set_cons_succ, i64_w, i32_w]
              rfl
            refine pure_ (i := 4) (N := some 22) (v := ?_) (a' := ?_) #[true, true, true, true, true, false, false, false, false, false, false, false, false, false, false, false, false, false, false] rfl rfl (by kernel_rfl) (fun _ _ _ h => h) (Or.inl ⟨by rfl, ?_⟩) ?_ ?_
            rotate_left
            · intro w'
              go_simp
              with_reducible rfl
            rotate_left
            · simp only [Act.put, List.setIfInBounds_toArray, List.set_cons_zero, List.set_cons_succ, i64_w, i32_w]
              rfl
            refine pure_ (i := 5) (N := some 23) (v := ?_) (a' := ?_) #[true, true, true, true, true, true, false, false, false, false, false, false, false, false, false, false, false, false, false] rfl rfl (by kernel_rfl) (fun _ _ _ h => h) (Or.inl ⟨by rfl, ?_⟩) ?_ ?_
            rotate_left
            · intro w'
              go_simp
              with_reducible rfl
            rotate_left
            · simp only [Act.put, List.setIfInBounds_toArray, List.set_cons_zero, List.set_cons_succ, i64_w, i32_w]
              rfl
            refine pure_ (i := 6) (N := some 24) (v := ?_) (a' := ?_) #[true, true, true, true, true, true, true, false, false, false, false, false, false, false, false, false, false, false, false] rfl rfl (by kernel_rfl) (fun _ _ _ h => h) (Or.inl ⟨by rfl, ?_⟩) ?_ ?_
            rotate_left
            · intro w'
              go_simp
              with_reducible rfl
            rotate_left
            · simp only [Act.put, List.setIfInBounds_toArray, List.set_cons_zero, List.set_cons_succ, i64_w, i32_w]
              rfl
            refine pure_ (i := 7) (N := some 25) (v := ?_) (a' := ?_) #[true, true, true, true, true, true, true, true, false, false, false, false, false, false, false, false, false, false, false] rfl rfl (by kernel_rfl) (fun _ _ _ h => h) (Or.inl ⟨by rfl, ?_⟩) ?_ ?_
            rotate_left
            · intro w'
              go_simp
              with_reducible rfl
            rotate_left
            · simp only [Act.put, List.setIfInBounds_toArray, List.set_cons_zero, List.set_cons_succ, i64_w, i32_w]
              rfl
            refine pure_ (i := 8) (N := some 26) (v := ?_) (a' := ?_) #[true, true, true, true, true, true, true, true, true, false, false, false, false, false, false, false, false, false, false] rfl rfl (by kernel_rfl) (fun _ _ _ h => h) (Or.inl ⟨by rfl, ?_⟩) ?_ ?_
            rotate_left
            · intro w'
              go_simp
              with_reducible rfl
            rotate_left
            · simp only [Act.put, List.setIfInBounds_toArray, List.set_cons_zero, List.set_cons_succ, i64_w, i32_w]
              rfl
            refine pure_ (i := 9) (N := some 27) (v := ?_) (a' := ?_) #[true, true, true, true, true, true, true, true, true, true, false, false, false, false, false, false, false, false, false] rfl rfl (by kernel_rfl) (fun _ _ _ h => h) (Or.inl ⟨by rfl, ?_⟩) ?_ ?_
            rotate_left
            · intro w'
              go_simp
              with_reducible rfl
            rotate_left
            · simp only [Act.put, List.setIfInBounds_toArray, List.set_cons_zero, List.set_cons_succ, i64_w, i32_w]
              rfl
            refine pure_ (i := 10) (N := some 28) (v := ?_) (a' := ?_) #[true, true, true, true, true, true, true, true, true, true, true, false, false, false, false, false, false, false, false] rfl rfl (by kernel_rfl) (fun _ _ _ h => h) (Or.inl ⟨by rfl, ?_⟩) ?_ ?_
            rotate_left
            · intro w'
              go_simp
              with_reducible rfl
            rotate_left
            · simp only [Act.put, List.setIfInBounds_toArray, List.set_cons_zero, List.set_cons_succ, i64_w, i32_w]
              rfl
            refine pure_ (i := 11) (N := some 29) (v := ?_) (a' := ?_) #[true, true, true, true, true, true, true, true, true, true, true, true, false, false, false, false, false, false, false] rfl rfl (by kernel_rfl) (fun _ _ _ h => h) (Or.inl ⟨by rfl, ?_⟩) ?_ ?_
            rotate_left
            · intro w'
              go_simp
              with_reducible rfl
            rotate_left
            · simp only [Act.put, List.setIfInBounds_toArray, List.set_cons_zero, List.set_cons_succ, i64_w, i32_w]
              rfl
            refine pure_ (i := 12) (N := some 30) (v := ?_) (a' := ?_) #[true, true, true, true, true, true, true, true, true, true, true, true, true, false, false, false, false, false, false] rfl rfl (by kernel_rfl) (fun _ _ _ h => h) (Or.inl ⟨by rfl, ?_⟩) ?_ ?_
            rotate_left
            · intro w'
              go_simp
              with_reducible rfl
            rotate_left
            · simp only [Act.put, List.setIfInBounds_toArray, List.set_cons_zero, List.set_cons_succ, i64_w, i32_w]
              rfl
            refine take_ (i := 13) (N := some 31) (v := ?_) (a' := ?_) #[true, true, true, true, true, true, true, true, true, true, true, true, true, true, false, false, false, false, false] rfl rfl (by kernel_rfl) (fun _ _ _ h => h) (Or.inl ⟨by rfl, ?_⟩) hHeld ?_ ?_
            rotate_left
            · intro w' hS
              obtain ⟨hbx, hel⟩ : Bx w' bg x ∧ El w' (ad.add (m * 12)) y := hS
              obtain ⟨b0, b1, b2, b3, b4, b5, b6, b7, b8, b9, b10, b11⟩ := hbx.cells
              obtain ⟨e0, e1, e2, e3, e4, e5, e6, e7, e8, e9, e10, e11⟩ := hel
              go_simp
              with_reducible rfl
            rotate_left
            · simp only [Act.put, List.setIfInBounds_toArray, List.set_cons_zero, List.set_cons_succ, i64_w, i32_w]
              rfl
            refine take_ (i := 14) (N := some 32) (v := ?_) (a' := ?_) #[true, true, true, true, true, true, true, true, true, true, true, true, true, true, true, false, false, false, false] rfl rfl (by kernel_rfl) (fun _ _ _ h => h) (Or.inl ⟨by rfl, ?_⟩) hHeld ?_ ?_
            rotate_left
            · intro w' hS
              obtain ⟨hbx, hel⟩ : Bx w' bg x ∧ El w' (ad.add (m * 12)) y := hS
              obtain ⟨b0, b1, b2, b3, b4, b5, b6, b7, b8, b9, b10, b11⟩ := hbx.cells
              obtain ⟨e0, e1, e2, e3, e4, e5, e6, e7, e8, e9, e10, e11⟩ := hel
              go_simp
              with_reducible rfl
            rotate_left
            · simp only [Act.put, List.setIfInBounds_toArray, List.set_cons_zero, List.set_cons_succ, i64_w, i32_w]
              rfl
            refine one_ (i := 15) (N := some 33) #[true, true, true, true, true, true, true, true, true, true, true, true, true, true, true, true, false, false, false] rfl rfl (by kernel_rfl) (by decide) (fun K hK => ?_)
            refine goes_ Try.func33 (by kernel_rfl) rfl #[.agg #[.int .i64 y.f0, .int .i64 y.f1.f0, .int .i64 y.f1.f1, .int .i64 y.f1.f2, .int .i64 y.f1.f3, .int .i64 y.f1.f4, .string y.f1.f5, .bool y.f1.f6.f0, .string y.f1.f6.f1, .bool y.f1.f7.f0, .string y.f1.f7.f1, .int .i64 y.f1.f8], .agg #[.int .i64 x.f0, .int .i64 x.f1.f0, .int .i64 x.f1.f1, .int .i64 x.f1.f2, .int .i64 x.f1.f3, .int .i64 x.f1.f4, .string x.f1.f5, .bool x.f1.f6.f0, .string x.f1.f6.f1, .bool x.f1.f7.f0, .string x.f1.f7.f1, .int .i64 x.f1.f8]] (by rfl) rfl rfl (by (try simp only [List.map_toArray, List.map_cons, List.map_nil]); first | done | rfl) ?_
            refine (HO.out _).mono ?_
            rintro e w3 ⟨rfl, hb3⟩
            refine ⟨_, rfl, ?_⟩
            have HB3 := Lib.hid (bel_go HB2.out hb3)
            refine hK.out _ _ ⟨Bx.below hHeld.1 hb3, El.below hHeld.2 hb3⟩ ?_
            intro hHeld
            clear hK K hb3
            refine norm_ (a' := ?_) ?_ ?_
            rotate_left
            · simp only [Act.put, List.setIfInBounds_toArray, List.set_cons_zero, List.set_cons_succ, i64_w, i32_w]
              rfl
            refine pure_ (i := 16) (N := some 34) (v := ?_) (a' := ?_) #[true, true, true, true, true, true, true, true, true, true, true, true, true, true, true, true, true, false, false] rfl rfl (by kernel_rfl) (fun _ _ _ h => h) (Or.inl ⟨by rfl, ?_⟩) ?_ ?_
            rotate_left
            · intro w'
              go_simp
              with_reducible rfl
            rotate_left
            · simp only [Act.put, List.setIfInBounds_toArray, List.set_cons_zero, List.set_cons_succ, i64_w, i32_w]
              rfl
            refine pure_ (i := 17) (N := some 35) (v := ?_) (a' := ?_) #[true, true, true, true, true, true, true, true, true, true, true, true, true, true, true, true, true, true, false] rfl rfl (by kernel_rfl) (fun _ _ _ h => h) (Or.inl ⟨by rfl, ?_⟩) ?_ ?_
            rotate_left
            · intro w'
              go_simp
              with_reducible rfl
            rotate_left
            · simp only [Act.put, List.setIfInBounds_toArray, List.set_cons_zero, List.set_cons_succ, i64_w, i32_w]
              rfl
            refine pure_ (i := 18) (N := some 36) (v := ?_) (a' := ?_) #[true, true, true, true, true, true, true, true, true, true, true, true, true, true, true, true, true, true, true] rfl rfl (by kernel_rfl) (fun _ _ _ h => h) (Or.inl ⟨by rfl, ?_⟩) ?_ ?_
            rotate_left
            · intro w'
              go_simp
              with_reducible rfl
            rotate_left
            · simp only [Act.put, List.setIfInBounds_toArray, List.set_cons_zero, List.set_cons_succ, i64_w, i32_w]
              rfl
            refine done_ (by kernel_rfl) ?_
            clear hwm
            go_wp2
            go_roundw
            case rel => exact ⟨m + 1 + 1, by go_num, by omega, Lib.hid (fun i hi => by
              by_cases e : i = m + 1
              · subst e
                exact Hgd.out
              · exact Hok.out i (by omega)), HB3⟩
            case measure => simp [intOf]; omega
          · have Hbad : Hid (okB l (m + 1) = false) := Lib.hid (by
              unfold okB
              rw [Hord.out, ← HQ.out, ← HX.out, Hrt.out]
              simp [hneg])
            have hge : decide (q ≥ 0) = true := by simpa using hneg
            have hwm : wrap64 (m : Int) = (m : Int) := by unfold wrap64; omega
            refine start_ (n := 19) (S := fun w' => Bx w' bg x ∧ El w' (ad.add (m * 12)) y) (ds := []) #[false, false, false, false, false, false, false, false, false, false, false, false, false, false, false, false, false, false, false] (by kernel_rfl) rfl rfl ⟨HBX.out, HEL.out⟩ ?_
            intro hHeld
            have HBd : Hid (Below w.heap.size w w1.drew) := Lib.hid (pw_below_drewN HB1.out 1)
            generalize w1.drew = wd at *
            refine pure_ (i := 0) (N := some 18) (v := ?_) (a' := ?_) #[true, false, false, false, false, false, false, false, false, false, false, false, false, false, false, false, false, false, false] rfl rfl (by kernel_rfl) (fun _ _ _ h => h) (Or.inl ⟨by rfl, ?_⟩) ?_ ?_
            rotate_left
            · intro w'
              go_simp
              with_reducible rfl
            rotate_left
            · simp only [Act.put, List.setIfInBounds_toArray, List.set_cons_zero, List.set_cons_succ, i64_w, i32_w]
              rfl
            refine take_ (i := 1) (N := some 19) (v := ?_) (a' := ?_) #[true, true, false, false, false, false, false, false, false, false, false, false, false, false, false, false, false, false, false] rfl rfl (by kernel_rfl) (fun _ _ _ h => h) (Or.inl ⟨by rfl, ?_⟩) hHeld ?_ ?_
            rotate_left
            · intro w' hS
              obtain ⟨hbx, hel⟩ : Bx w' bg x ∧ El w' (ad.add (m * 12)) y := hS
              obtain ⟨b0, b1, b2, b3, b4, b5, b6, b7, b8, b9, b10, b11⟩ := hbx.cells
              obtain ⟨e0, e1, e2, e3, e4, e5, e6, e7, e8, e9, e10, e11⟩ := hel
              go_simp
              with_reducible rfl
            rotate_left
            · simp only [Act.put, List.setIfInBounds_toArray, List.set_cons_zero, List.set_cons_succ, i64_w, i32_w]
              rfl
            refine one_ (i := 2) (N := some 20) #[true, true, true, false, false, false, false, false, false, false, false, false, false, false, false, false, false, false, false] rfl rfl (by kernel_rfl) (by decide) (fun K hK => ?_)
            refine value_ (v := .slice (some ⟨wd.heap.size, 0, none⟩) 1 1) (w1 := wd.alloc (.cells #[.int .i64 x.f1.f0, .int .i64 x.f1.f1, .int .i64 x.f1.f2, .int .i64 x.f1.f3, .int .i64 x.f1.f4, .string x.f1.f5, .bool x.f1.f6.f0, .string x.f1.f6.f1, .bool x.f1.f7.f0, .string x.f1.f7.f1, .int .i64 x.f1.f8] 79)) (by rfl) rfl ?_ ?_
            · go_simp
            refine hK.out _ _ ⟨Bx.below hHeld.1 ((Below.refl _ _).alloc (Nat.le_refl _) _), El.below hHeld.2 ((Below.refl _ _).alloc (Nat.le_refl _) _)⟩ ?_
            intro hHeld
            clear hK K
            refine norm_ (a' := ?_) ?_ ?_
            rotate_left
            · simp only [Act.put, List.setIfInBounds_toArray, List.set_cons_zero, List.set_cons_succ, i64_w, i32_w]
              rfl
            refine one_ (i := 3) (N := some 21) #[true, true, true, true, false, false, false, false, false, false, false, false, false, false, false, false, false, false, false] rfl rfl (by kernel_rfl) (by decide) (fun K hK => ?_)
            refine goes_ Try.func32 (by kernel_rfl) rfl #[.slice (some ⟨wd.heap.size, 0, none⟩) 1 1] (by rfl) rfl rfl (by (try simp only [List.map_toArray, List.map_cons, List.map_nil]); first | done | rfl) ?_
            refine (HR.out _ _ (blk_new _ _)).mono ?_
            rintro e w2 ⟨rfl, hb2⟩
            refine ⟨_, rfl, ?_⟩
            have HB2 := Lib.hid (bel_go (HBd.out.alloc HBd.out.size _) hb2)
            refine hK.out _ _ ⟨Bx.below hHeld.1 hb2, El.below hHeld.2 hb2⟩ ?_
            intro hHeld
            clear hK K hb2
            refine norm_ (a' := ?_) ?_ ?_
            rotate_left
            · simp only [Act.put, List.setIfInBounds_toArray, List.set_cons_zero, List.set_cons_succ, i64_w, i32_w]
              rfl
            refine pure_ (i := 4) (N := some 22) (v := ?_) (a' := ?_) #[true, true, true, true, true, false, false, false, false, false, false, false, false, false, false, false, false, false, false] rfl rfl (by kernel_rfl) (fun _ _ _ h => h) (Or.inl ⟨by rfl, ?_⟩) ?_ ?_
            rotate_left
            · intro w'
              go_simp
              with_reducible rfl
            rotate_left
            · simp only [Act.put, List.setIfInBounds_toArray, List.set_cons_zero, List.set_cons_succ, i64_w, i32_w]
              rfl
            refine pure_ (i := 5) (N := some 23) (v := ?_) (a' := ?_) #[true, true, true, true, true, true, false, false, false, false, false, false, false, false, false, false, false, false, false] rfl rfl (by kernel_rfl) (fun _ _ _ h => h) (Or.inl ⟨by rfl, ?_⟩) ?_ ?_
            rotate_left
            · intro w'
              go_simp
              with_reducible rfl
            rotate_left
            · simp only [Act.put, List.setIfInBounds_toArray, List.set_cons_zero, List.set_cons_succ, i64_w, i32_w]
              rfl
            refine pure_ (i := 6) (N := some 24) (v := ?_) (a' := ?_) #[true, true, true, true, true, true, true, false, false, false, false, false, false, false, false, false, false, false, false] rfl rfl (by kernel_rfl) (fun _ _ _ h => h) (Or.inl ⟨by rfl, ?_⟩) ?_ ?_
            rotate_left
            · intro w'
              go_simp
              with_reducible rfl
            rotate_left
            · simp only [Act.put, List.setIfInBounds_toArray, List.set_cons_zero, List.set_cons_succ, i64_w, i32_w]
              rfl
            refine pure_ (i := 7) (N := some 25) (v := ?_) (a' := ?_) #[true, true, true, true, true, true, true, true, false, false, false, false, false, false, false, false, false, false, false] rfl rfl (by kernel_rfl) (fun _ _ _ h => h) (Or.inl ⟨by rfl, ?_⟩) ?_ ?_
            rotate_left
            · intro w'
              go_simp
              with_reducible rfl
            rotate_left
            · simp only [Act.put, List.setIfInBounds_toArray, List.set_cons_zero, List.set_cons_succ, i64_w, i32_w]
              rfl
            refine pure_ (i := 8) (N := some 26) (v := ?_) (a' := ?_) #[true, true, true, true, true, true, true, true, true, false, false, false, false, false, false, false, false, false, false] rfl rfl (by kernel_rfl) (fun _ _ _ h => h) (Or.inl ⟨by rfl, ?_⟩) ?_ ?_
            rotate_left
            · intro w'
              go_simp
              with_reducible rfl
            rotate_left
            · simp only [Act.put, List.setIfInBounds_toArray, List.set_cons_zero, List.set_cons_succ, i64_w, i32_w]
              rfl
            refine pure_ (i := 9) (N := some 27) (v := ?_) (a' := ?_) #[true, true, true, true, true, true, true, true, true, true, false, false, false, false, false, false, false, false, false] rfl rfl (by kernel_rfl) (fun _ _ _ h => h) (Or.inl ⟨by rfl, ?_⟩) ?_ ?_
            rotate_left
            · intro w'
              go_simp
              with_reducible rfl
            rotate_left
            · simp only [Act.put, List.setIfInBounds_toArray, List.set_cons_zero, List.set_cons_succ, i64_w, i32_w]
              rfl
            refine pure_ (i := 10) (N := some 28) (v := ?_) (a' := ?_) #[true, true, true, true, true, true, true, true, true, true, true, false, false, false, false, false, false, false, false] rfl rfl (by kernel_rfl) (fun _ _ _ h => h) (Or.inl ⟨by rfl, ?_⟩) ?_ ?_
            rotate_left
            · intro w'
              go_simp
              with_reducible rfl
            rotate_left
            · simp only [Act.put, List.setIfInBounds_toArray, List.set_cons_zero, List.set_cons_succ, i64_w, i32_w]
              rfl
            refine pure_ (i := 11) (N := some 29) (v := ?_) (a' := ?_) #[true, true, true, true, true, true, true, true, true, true, true, true, false, false, false, false, false, false, false] rfl rfl (by kernel_rfl) (fun _ _ _ h => h) (Or.inl ⟨by rfl, ?_⟩) ?_ ?_
            rotate_left
            · intro w'
              go_simp
              with_reducible rfl
            rotate_left
            · simp only [Act.put, List.setIfInBounds_toArray, List.set_cons_zero, List.set_cons_succ, i64_w, i32_w]
              rfl
            refine pure_ (i := 12) (N := some 30) (v := ?_) (a' := ?_) #[true, true, true, true, true, true, true, true, true, true, true, true, true, false, false, false, false, false, false] rfl rfl (by kernel_rfl) (fun _ _ _ h => h) (Or.inl ⟨by rfl, ?_⟩) ?_ ?_
            rotate_left
            · intro w'
              go_simp
              with_reducible rfl
            rotate_left
            · simp only [Act.put, List.setIfInBounds_toArray, List.set_cons_zero, List.set_cons_succ, i64_w, i32_w]
              rfl
            refine take_ (i := 13) (N := some 31) (v := ?_) (a' := ?_) #[true, true, true, true, true, true, true, true, true, true, true, true, true, true, false, false, false, false, false] rfl rfl (by kernel_rfl) (fun _ _ _ h => h) (Or.inl ⟨by rfl, ?_⟩) hHeld ?_ ?_
            rotate_left
            · intro w' hS
              obtain ⟨hbx, hel⟩ : Bx w' bg x ∧ El w' (ad.add (m * 12)) y := hS
              obtain ⟨b0, b1, b2, b3, b4, b5, b6, b7, b8, b9, b10, b11⟩ := hbx.cells
              obtain ⟨e0, e1, e2, e3, e4, e5, e6, e7, e8, e9, e10, e11⟩ := hel
              go_simp
              with_reducible rfl
            rotate_left
            · simp only [Act.put, List.setIfInBounds_toArray, List.set_cons_zero, List.set_cons_succ, i64_w, i32_w]
              rfl
            refine take_ (i := 14) (N := some 32) (v := ?_) (a' := ?_) #[true, true, true, true, true, true, true, true, true, true, true, true, true, true, true, false, false, false, false] rfl rfl (by kernel_rfl) (fun _ _ _ h => h) (Or.inl ⟨by rfl, ?_⟩) hHeld ?_ ?_
            rotate_left
            · intro w' hS
              obtain ⟨hbx, hel⟩ : Bx w' bg x ∧ El w' (ad.add (m * 12)) y := hS
              obtain ⟨b0, b1, b2, b3, b4, b5, b6, b7, b8, b9, b10, b11⟩ := hbx.cells
              obtain ⟨e0, e1, e2, e3, e4, e5, e6, e7, e8, e9, e10, e11⟩ := hel
              go_simp
              with_reducible rfl
            rotate_left
            · simp only [Act.put, List.setIfInBounds_toArray, List.set_cons_zero, List.set_cons_succ, i64_w, i32_w]
              rfl
            refine one_ (i := 15) (N := some 33) #[true, true, true, true, true, true, true, true, true, true, true, true, true, true, true, true, false, false, false] rfl rfl (by kernel_rfl) (by decide) (fun K hK => ?_)
            refine goes_ Try.func33 (by kernel_rfl) rfl #[.agg #[.int .i64 y.f0, .int .i64 y.f1.f0, .int .i64 y.f1.f1, .int .i64 y.f1.f2, .int .i64 y.f1.f3, .int .i64 y.f1.f4, .string y.f1.f5, .bool y.f1.f6.f0, .string y.f1.f6.f1, .bool y.f1.f7.f0, .string y.f1.f7.f1, .int .i64 y.f1.f8], .agg #[.int .i64 x.f0, .int .i64 x.f1.f0, .int .i64 x.f1.f1, .int .i64 x.f1.f2, .int .i64 x.f1.f3, .int .i64 x.f1.f4, .string x.f1.f5, .bool x.f1.f6.f0, .string x.f1.f6.f1, .bool x.f1.f7.f0, .string x.f1.f7.f1, .int .i64 x.f1.f8]] (by rfl) rfl rfl (by (try simp only [List.map_toArray, List.map_cons, List.map_nil]); first | done | rfl) ?_
            refine (HO.out _).mono ?_
            rintro e w3 ⟨rfl, hb3⟩
            refine ⟨_, rfl, ?_⟩
            have HB3 := Lib.hid (bel_go HB2.out hb3)
            refine hK.out _ _ ⟨Bx.below hHeld.1 hb3, El.below hHeld.2 hb3⟩ ?_
            intro hHeld
            clear hK K hb3
            refine norm_ (a' := ?_) ?_ ?_
            rotate_left
            · simp only [Act.put, List.setIfInBounds_toArray, List.set_cons_zero, List.set_cons_succ, i64_w, i32_w]
              rfl
            refine pure_ (i := 16) (N := some 34) (v := ?_) (a' := ?_) #[true, true, true, true, true, true, true, true, true, true, true, true, true, true, true, true, true, false, false] rfl rfl (by kernel_rfl) (fun _ _ _ h => h) (Or.inl ⟨by rfl, ?_⟩) ?_ ?_
            rotate_left
            · intro w'
              go_simp
              with_reducible rfl
            rotate_left
            · simp only [Act.put, List.setIfInBounds_toArray, List.set_cons_zero, List.set_cons_succ, i64_w, i32_w]
              rfl
            refine pure_ (i := 17) (N := some 35) (v := ?_) (a' := ?_) #[true, true, true, true, true, true, true, true, true, true, true, true, true, true, true, true, true, true, false] rfl rfl (by kernel_rfl) (fun _ _ _ h => h) (Or.inl ⟨by rfl, ?_⟩) ?_ ?_
            rotate_left
            · intro w'
              go_simp
              with_reducible rfl
            rotate_left
            · simp only [Act.put, List.setIfInBounds_toArray, List.set_cons_zero, List.set_cons_succ, i64_w, i32_w]
              rfl
            refine pure_ (i := 18) (N := some 36) (v := ?_) (a' := ?_) #[true, true, true, true, true, true, true, true, true, true, true, true, true, true, true, true, true, true, true] rfl rfl (by kernel_rfl) (fun _ _ _ h => h) (Or.inl ⟨by rfl, ?_⟩) ?_ ?_
            rotate_left
            · intro w'
              go_simp
              with_reducible rfl
            rotate_left
            · simp only [Act.put, List.setIfInBounds_toArray, List.set_cons_zero, List.set_cons_succ, i64_w, i32_w]
              rfl
            refine done_ (by kernel_rfl) ?_
            clear hwm
            go_wp2
            go_ret2
            exact ⟨_, rfl, Kd.R_nil _ _ _ _ _, HB3.out⟩
    · exact absurd (fun i hi => Hok.out i (by omega)) Hall.out

set_option maxRecDepth 100000 in
set_option maxHeartbeats 8000000 in
theorem num_good (A0 : Option Addr) (c0 : Nat) (l : List Br) (w : World) (hr0 : kBr.C w A0 l.length l) (hc0 : l.length ≤ c0) (hl : (l.length : Int) ≤ 1000) (hall : ∀ i, i < l.length → okB l i = true) (r1 : List Rc) (r2 : Int) (hres : Hid (r2 = (if (runS l l.length).none_ then 7 else 0) ∧ r1 = if (runS l l.length).none_ then [] else (runS l l.length).out)) :
    Calls Try.prog 23 #[.slice A0 l.length c0] w fun e w' => ∃ v0, e = .returned (.tuple #[v0, .int .i64 r2]) ∧ Kd.R kRc 79 w' w.heap.size (fun _ => True) v0 r1 ∧ Below w.heap.size w w' := by
  have hmm := @run_makeMap Try.prog
  have Hr := Lib.hid hr0
  have hc2 : (l.length : Int) ≤ c0 := by omega
  have HO := Lib.hid (fun (x y : Br) (W : World) => ord_calls x y W)
  clear hr0
  go_enter Try.func23, Try.ntmps23
  go_wp2
  go_loopw [13] (fun v13 wr => ∃ k : Nat, v13 = .int .i64 k ∧ k ≤ l.length ∧ Hid (∀ i, i < k → okB l i = true) ∧ Hid (Below w.heap.size w wr)) (fun v13 _ => l.length - (intOf v13).toNat)
  case atStart => exact ⟨0, rfl, Nat.zero_le _, Lib.hid (fun i hi => by omega), Lib.hid (Below.refl _ _)⟩
  case round =>
    obtain ⟨k, rfl, hk, Hok, HB⟩ := hrel
    by_cases hlt : k < l.length
    · have hlt2 : (k : Int) < l.length := by omega
      have hk0 : (0 : Int) ≤ k := by omega
      obtain ⟨ad, rfl, hel⟩ := El.of (Kd.C_below Hr.out HB.out) k hlt
      obtain ⟨x, hx⟩ : ∃ x, x = rd_T84 l (k : Int) := ⟨_, rfl⟩
      rw [← hx] at hel
      have HX := Lib.hid hx
      obtain ⟨c0, c1, c2, c3, c4, c5, c6, c7, c8, c9, c10, c11⟩ := hel
      clear hx
      have hb1 : Bx (wr.alloc (.cells #[.int .i64 x.f0, .int .i64 x.f1.f0, .int .i64 x.f1.f1, .int .i64 x.f1.f2, .int .i64 x.f1.f3, .int .i64 x.f1.f4, .string x.f1.f5, .bool x.f1.f6.f0, .string x.f1.f6.f1, .bool x.f1.f7.f0, .string x.f1.f7.f1, .int .i64 x.f1.f8] 84)) wr.heap.size x := blk_new wr _
      have HBX := Lib.hid hb1
      have HBW : Hid (Below wr.heap.size wr (wr.alloc (.cells #[.int .i64 x.f0, .int .i64 x.f1.f0, .int .i64 x.f1.f1, .int .i64 x.f1.f2, .int .i64 x.f1.f3, .int .i64 x.f1.f4, .string x.f1.f5, .bool x.f1.f6.f0, .string x.f1.f6.f1, .bool x.f1.f7.f0, .string x.f1.f7.f1, .int .i64 x.f1.f8] 84))) := Lib.hid ((Below.refl _ _).alloc (Nat.le_refl _) _)
      have HB1 := Lib.hid (bel_go HB.out HBW.out)
      clear hb1
      have HR := Lib.hid (fun V g => right_one V g x)
      go_wp2_with fail
      clear c0 c1 c2 c3 c4 c5 c6 c7 c8 c9 c10 c11
      obtain ⟨bg, hbg⟩ : ∃ bg, bg = wr.heap.size := ⟨_, rfl⟩
      rw [← hbg] at HBX
      generalize wr.alloc (.cells #[.int .i64 x.f0, .int .i64 x.f1.f0, .int .i64 x.f1.f1, .int .i64 x.f1.f2, .int .i64 x.f1.f3, .int .i64 x.f1.f4, .string x.f1.f5, .bool x.f1.f6.f0, .string x.f1.f6.f1, .bool x.f1.f7.f0, .string x.f1.f7.f1, .int .i64 x.f1.f8] 84) = w1 at *
      rw [← hbg]
      clear hbg
      cases hrt : rightB x.f1 with
      | false =>
        rw [hrt] at HR
        have Hbad : Hid (okB l k = false) := Lib.hid (by unfold okB; rw [← HX.out, hrt]; rfl)
        clear hrt
        exact absurd (hall k hlt) (by rw [Hbad.out]; decide)
      | true =>
        rw [hrt] at HR
        have Hrt := Lib.hid hrt
        clear hrt
        rcases Nat.eq_zero_or_pos k with hz | hz
        · subst hz
          have Hgd : Hid (okB l 0 = true) := Lib.hid (by unfold okB; rw [← HX.out, Hrt.out]; rfl)
          refine start_ (n := 19) (S := fun w' => Bx w' bg x) (ds := []) #[false, false, false, false, false, false, false, false, false, false, false, false, false, false, false, false, false, false, false] (by kernel_rfl) rfl rfl HBX.out ?_
          intro hHeld
          have HBd : Hid (Below w.heap.size w w1.drew) := Lib.hid (pw_below_drewN HB1.out 1)
          generalize w1.drew = wd at *
          refine pure_ (i := 0) (N := some 18) (v := ?_) (a' := ?_) #[true, false, false, false, false, false, false, false, false, false, false, false, false, false, false, false, false, false, false] rfl rfl (by kernel_rfl) (fun _ _ _ h => h) (Or.inl ⟨by rfl, ?_⟩) ?_ ?_
          rotate_left
          · intro w'
            go_simp
            with_reducible rfl
          rotate_left
          · simp only [Act.put, List.setIfInBounds_toArray, List.set_cons_zero, List.set_cons_succ, i64_w, i32_w]
            rfl
          refine take_ (i := 1) (N := some 19) (v := ?_) (a' := ?_) #[true, true, false, false, false, false, false, false, false, false, false, false, false, false, false, false, false, false, false] rfl rfl (by kernel_rfl) (fun _ _ _ h => h) (Or.inl ⟨by rfl, ?_⟩) hHeld ?_ ?_
          rotate_left
          · intro w' hS
            have hbx : Bx w' bg x := hS
            obtain ⟨b0, b1, b2, b3, b4, b5, b6, b7, b8, b9, b10, b11⟩ := hbx.cells
            go_simp
            with_reducible rfl
          rotate_left
          · simp only [Act.put, List.setIfInBounds_toArray, List.set_cons_zero, List.set_cons_succ, i64_w, i32_w]
            rfl
          refine one_ (i := 2) (N := some 20) #[true, true, true, false, false, false, false, false, false, false, false, false, false, false, false, false, false, false, false] rfl rfl (by kernel_rfl) (by decide) (fun K hK => ?_)
          refine value_ (v := .slice (some ⟨wd.heap.size, 0, none⟩) 1 1) (w1 := wd.alloc (.cells #[.int .i64 x.f1.f0, .int .i64 x.f1.f1, .int .i64 x.f1.f2, .int .i64 x.f1.f3, .int .i64 x.f1.f4, .string x.f1.f5, .bool x.f1.f6.f0, .string x.f1.f6.f1, .bool x.f1.f7.f0, .string x.f1.f7.f1, .int .i64 x.f1.f8] 79)) (by rfl) rfl ?_ ?_
          · go_simp
          refine hK.out _ _ (Bx.below hHeld ((Below.refl _ _).alloc (Nat.le_refl _) _)) ?_
          intro hHeld
          clear hK K
          refine norm_ (a' := ?_) ?_ ?_
          rotate_left
          · simp only [Act.put, List.setIfInBounds_toArray, List.set_cons_zero, List.set_cons_succ, i64_w, i32_w]
            rfl
          refine one_ (i := 3) (N := some 21) #[true, true, true, true, false, false, false, false, false, false, false, false, false, false, false, false, false, false, false] rfl rfl (by kernel_rfl) (by decide) (fun K hK => ?_)
          refine goes_ Try.func32 (by kernel_rfl) rfl #[.slice (some ⟨wd.heap.size, 0, none⟩) 1 1] (by rfl) rfl rfl (by (try simp only [List.map_toArray, List.map_cons, List.map_nil]); first | done | rfl) ?_
          refine (HR.out _ _ (blk_new _ _)).mono ?_
          rintro e w2 ⟨rfl, hb2⟩
          refine ⟨_, rfl, ?_⟩
          have HB2 := Lib.hid (bel_go (HBd.out.alloc HBd.out.size _) hb2)
          refine hK.out _ _ (Bx.below hHeld hb2) ?_
          intro hHeld
          clear hK K hb2
          refine norm_ (a' := ?_) ?_ ?_
          rotate_left
          · simp only [Act.put, List.setIfInBounds_toArray, List.set_cons_zero, List.set_cons_succ, i64_w, i32_w]
            rfl
          refine pure_ (i := 4) (N := some 22) (v := ?_) (a' := ?_) #[true, true, true, true, true, false, false, false, false, false, false, false, false, false, false, false, false, false, false] rfl rfl (by kernel_rfl) (fun _ _ _ h => h) (Or.inl ⟨by rfl, ?_⟩) ?_ ?_
          rotate_left
          · intro w'
            go_simp
            with_reducible rfl
          rotate_left
          · simp only [Act.put, List.setIfInBounds_toArray, List.set_cons_zero, List.set_cons_succ, i64_w, i32_w]
            rfl
          refine pure_ (i := 5) (N := some 23) (v := ?_) (a' := ?_) #[true, true, true, true, true, true, false, false, false, false, false, false, false, false, false, false, false, false, false] rfl rfl (by kernel_rfl) (fun _ _ _ h => h) (Or.inl ⟨by rfl, ?_⟩) ?_ ?_
          rotate_left
          · intro w'
            go_simp
            with_reducible rfl
          rotate_left
          · simp only [Act.put, List.setIfInBounds_toArray, List.set_cons_zero, List.set_cons_succ, i64_w, i32_w]
            rfl
          refine pure_ (i := 6) (N := some 24) (v := ?_) (a' := ?_) #[true, true, true, true, true, true, true, false, false, false, false, false, false, false, false, false, false, false, false] rfl rfl (by kernel_rfl) (fun _ _ _ h => h) (Or.inl ⟨by rfl, ?_⟩) ?_ ?_
          rotate_left
          · intro w'
            go_simp
            with_reducible rfl
          rotate_left
          · simp only [Act.put, List.setIfInBounds_toArray, List.set_cons_zero, List.set_cons_succ, i64_w, i32_w]
            rfl
          refine pure_ (i := 7) (N := some 25) (v := ?_) (a' := ?_) #[true, true, true, true, true, true, true, true, false, false, false, false, false, false, false, false, false, false, false] rfl rfl (by kernel_rfl) (fun _ _ _ h => h) (Or.inl ⟨by rfl, ?_⟩) ?_ ?_
          rotate_left
          · intro w'
            go_simp
            with_reducible rfl
          rotate_left
          · simp only [Act.put, List.setIfInBounds_toArray, List.set_cons_zero, List.set_cons_succ, i64_w, i32_w]
            rfl
          refine pure_ (i := 8) (N := some 26) (v := ?_) (a' := ?_) #[true, true, true, true, true, true, true, true, true, false, false, false, false, false, false, false, false, false, false] rfl rfl (by kernel_rfl) (fun _ _ _ h => h) (Or.inl ⟨by rfl, ?_⟩) ?_ ?_
          rotate_left
          · intro w'
            go_simp
            with_reducible rfl
          rotate_left
          · simp only [Act.put, List.setIfInBounds_toArray, List.set_cons_zero, List.set_cons_succ, i64_w, i32_w]
            rfl
          refine pure_ (i := 9) (N := some 27) (v := undef) (a' := ?_) #[true, true, true, true, true, true, true, true, true, true, false, false, false, false, false, false, false, false, false] rfl rfl (by kernel_rfl) (fun _ _ _ h => h) (Or.inr ⟨by rfl, rfl⟩) ?_ ?_
          rotate_left
          · simp only [Act.put, List.setIfInBounds_toArray, List.set_cons_zero, List.set_cons_succ, i64_w, i32_w]
            rfl
          refine pure_ (i := 10) (N := some 28) (v := undef) (a' := ?_) #[true, true, true, true, true, true, true, true, true, true, true, false, false, false, false, false, false, false, false] rfl rfl (by kernel_rfl) (fun _ _ _ h => h) (Or.inr ⟨by rfl, rfl⟩) ?_ ?_
          rotate_left
          · simp only [Act.put, List.setIfInBounds_toArray, List.set_cons_zero, List.set_cons_succ, i64_w, i32_w]
            rfl
          refine pure_ (i := 11) (N := some 29) (v := undef) (a' := ?_) #[true, true, true, true, true, true, true, true, true, true, true, true, false, false, false, false, false, false, false] rfl rfl (by kernel_rfl) (fun _ _ _ h => h) (Or.inr ⟨by rfl, rfl⟩) ?_ ?_
          rotate_left
          · simp only [Act.put, List.setIfInBounds_toArray, List.set_cons_zero, List.set_cons_succ, i64_w, i32_w]
            rfl
          refine pure_ (i := 12) (N := some 30) (v := undef) (a' := ?_) #[true, true, true, true, true, true, true, true, true, true, true, true, true, false, false, false, false, false, false] rfl rfl (by kernel_rfl) (fun _ _ _ h => h) (Or.inr ⟨by rfl, rfl⟩) ?_ ?_
          rotate_left
          · simp only [Act.put, List.setIfInBounds_toArray, List.set_cons_zero, List.set_cons_succ, i64_w, i32_w]
            rfl
          refine pure_ (i := 13) (N := some 31) (v := undef) (a' := ?_) #[true, true, true, true, true, true, true, true, true, true, true, true, true, true, false, false, false, false, false] rfl rfl (by kernel_rfl) (fun _ _ _ h => h) (Or.inr ⟨by rfl, rfl⟩) ?_ ?_
          rotate_left
          · simp only [Act.put, List.setIfInBounds_toArray, List.set_cons_zero, List.set_cons_succ, i64_w, i32_w]
            rfl
          refine pure_ (i := 14) (N := some 32) (v := undef) (a' := ?_) #[true, true, true, true, true, true, true, true, true, true, true, true, true, true, true, false, false, false, false] rfl rfl (by kernel_rfl) (fun _ _ _ h => h) (Or.inr ⟨by rfl, rfl⟩) ?_ ?_
          rotate_left
          · simp only [Act.put, List.setIfInBounds_toArray, List.set_cons_zero, List.set_cons_succ, i64_w, i32_w]
            rfl
          refine pure_ (i := 15) (N := some 33) (v := undef) (a' := ?_) #[true, true, true, true, true, true, true, true, true, true, true, true, true, true, true, true, false, false, false] rfl rfl (by kernel_rfl) (fun _ _ _ h => h) (Or.inr ⟨by rfl, rfl⟩) ?_ ?_
          rotate_left
          · simp only [Act.put, List.setIfInBounds_toArray, List.set_cons_zero, List.set_cons_succ, i64_w, i32_w]
            rfl
          refine pure_ (i := 16) (N := some 34) (v := undef) (a' := ?_) #[true, true, true, true, true, true, true, true, true, true, true, true, true, true, true, true, true, false, false] rfl rfl (by kernel_rfl) (fun _ _ _ h => h) (Or.inr ⟨by rfl, rfl⟩) ?_ ?_
          rotate_left
          · simp only [Act.put, List.setIfInBounds_toArray, List.set_cons_zero, List.set_cons_succ, i64_w, i32_w]
            rfl
          refine pure_ (i := 17) (N := some 35) (v := ?_) (a' := ?_) #[true, true, true, true, true, true, true, true, true, true, true, true, true, true, true, true, true, true, false] rfl rfl (by kernel_rfl) (fun _ _ _ h => h) (Or.inl ⟨by rfl, ?_⟩) ?_ ?_
          rotate_left
          · intro w'
            go_simp
            with_reducible rfl
          rotate_left
          · simp only [Act.put, List.setIfInBounds_toArray, List.set_cons_zero, List.set_cons_succ, i64_w, i32_w]
            rfl
          refine pure_ (i := 18) (N := some 36) (v := ?_) (a' := ?_) #[true, true, true, true, true, true, true, true, true, true, true, true, true, true, true, true, true, true, true] rfl rfl (by kernel_rfl) (fun _ _ _ h => h) (Or.inl ⟨by rfl, ?_⟩) ?_ ?_
          rotate_left
          · intro w'
            go_simp
            with_reducible rfl
          rotate_left
          · simp only [Act.put, List.setIfInBounds_toArray, List.set_cons_zero, List.set_cons_succ, i64_w, i32_w]
            rfl
          refine done_ (by kernel_rfl) ?_
          go_wp2
          go_roundw
          case rel => exact ⟨0 + 1, by go_num, by omega, Lib.hid (fun i hi => by
            by_cases e : i = 0
            · subst e
              exact Hgd.out
            · exact Hok.out i (by omega)), HB2⟩
          case measure => simp [intOf]; omega
        · obtain ⟨m, rfl⟩ : ∃ m, k = m + 1 := ⟨k - 1, by omega⟩
          have hmm : ((m + 1 : Nat) : Int) - 1 = (m : Int) := by omega
          have hm0 : (0 : Int) ≤ m := by omega
          have hml : (m : Int) < l.length := by omega
          obtain ⟨ad', had, hel⟩ := El.of (Kd.C_below Hr.out HB1.out) m (by omega)
          obtain rfl := Option.some.inj had
          obtain ⟨y, hy⟩ : ∃ y, y = rd_T84 l (m : Int) := ⟨_, rfl⟩
          rw [← hy] at hel
          have HEL := Lib.hid hel
          clear hel had
          have hord : ordV (rd_T84 l (((m + 1 : Nat) : Int) - 1)) (rd_T84 l ((m + 1 : Nat) : Int)) = ordV y x := by rw [hmm, ← hy, ← HX.out]
          have HY := Lib.hid hy
          have Hord := Lib.hid hord
          clear hy hord hmm
          have HO := Lib.hid (HO.out y x)
          obtain ⟨q, hq⟩ : ∃ q, q = ordV y x := ⟨_, rfl⟩
          rw [← hq] at HO
          have HQ := Lib.hid hq
          clear hq
          by_cases hneg : q < 0
          · have Hgd : Hid (okB l (m + 1) = true) := Lib.hid (by
              unfold okB
              rw [Hord.out, ← HQ.out, ← HX.out, Hrt.out]
              simp [hneg])
            have hge : decide (q ≥ 0) = false := by simpa using hneg
            have hwm : wrap64 (m : Int) = (m : Int) := by unfold wrap64; omega
            refine start_ (n := 19) (S := fun w' => Bx w' bg x ∧ El w' (ad.add (m * 12)) y) (ds := []) #[false, false, false, false, false, false, false, false, false, false, false, false, false, false, false, false, false, false, false] (by kernel_rfl) rfl rfl ⟨HBX.out, HEL.out⟩ ?_
            intro hHeld
            have HBd : Hid (Below w.heap.size w w1.drew) := Lib.hid (pw_below_drewN HB1.out 1)
            generalize w1.drew = wd at *
            refine pure_ (i := 0) (N := some 18) (v := ?_) (a' := ?_) #[true, false, false, false, false, false, false, false, false, false, false, false, false, false, false, false, false, false, false] rfl rfl (by kernel_rfl) (fun _ _ _ h => h) (Or.inl ⟨by rfl, ?_⟩) ?_ ?_
            rotate_left
            · intro w'
              go_simp
              with_reducible rfl
            rotate_left
            · simp only [Act.put, List.setIfInBounds_toArray, List.set_cons_zero, List.set_cons_succ, i64_w, i32_w]
              rfl
            refine take_ (i := 1) (N := some 19) (v := ?_) (a' := ?_) #[true, true, false, false, false, false, false, false, false, false, false, false, false, false, false, false, false, false, false] rfl rfl (by kernel_rfl) (fun _ _ _ h => h) (Or.inl ⟨by rfl, ?_⟩) hHeld ?_ ?_
            rotate_left
            · intro w' hS
              obtain ⟨hbx, hel⟩ : Bx w' bg x ∧ El w' (ad.add (m * 12)) y := hS
              obtain ⟨b0, b1, b2, b3, b4, b5, b6, b7, b8, b9, b10, b11⟩ := hbx.cells
              obtain ⟨e0, e1, e2, e3, e4, e5, e6, e7, e8, e9, e10, e11⟩ := hel
              go_simp
              with_reducible rfl
            rotate_left
            · simp only [Act.put, List.setIfInBounds_toArray, List.set_cons_zero, List.set_cons_succ, i64_w, i32_w]
              rfl
            refine one_ (i := 2) (N := some 20) #[true, true, true, false, false, false, false, false, false, false, false, false, false, false, false, false, false, false, false] rfl rfl (by kernel_rfl) (by decide) (fun K hK => ?_)
            refine value_ (v := .slice (some ⟨wd.heap.size, 0, none⟩) 1 1) (w1 := wd.alloc (.cells #[.int .i64 x.f1.f0, .int .i64 x.f1.f1, .int .i64 x.f1.f2, .int .i64 x.f1.f3, .int .i64 x.f1.f4, .string x.f1.f5, .bool x.f1.f6.f0, .string x.f1.f6.f1, .bool x.f1.f7.f0, .string x.f1.f7.f1, .int .i64 x.f1.f8] 79)) (by rfl) rfl ?_ ?_
            · go_simp
            refine hK.out _ _ ⟨Bx.below hHeld.1 ((Below.refl _ _).alloc (Nat.le_refl _) _), El.below hHeld.2 ((Below.refl _ _).alloc (Nat.le_refl _) _)⟩ ?_
            intro hHeld
            clear hK K
            refine norm_ (a' := ?_) ?_ ?_
            rotate_left
            · simp only [Act.put, List.setIfInBounds_toArray, List.set_cons_zero, List.set_cons_succ, i64_w, i32_w]
              rfl
            refine one_ (i := 3) (N := some 21) #[true, true, true, true, false, false, false, false, false, false, false, false, false, false, false, false, false, false, false] rfl rfl (by kernel_rfl) (by decide) (fun K hK => ?_)
            refine goes_ Try.func32 (by kernel_rfl) rfl #[.slice (some ⟨wd.heap.size, 0, none⟩) 1 1] (by rfl) rfl rfl (by (try simp only [List.map_toArray, List.map_cons, List.map_nil]); first | done | rfl) ?_
            refine (HR.out _ _ (blk_new _ _)).mono ?_
            rintro e w2 ⟨rfl, hb2⟩
            refine ⟨_, rfl, ?_⟩
            have HB2 := Lib.hid (bel_go (HBd.out.alloc HBd.out.size _) hb2)
            refine hK.out _ _ ⟨Bx.below hHeld.1 hb2, El.below hHeld.2 hb2⟩ ?_
            intro hHeld
            clear hK K hb2
            refine norm_ (a' := ?_) ?_ ?_
            rotate_left
            · simp only [Act.put, List.setIfInBounds_toArray, List.set_cons_zero, List.set_cons_succ, i64_w, i32_w]
              rfl
            refine pure_ (i := 4) (N := some 22) (v := ?_) (a' := ?_) #[true, true, true, true, true, false, false, false, false, false, false, false, false, false, false, false, false, false, false] rfl rfl (by kernel_rfl) (fun _ _ _ h => h) (Or.inl ⟨by rfl, ?_⟩) ?_ ?_
            rotate_left
            · intro w'
              go_simp
              with_reducible rfl
            rotate_left
            · simp only [Act.put, List.setIfInBounds_toArray, List.set_cons_zero, List.set_cons_succ, i64_w, i32_w]
              rfl
            refine pure_ (i := 5) (N := some 23) (v := ?_) (a' := ?_) #[true, true, true, true, true, true, false, false, false, false, false, false, false, false, false, false, false, false, false] rfl rfl (by kernel_rfl) (fun _ _ _ h => h) (Or.inl ⟨by rfl, ?_⟩) ?_ ?_
            rotate_left
            · intro w'
              go_simp
              with_reducible rfl
            rotate_left
            · simp only [Act.put, List.setIfInBounds_toArray, List.set_cons_zero, List.set_cons_succ, i64_w, i32_w]
              rfl
            refine pure_ (i := 6) (N := some 24) (v := ?_) (a' := ?_) #[true, true, true, true, true, true, true, false, false, false, false, false, false, false, false, false, false, false, false] rfl rfl (by kernel_rfl) (fun _ _ _ h => h) (Or.inl ⟨by rfl, ?_⟩) ?_ ?_
            rotate_left
            · intro w'
              go_simp
              with_reducible rfl
            rotate_left
            · simp only [Act.put, List.setIfInBounds_toArray, List.set_cons_zero, List.set_cons_succ, i64_w, i32_w]
              rfl
            refine pure_ (i := 7) (N := some 25) (v := ?_) (a' := ?_) #[true, true, true, true, true, true, true, true, false, false, false, false, false, false, false, false, false, false, false] rfl rfl (by kernel_rfl) (fun _ _ _ h => h) (Or.inl ⟨by rfl, ?_⟩) ?_ ?_
            rotate_left
            · intro w'
              go_simp
              with_reducible rfl
            rotate_left
            · simp only [Act.put, List.setIfInBounds_toArray, List.set_cons_zero, List.set_cons_succ, i64_w, i32_w]
              rfl
            refine pure_ (i := 8) (N := some 26) (v := ?_) (a' := ?_) #[true, true, true, true, true, true, true, true, true, false, false, false, false, false, false, false, false, false, false] rfl rfl (by kernel_rfl) (fun _ _ _ h => h) (Or.inl ⟨by rfl, ?_⟩) ?_ ?_
            rotate_left
            · intro w'
              go_simp
              with_reducible rfl
            rotate_left
            · simp only [Act.put, List.setIfInBounds_toArray, List.set_cons_zero, List.set_cons_succ, i64_w, i32_w]
              rfl
            refine pure_ (i := 9) (N := some 27) (v := ?_) (a' := ?_) #[true, true, true, true, true, true, true, true, true, true, false, false, false, false, false, false, false, false, false] rfl rfl (by kernel_rfl) (fun _ _ _ h => h) (Or.inl ⟨by rfl, ?_⟩) ?_ ?_
            rotate_left
            · intro w'
              go_simp
              with_reducible rfl
            rotate_left
            · simp only [Act.put, List.setIfInBounds_toArray, List.set_cons_zero, List.set_cons_succ, i64_w, i32_w]
              rfl
            refine pure_ (i := 10) (N := some 28) (v := ?_) (a' := ?_) #[true, true, true, true, true, true, true, true, true, true, true, false, false, false, false, false, false, false, false] rfl rfl (by kernel_rfl) (fun _ _ _ h => h) (Or.inl ⟨by rfl, ?_⟩) ?_ ?_
            rotate_left
            · intro w'
              go_simp
              with_reducible rfl
            rotate_left
            · simp only [Act.put, List.setIfInBounds_toArray, List.set_cons_zero, List.set_cons_succ, i64_w, i32_w]
              rfl
            refine pure_ (i := 11) (N := some 29) (v := ?_) (a' := ?_) #[true, true, true, true, true, true, true, true, true, true, true, true, false, false, false, false, false, false, false] rfl rfl (by kernel_rfl) (fun _ _ _ h => h) (Or.inl ⟨by rfl, ?_⟩) ?_ ?_
            rotate_left
            · intro w'
              go_simp
              with_reducible rfl
            rotate_left
            · simp only [Act.put, List.setIfInBounds_toArray, List.set_cons_zero, List.set_cons_succ, i64_w, i32_w]
              rfl
            refine pure_ (i := 12) (N := some 30) (v := ?_) (a' := ?_) #[true, true, true, true, true, true, true, true, true, true, true, true, true, false, false, false, false, false, false] rfl rfl (by kernel_rfl) (fun _ _ _ h => h) (Or.inl ⟨by rfl, ?_⟩) ?_ ?_
            rotate_left
            · intro w'
              go_simp
              with_reducible rfl
            rotate_left
            · simp only [Act.put, List.setIfInBounds_toArray, List.set_cons_zero, List.set_cons_succ, i64_w, i32_w]
              rfl
            refine take_ (i := 13) (N := some 31) (v := ?_) (a' := ?_) #[true, true, true, true, true, true, true, true, true, true, true, true, true, true, false, false, false, false, false] rfl rfl (by kernel_rfl) (fun _ _ _ h => h) (Or.inl ⟨by rfl, ?_⟩) hHeld ?_ ?_
            rotate_left
            · intro w' hS
              obtain ⟨hbx, hel⟩ : Bx w' bg x ∧ El w' (ad.add (m * 12)) y := hS
              obtain ⟨b0, b1, b2, b3, b4, b5, b6, b7, b8, b9, b10, b11⟩ := hbx.cells
              obtain ⟨e0, e1, e2, e3, e4, e5, e6, e7, e8, e9, e10, e11⟩ := hel
              go_simp
              with_reducible rfl
            rotate_left
            · simp only [Act.put, List.setIfInBounds_toArray, List.set_cons_zero, List.set_cons_succ, i64_w, i32_w]
              rfl
            refine take_ (i := 14) (N := some 32) (v := ?_) (a' := ?_) #[true, true, true, true, true, true, true, true, true, true, true, true, true, true, true, false, false, false, false] rfl rfl (by kernel_rfl) (fun _ _ _ h => h) (Or.inl ⟨by rfl, ?_⟩) hHeld ?_ ?_
            rotate_left
            · intro w' hS
              obtain ⟨hbx, hel⟩ : Bx w' bg x ∧ El w' (ad.add (m * 12)) y := hS
              obtain ⟨b0, b1, b2, b3, b4, b5, b6, b7, b8, b9, b10, b11⟩ := hbx.cells
              obtain ⟨e0, e1, e2, e3, e4, e5, e6, e7, e8, e9, e10, e11⟩ := hel
              go_simp
              with_reducible rfl
            rotate_left
            · simp only [Act.put, List.setIfInBounds_toArray, List.set_cons_zero, List.set_cons_succ, i64_w, i32_w]
              rfl
            refine one_ (i := 15) (N := some 33) #[true, true, true, true, true, true, true, true, true, true, true, true, true, true, true, true, false, false, false] rfl rfl (by kernel_rfl) (by decide) (fun K hK => ?_)
            refine goes_ Try.func33 (by kernel_rfl) rfl #[.agg #[.int .i64 y.f0, .int .i64 y.f1.f0, .int .i64 y.f1.f1, .int .i64 y.f1.f2, .int .i64 y.f1.f3, .int .i64 y.f1.f4, .string y.f1.f5, .bool y.f1.f6.f0, .string y.f1.f6.f1, .bool y.f1.f7.f0, .string y.f1.f7.f1, .int .i64 y.f1.f8], .agg #[.int .i64 x.f0, .int .i64 x.f1.f0, .int .i64 x.f1.f1, .int .i64 x.f1.f2, .int .i64 x.f1.f3, .int .i64 x.f1.f4, .string x.f1.f5, .bool x.f1.f6.f0, .string x.f1.f6.f1, .bool x.f1.f7.f0, .string x.f1.f7.f1, .int .i64 x.f1.f8]] (by rfl) rfl rfl (by (try simp only [List.map_toArray, List.map_cons, List.map_nil]); first | done | rfl) ?_
            refine (HO.out _).mono ?_
            rintro e w3 ⟨rfl, hb3⟩
            refine ⟨_, rfl, ?_⟩
            have HB3 := Lib.hid (bel_go HB2.out hb3)
            refine hK.out _ _ ⟨Bx.below hHeld.1 hb3, El.below hHeld.2 hb3⟩ ?_
            intro hHeld
            clear hK K hb3
            refine norm_ (a' := ?_) ?_ ?_
            rotate_left
            · simp only [Act.put, List.setIfInBounds_toArray, List.set_cons_zero, List.set_cons_succ, i64_w, i32_w]
              rfl
            refine pure_ (i := 16) (N := some 34) (v := ?_) (a' := ?_) #[true, true, true, true, true, true, true, true, true, true, true, true, true, true, true, true, true, false, false] rfl rfl (by kernel_rfl) (fun _ _ _ h => h) (Or.inl ⟨by rfl, ?_⟩) ?_ ?_
            rotate_left
            · intro w'
              go_simp
              with_reducible rfl
            rotate_left
            · simp only [Act.put, List.setIfInBounds_toArray, List.set_cons_zero, List.set_cons_succ, i64_w, i32_w]
              rfl
            refine pure_ (i := 17) (N := some 35) (v := ?_) (a' := ?_) #[true, true, true, true, true, true, true, true, true, true, true, true, true, true, true, true, true, true, false] rfl rfl (by kernel_rfl) (fun _ _ _ h => h) (Or.inl ⟨by rfl, ?_⟩) ?_ ?_
            rotate_left
            · intro w'
              go_simp
              with_reducible rfl
            rotate_left
            · simp only [Act.put, List.setIfInBounds_toArray, List.set_cons_zero, List.set_cons_succ, i64_w, i32_w]
              rfl
            refine pure_ (i := 18) (N := some 36) (v := ?_) (a' := ?_) #[true, true, true, true, true, true, true, true, true, true, true, true, true, true, true, true, true, true, true] rfl rfl (by kernel_rfl) (fun _ _ _ h => h) (Or.inl ⟨by rfl, ?_⟩) ?_ ?_
            rotate_left
            · intro w'
              go_simp
              with_reducible rfl
            rotate_left
            · simp only [Act.put, List.setIfInBounds_toArray, List.set_cons_zero, List.set_cons_succ, i64_w, i32_w]
              rfl
            refine done_ (by kernel_rfl) ?_
            clear hwm
            go_wp2
            go_roundw
            case rel => exact ⟨m + 1 + 1, by go_num, by omega, Lib.hid (fun i hi => by
              by_cases e : i = m + 1
              · subst e
                exact Hgd.out
              · exact Hok.out i (by omega)), HB3⟩
            case measure => simp [intOf]; omega
          · have Hbad : Hid (okB l (m + 1) = false) := Lib.hid (by
              unfold okB
              rw [Hord.out, ← HQ.out, ← HX.out, Hrt.out]
              simp [hneg])
            have hge : decide (q ≥ 0) = true := by simpa using hneg
            exact absurd (hall (m + 1) hlt) (by rw [Hbad.out]; decide)
    · obtain rfl : k = l.length := by omega
      clear Hok HO
      obtain ⟨wo, rfl⟩ : ∃ wo : World, wo = wr := ⟨_, rfl⟩
      go_wp2
      have hnl : Hid (NL w ((wo.alloc (.map #[] 0)).alloc (.cells #[.map (some wo.heap.size), .bool false] 90)) (wo.heap.size + 1) wo.heap.size l (.slice none 0 0) 0) := Lib.hid (NL.start HB.out)
      clear HB
      have Hall := Lib.hid hall
      clear hall
      go_loopw [7, 43] (fun v7 v43 wr => ∃ (vo : Value) (k : Nat), vo = v7 ∧ v43 = .int .i64 k ∧ Hid (NL w wr (wo.heap.size + 1) wo.heap.size l vo k)) (fun _ v43 _ => l.length - (intOf v43).toNat)
      case atStart => exact ⟨_, 0, rfl, rfl, hnl⟩
      case round =>
        clear hnl
        obtain ⟨vo, k, rfl, rfl, HL⟩ := hrel
        have hkl := HL.out.hk
        by_cases hlt : k < l.length
        · have hlt2 : (k : Int) < l.length := by omega
          have hk0 : (0 : Int) ≤ k := by omega
          obtain ⟨ad, rfl, hel⟩ := El.of (Kd.C_below Hr.out HL.out.bel) k hlt
          obtain ⟨x, hx⟩ : ∃ x, x = rd_T84 l (k : Int) := ⟨_, rfl⟩
          have hokx := right_of_okB (Hall.out k hlt)
          rw [← hx] at hel hokx
          have HX := Lib.hid hx
          obtain ⟨c0, c1, c2, c3, c4, c5, c6, c7, c8, c9, c10, c11⟩ := hel
          have HW := Lib.hid (right_wf x.f1 hokx)
          clear hx hokx
          go_wp2_with fail
          clear c0 c1 c2 c3 c4 c5 c6 c7 c8 c9 c10 c11
          have HS := Lib.hid (HL.out.rs x #[.int .i64 x.f1.f0, .int .i64 (k + 1), .int .i64 x.f1.f2, .int .i64 x.f1.f3, .int .i64 x.f1.f4, .string x.f1.f5, .bool x.f1.f6.f0, .string x.f1.f6.f1, .bool x.f1.f7.f0, .string x.f1.f7.f1, .int .i64 x.f1.f8])
          have hlen := run_len l k
          have Hlen := Lib.hid hlen
          obtain ⟨s, hs⟩ : ∃ s, s = runS l k := ⟨_, rfl⟩
          rw [← hs] at HS hlen
          have HSS := Lib.hid hs
          obtain ⟨g, hgs⟩ : ∃ g, g = wr.heap.size := ⟨_, rfl⟩
          rw [← hgs] at HS
          rw [← hgs]
          refine (of_nm HS.out.nm x.f1.f2 x.f1.f3 HW.out.1 HW.out.2.2.1).mono ?_
          rintro e w2 ⟨rfl, hn2, hg2⟩
          have HS2 := Lib.hid (HS.out.of hn2 hg2)
          clear hn2 hg2 HS hs hlen hgs
          obtain ⟨b0, b1, b2, b3, b4, b5, b6, b7, b8, b9, b10, b11⟩ := HS2.out.bx.cells
          have x3 := blk_cell HS2.out.xb 3
          have f3 := blk_frozen HS2.out.xb 3
          by_cases hk3 : x.f1.f0 = 3
          · have hk3b : (x.f1.f0 == 3) = true := by simpa using hk3
            have HK3 := Lib.hid hk3
            clear hk3
            go_wp2_with fail
            have HS3 := Lib.hid (HS2.out.set 3 (.int .i64 (ofV s.f x.f1.f2 x.f1.f3)) rfl)
            clear b0 b1 b2 b3 b4 b5 b6 b7 b8 b9 b10 b11 x3 f3 HS2
            refine (of_nm HS3.out.nm x.f1.f2 x.f1.f8 HW.out.1 (HW.out.2.2.2 HK3.out)).mono ?_
            rintro e w4 ⟨rfl, hn4, hg4⟩
            have HS4 := Lib.hid (HS3.out.of hn4 hg4)
            clear hn4 hg4 HS3
            have x10 := blk_cell HS4.out.xb 10
            have f10 := blk_frozen HS4.out.xb 10
            go_wp2
            have HS5 := Lib.hid (HS4.out.set 10 (.int .i64 (ofV s.f x.f1.f2 x.f1.f8)) rfl)
            clear x10 f10 HS4
            generalize w4.setCell ⟨g + 1, 10, none⟩ (.int .i64 (ofV s.f x.f1.f2 x.f1.f8)) = w1 at *
            have hrun : Hid (runS l (k + 1) = ⟨putP s.f x.f1.f2 x.f1.f1 (k + 1), ofN s.f x.f1.f2 x.f1.f8 (ofN s.f x.f1.f2 x.f1.f3 s.none_), s.out ++ [⟨x.f1.f0, k + 1, x.f1.f2, ofV s.f x.f1.f2 x.f1.f3, x.f1.f4, x.f1.f5, x.f1.f6, x.f1.f7, ofV s.f x.f1.f2 x.f1.f8⟩]⟩) := Lib.hid (by
              show stepS (runS l k) k (rd_T84 l (k : Int)).f1 = _
              rw [← HSS.out, ← HX.out]
              simp only [stepS, HK3.out, if_true])
            refine start_ (n := 14) (S := fun w' => RS w w' (wo.heap.size + 1) wo.heap.size g vo s.out s.f _ k x _) (ds := [13]) #[false, false, false, false, false, false, false, false, false, false, false, false, false, false] (by kernel_rfl) rfl rfl HS5.out.drew ?_
            intro hHeld
            generalize w1.drew = wd at *
            refine pure_ (i := 0) (N := some 75) (v := ?_) (a' := ?_) #[true, false, false, false, false, false, false, false, false, false, false, false, false, false] rfl rfl (by kernel_rfl) (fun _ _ _ h => h) (Or.inl ⟨by rfl, ?_⟩) ?_ ?_
            rotate_left
            · intro w'
              go_simp
              with_reducible rfl
            rotate_left
            · simp only [Act.put, List.setIfInBounds_toArray, List.set_cons_zero, List.set_cons_succ, i64_w, i32_w]
              rfl
            refine pure_ (i := 1) (N := some 76) (v := ?_) (a' := ?_) #[true, true, false, false, false, false, false, false, false, false, false, false, false, false] rfl rfl (by kernel_rfl) (fun _ _ _ h => h) (Or.inl ⟨by rfl, ?_⟩) ?_ ?_
            rotate_left
            · intro w'
              go_simp
              with_reducible rfl
            rotate_left
            · simp only [Act.put, List.setIfInBounds_toArray, List.set_cons_zero, List.set_cons_succ, i64_w, i32_w]
              rfl
            refine pure_ (i := 2) (N := some 77) (v := ?_) (a' := ?_) #[true, true, true, false, false, false, false, false, false, false, false, false, false, false] rfl rfl (by kernel_rfl) (fun _ _ _ h => h) (Or.inl ⟨by rfl, ?_⟩) ?_ ?_
            rotate_left
            · intro w'
              go_simp
              with_reducible rfl
            rotate_left
            · simp only [Act.put, List.setIfInBounds_toArray, List.set_cons_zero, List.set_cons_succ, i64_w, i32_w]
              rfl
            refine pure_ (i := 4) (N := some 79) (v := ?_) (a' := ?_) #[true, true, true, false, true, false, false, false, false, false, false, false, false, false] rfl rfl (by kernel_rfl) (fun _ _ _ h => h) (Or.inl ⟨by rfl, ?_⟩) ?_ ?_
            rotate_left
            · intro w'
              go_simp
              with_reducible rfl
            rotate_left
            · simp only [Act.put, List.setIfInBounds_toArray, List.set_cons_zero, List.set_cons_succ, i64_w, i32_w]
              rfl
            refine pure_ (i := 5) (N := some 80) (v := ?_) (a' := ?_) #[true, true, true, false, true, true, false, false, false, false, false, false, false, false] rfl rfl (by kernel_rfl) (fun _ _ _ h => h) (Or.inl ⟨by rfl, ?_⟩) ?_ ?_
            rotate_left
            · intro w'
              go_simp
              with_reducible rfl
            rotate_left
            · simp only [Act.put, List.setIfInBounds_toArray, List.set_cons_zero, List.set_cons_succ, i64_w, i32_w]
              rfl
            refine pure_ (i := 7) (N := some 82) (v := ?_) (a' := ?_) #[true, true, true, false, true, true, false, true, false, false, false, false, false, false] rfl rfl (by kernel_rfl) (fun _ _ _ h => h) (Or.inl ⟨by rfl, ?_⟩) ?_ ?_
            rotate_left
            · intro w'
              go_simp
              with_reducible rfl
            rotate_left
            · simp only [Act.put, List.setIfInBounds_toArray, List.set_cons_zero, List.set_cons_succ, i64_w, i32_w]
              rfl
            refine pure_ (i := 8) (N := some 83) (v := ?_) (a' := ?_) #[true, true, true, false, true, true, false, true, true, false, false, false, false, false] rfl rfl (by kernel_rfl) (fun _ _ _ h => h) (Or.inl ⟨by rfl, ?_⟩) ?_ ?_
            rotate_left
            · intro w'
              go_simp
              with_reducible rfl
            rotate_left
            · simp only [Act.put, List.setIfInBounds_toArray, List.set_cons_zero, List.set_cons_succ, i64_w, i32_w]
              rfl
            refine pure_ (i := 11) (N := some 86) (v := ?_) (a' := ?_) #[true, true, true, false, true, true, false, true, true, false, false, true, false, false] rfl rfl (by kernel_rfl) (fun _ _ _ h => h) (Or.inl ⟨by rfl, ?_⟩) ?_ ?_
            rotate_left
            · intro w'
              go_simp
              with_reducible rfl
            rotate_left
            · simp only [Act.put, List.setIfInBounds_toArray, List.set_cons_zero, List.set_cons_succ, i64_w, i32_w]
              rfl
            refine take_ (i := 3) (N := some 78) (v := ?_) (a' := ?_) #[true, true, true, true, true, true, false, true, true, false, false, true, false, false] rfl rfl (by kernel_rfl) (fun _ _ _ h => h) (Or.inl ⟨by rfl, ?_⟩) hHeld ?_ ?_
            rotate_left
            · intro w' hS
              have hrs : RS w w' _ _ g _ _ _ _ k x _ := hS
              obtain ⟨b0, b1, b2, b3, b4, b5, b6, b7, b8, b9, b10, b11⟩ := hrs.bx.cells
              have x1 := blk_cell hrs.xb 1
              have n0 := blk_cell hrs.nm.2.1 0
              go_simp
              with_reducible rfl
            rotate_left
            · simp only [Act.put, List.setIfInBounds_toArray, List.set_cons_zero, List.set_cons_succ, i64_w, i32_w]
              rfl
            refine take_ (i := 6) (N := some 81) (v := ?_) (a' := ?_) #[true, true, true, true, true, true, true, true, true, false, false, true, false, false] rfl rfl (by kernel_rfl) (fun _ _ _ h => h) (Or.inl ⟨by rfl, ?_⟩) hHeld ?_ ?_
            rotate_left
            · intro w' hS
              have hrs : RS w w' _ _ g _ _ _ _ k x _ := hS
              obtain ⟨b0, b1, b2, b3, b4, b5, b6, b7, b8, b9, b10, b11⟩ := hrs.bx.cells
              have x1 := blk_cell hrs.xb 1
              have n0 := blk_cell hrs.nm.2.1 0
              go_simp
              with_reducible rfl
            rotate_left
            · simp only [Act.put, List.setIfInBounds_toArray, List.set_cons_zero, List.set_cons_succ, i64_w, i32_w]
              rfl
            refine take_ (i := 9) (N := some 84) (v := ?_) (a' := ?_) #[true, true, true, true, true, true, true, true, true, true, false, true, false, false] rfl rfl (by kernel_rfl) (fun _ _ _ h => h) (Or.inl ⟨by rfl, ?_⟩) hHeld ?_ ?_
            rotate_left
            · intro w' hS
              have hrs : RS w w' _ _ g _ _ _ _ k x _ := hS
              obtain ⟨b0, b1, b2, b3, b4, b5, b6, b7, b8, b9, b10, b11⟩ := hrs.bx.cells
              have x1 := blk_cell hrs.xb 1
              have n0 := blk_cell hrs.nm.2.1 0
              go_simp
              with_reducible rfl
            rotate_left
            · simp only [Act.put, List.setIfInBounds_toArray, List.set_cons_zero, List.set_cons_succ, i64_w, i32_w]
              rfl
            refine pure_ (i := 10) (N := some 85) (v := ?_) (a' := ?_) #[true, true, true, true, true, true, true, true, true, true, true, true, false, false] rfl rfl (by kernel_rfl) (fun _ _ _ h => h) (Or.inl ⟨by rfl, ?_⟩) ?_ ?_
            rotate_left
            · intro w'
              go_simp
              with_reducible rfl
            rotate_left
            · simp only [Act.put, List.setIfInBounds_toArray, List.set_cons_zero, List.set_cons_succ, i64_w, i32_w]
              rfl
            refine take_ (i := 12) (N := some 87) (v := ?_) (a' := ?_) #[true, true, true, true, true, true, true, true, true, true, true, true, true, false] rfl rfl (by kernel_rfl) (fun _ _ _ h => h) (Or.inl ⟨by rfl, ?_⟩) hHeld ?_ ?_
            rotate_left
            · intro w' hS
              have hrs : RS w w' _ _ g _ _ _ _ k x _ := hS
              obtain ⟨b0, b1, b2, b3, b4, b5, b6, b7, b8, b9, b10, b11⟩ := hrs.bx.cells
              have x1 := blk_cell hrs.xb 1
              have n0 := blk_cell hrs.nm.2.1 0
              go_simp
              with_reducible rfl
            rotate_left
            · simp only [Act.put, List.setIfInBounds_toArray, List.set_cons_zero, List.set_cons_succ, i64_w, i32_w]
              rfl
            refine last_ (i := 13) (N := none) #[true, true, true, true, true, true, true, true, true, true, true, true, true, true] rfl rfl (by kernel_rfl) (by decide) (fun K hK => ?_)
            obtain ⟨w6, hrun6, hS6⟩ := hHeld.put (by omega) (k + 1) (by rw [wf64']; omega) HW.out.1 HW.out.2.1
            refine skip_ (w1 := w6) (by rfl) rfl ?_ ?_
            · go_simp
            refine hK.out _ _ ?_
            clear hK K hrun6 hHeld
            refine done_ (by kernel_rfl) ?_
            have HS6 := Lib.hid hS6
            have x0 := blk_cell HS6.out.xb 0
            have x1 := blk_cell HS6.out.xb 1
            have x2 := blk_cell HS6.out.xb 2
            have x3 := blk_cell HS6.out.xb 3
            have x4 := blk_cell HS6.out.xb 4
            have x5 := blk_cell HS6.out.xb 5
            have x6 := blk_cell HS6.out.xb 6
            have x7 := blk_cell HS6.out.xb 7
            have x8 := blk_cell HS6.out.xb 8
            have x9 := blk_cell HS6.out.xb 9
            have x10 := blk_cell HS6.out.xb 10
            clear hS6 HS5
            go_wp2_with (at_builtin; refine Kd.R_append kRc (w0 := w) w.heap.size rfl (.tmp 88) (.tmp 90) 55 79 _ 112 rfl Try.underlying55 info79 rfl (by decide) (by omega) vo s.out ⟨x.f1.f0, k + 1, x.f1.f2, ofV s.f x.f1.f2 x.f1.f3, x.f1.f4, x.f1.f5, x.f1.f6, x.f1.f7, ofV s.f x.f1.f2 x.f1.f8⟩ [.int .i64 x.f1.f0, .int .i64 (k + 1), .int .i64 x.f1.f2, .int .i64 (ofV s.f x.f1.f2 x.f1.f3), .int .i64 x.f1.f4, .string x.f1.f5, .bool x.f1.f6.f0, .string x.f1.f6.f1, .bool x.f1.f7.f0, .string x.f1.f7.f1, .int .i64 (ofV s.f x.f1.f2 x.f1.f8)] (fun q => q ≠ g ∧ q ≠ g + 1) (fun _ => False) rfl rfl ?aP (fun _ hk => hk.elim) ?aF ?aO ?aB ?aS ?aL ?_; (case aP => exact k79_mkM _ _ _ _); (case aF => (intro q hq; have := blk_lt HS6.out.xb; constructor <;> omega)); (case aO => exact HS6.out.row); (case aB => exact HS6.out.bel); (case aS => exact HS6.out.bel.size); (case aL => (rw [HSS.out, Hlen.out]; omega)); intro v1 w7 ho hb7 hg7 hat7; have HL7 := Lib.hid (HS6.out.next ho hg7 hb7 hrun.out hlt); clear ho hb7 hg7 hat7)
            go_roundw
            case rel => exact ⟨_, k + 1, rfl, by go_num, HL7⟩
            case measure => simp [intOf]; omega
          · have hk3b : (x.f1.f0 == 3) = false := by simpa using hk3
            have HK3 := Lib.hid hk3
            clear hk3
            go_wp2
            have HS5 := Lib.hid (HS2.out.set 3 (.int .i64 (ofV s.f x.f1.f2 x.f1.f3)) rfl)
            clear b0 b1 b2 b3 b4 b5 b6 b7 b8 b9 b10 b11 x3 f3 HS2
            generalize w2.setCell ⟨g + 1, 3, none⟩ (.int .i64 (ofV s.f x.f1.f2 x.f1.f3)) = w1 at *
            have hrun : Hid (runS l (k + 1) = ⟨putP s.f x.f1.f2 x.f1.f1 (k + 1), ofN s.f x.f1.f2 x.f1.f3 s.none_, s.out ++ [⟨x.f1.f0, k + 1, x.f1.f2, ofV s.f x.f1.f2 x.f1.f3, x.f1.f4, x.f1.f5, x.f1.f6, x.f1.f7, x.f1.f8⟩]⟩) := Lib.hid (by
              show stepS (runS l k) k (rd_T84 l (k : Int)).f1 = _
              rw [← HSS.out, ← HX.out]
              simp only [stepS, if_neg HK3.out])
            refine start_ (n := 14) (S := fun w' => RS w w' (wo.heap.size + 1) wo.heap.size g vo s.out s.f _ k x _) (ds := [13]) #[false, false, false, false, false, false, false, false, false, false, false, false, false, false] (by kernel_rfl) rfl rfl HS5.out.drew ?_
            intro hHeld
            generalize w1.drew = wd at *
            refine pure_ (i := 0) (N := some 75) (v := ?_) (a' := ?_) #[true, false, false, false, false, false, false, false, false, false, false, false, false, false] rfl rfl (by kernel_rfl) (fun _ _ _ h => h) (Or.inl ⟨by rfl, ?_⟩) ?_ ?_
            rotate_left
            · intro w'
              go_simp
              with_reducible rfl
            rotate_left
            · simp only [Act.put, List.setIfInBounds_toArray, List.set_cons_zero, List.set_cons_succ, i64_w, i32_w]
              rfl
            refine pure_ (i := 1) (N := some 76) (v := ?_) (a' := ?_) #[true, true, false, false, false, false, false, false, false, false, false, false, false, false] rfl rfl (by kernel_rfl) (fun _ _ _ h => h) (Or.inl ⟨by rfl, ?_⟩) ?_ ?_
            rotate_left
            · intro w'
              go_simp
              with_reducible rfl
            rotate_left
            · simp only [Act.put, List.setIfInBounds_toArray, List.set_cons_zero, List.set_cons_succ, i64_w, i32_w]
              rfl
            refine pure_ (i := 2) (N := some 77) (v := ?_) (a' := ?_) #[true, true, true, false, false, false, false, false, false, false, false, false, false, false] rfl rfl (by kernel_rfl) (fun _ _ _ h => h) (Or.inl ⟨by rfl, ?_⟩) ?_ ?_
            rotate_left
            · intro w'
              go_simp
              with_reducible rfl
            rotate_left
            · simp only [Act.put, List.setIfInBounds_toArray, List.set_cons_zero, List.set_cons_succ, i64_w, i32_w]
              rfl
            refine pure_ (i := 4) (N := some 79) (v := ?_) (a' := ?_) #[true, true, true, false, true, false, false, false, false, false, false, false, false, false] rfl rfl (by kernel_rfl) (fun _ _ _ h => h) (Or.inl ⟨by rfl, ?_⟩) ?_ ?_
            rotate_left
            · intro w'
              go_simp
              with_reducible rfl
            rotate_left
            · simp only [Act.put, List.setIfInBounds_toArray, List.set_cons_zero, List.set_cons_succ, i64_w, i32_w]
              rfl
            refine pure_ (i := 5) (N := some 80) (v := ?_) (a' := ?_) #[true, true, true, false, true, true, false, false, false, false, false, false, false, false] rfl rfl (by kernel_rfl) (fun _ _ _ h => h) (Or.inl ⟨by rfl, ?_⟩) ?_ ?_
            rotate_left
            · intro w'
              go_simp
              with_reducible rfl
            rotate_left
            · simp only [Act.put, List.setIfInBounds_toArray, List.set_cons_zero, List.set_cons_succ, i64_w, i32_w]
              rfl
            refine pure_ (i := 7) (N := some 82) (v := ?_) (a' := ?_) #[true, true, true, false, true, true, false, true, false, false, false, false, false, false] rfl rfl (by kernel_rfl) (fun _ _ _ h => h) (Or.inl ⟨by rfl, ?_⟩) ?_ ?_
            rotate_left
            · intro w'
              go_simp
              with_reducible rfl
            rotate_left
            · simp only [Act.put, List.setIfInBounds_toArray, List.set_cons_zero, List.set_cons_succ, i64_w, i32_w]
              rfl
            refine pure_ (i := 8) (N := some 83) (v := ?_) (a' := ?_) #[true, true, true, false, true, true, false, true, true, false, false, false, false, false] rfl rfl (by kernel_rfl) (fun _ _ _ h => h) (Or.inl ⟨by rfl, ?_⟩) ?_ ?_
            rotate_left
            · intro w'
              go_simp
              with_reducible rfl
            rotate_left
            · simp only [Act.put, List.setIfInBounds_toArray, List.set_cons_zero, List.set_cons_succ, i64_w, i32_w]
              rfl
            refine pure_ (i := 11) (N := some 86) (v := ?_) (a' := ?_) #[true, true, true, false, true, true, false, true, true, false, false, true, false, false] rfl rfl (by kernel_rfl) (fun _ _ _ h => h) (Or.inl ⟨by rfl, ?_⟩) ?_ ?_
            rotate_left
            · intro w'
              go_simp
              with_reducible rfl
            rotate_left
            · simp only [Act.put, List.setIfInBounds_toArray, List.set_cons_zero, List.set_cons_succ, i64_w, i32_w]
              rfl
            refine take_ (i := 3) (N := some 78) (v := ?_) (a' := ?_) #[true, true, true, true, true, true, false, true, true, false, false, true, false, false] rfl rfl (by kernel_rfl) (fun _ _ _ h => h) (Or.inl ⟨by rfl, ?_⟩) hHeld ?_ ?_
            rotate_left
            · intro w' hS
              have hrs : RS w w' _ _ g _ _ _ _ k x _ := hS
              obtain ⟨b0, b1, b2, b3, b4, b5, b6, b7, b8, b9, b10, b11⟩ := hrs.bx.cells
              have x1 := blk_cell hrs.xb 1
              have n0 := blk_cell hrs.nm.2.1 0
              go_simp
              with_reducible rfl
            rotate_left
            · simp only [Act.put, List.setIfInBounds_toArray, List.set_cons_zero, List.set_cons_succ, i64_w, i32_w]
              rfl
            refine take_ (i := 6) (N := some 81) (v := ?_) (a' := ?_) #[true, true, true, true, true, true, true, true, true, false, false, true, false, false] rfl rfl (by kernel_rfl) (fun _ _ _ h => h) (Or.inl ⟨by rfl, ?_⟩) hHeld ?_ ?_
            rotate_left
            · intro w' hS
              have hrs : RS w w' _ _ g _ _ _ _ k x _ := hS
              obtain ⟨b0, b1, b2, b3, b4, b5, b6, b7, b8, b9, b10, b11⟩ := hrs.bx.cells
              have x1 := blk_cell hrs.xb 1
              have n0 := blk_cell hrs.nm.2.1 0
              go_simp
              with_reducible rfl
            rotate_left
            · simp only [Act.put, List.setIfInBounds_toArray, List.set_cons_zero, List.set_cons_succ, i64_w, i32_w]
              rfl
            refine take_ (i := 9) (N := some 84) (v := ?_) (a' := ?_) #[true, true, true, true, true, true, true, true, true, true, false, true, false, false] rfl rfl (by kernel_rfl) (fun _ _ _ h => h) (Or.inl ⟨by rfl, ?_⟩) hHeld ?_ ?_
            rotate_left
            · intro w' hS
              have hrs : RS w w' _ _ g _ _ _ _ k x _ := hS
              obtain ⟨b0, b1, b2, b3, b4, b5, b6, b7, b8, b9, b10, b11⟩ := hrs.bx.cells
              have x1 := blk_cell hrs.xb 1
              have n0 := blk_cell hrs.nm.2.1 0
              go_simp
              with_reducible rfl
            rotate_left
            · simp only [Act.put, List.setIfInBounds_toArray, List.set_cons_zero, List.set_cons_succ, i64_w, i32_w]
              rfl
            refine pure_ (i := 10) (N := some 85) (v := ?_) (a' := ?_) #[true, true, true, true, true, true, true, true, true, true, true, true, false, false] rfl rfl (by kernel_rfl) (fun _ _ _ h => h) (Or.inl ⟨by rfl, ?_⟩) ?_ ?_
            rotate_left
            · intro w'
              go_simp
              with_reducible rfl
            rotate_left
            · simp only [Act.put, List.setIfInBounds_toArray, List.set_cons_zero, List.set_cons_succ, i64_w, i32_w]
              rfl
            refine take_ (i := 12) (N := some 87) (v := ?_) (a' := ?_) #[true, true, true, true, true, true, true, true, true, true, true, true, true, false] rfl rfl (by kernel_rfl) (fun _ _ _ h => h) (Or.inl ⟨by rfl, ?_⟩) hHeld ?_ ?_
            rotate_left
            · intro w' hS
              have hrs : RS w w' _ _ g _ _ _ _ k x _ := hS
              obtain ⟨b0, b1, b2, b3, b4, b5, b6, b7, b8, b9, b10, b11⟩ := hrs.bx.cells
              have x1 := blk_cell hrs.xb 1
              have n0 := blk_cell hrs.nm.2.1 0
              go_simp
              with_reducible rfl
            rotate_left
            · simp only [Act.put, List.setIfInBounds_toArray, List.set_cons_zero, List.set_cons_succ, i64_w, i32_w]
              rfl
            refine last_ (i := 13) (N := none) #[true, true, true, true, true, true, true, true, true, true, true, true, true, true] rfl rfl (by kernel_rfl) (by decide) (fun K hK => ?_)
            obtain ⟨w6, hrun6, hS6⟩ := hHeld.put (by omega) (k + 1) (by rw [wf64']; omega) HW.out.1 HW.out.2.1
            refine skip_ (w1 := w6) (by rfl) rfl ?_ ?_
            · go_simp
            refine hK.out _ _ ?_
            clear hK K hrun6 hHeld
            refine done_ (by kernel_rfl) ?_
            have HS6 := Lib.hid hS6
            have x0 := blk_cell HS6.out.xb 0
            have x1 := blk_cell HS6.out.xb 1
            have x2 := blk_cell HS6.out.xb 2
            have x3 := blk_cell HS6.out.xb 3
            have x4 := blk_cell HS6.out.xb 4
            have x5 := blk_cell HS6.out.xb 5
            have x6 := blk_cell HS6.out.xb 6
            have x7 := blk_cell HS6.out.xb 7
            have x8 := blk_cell HS6.out.xb 8
            have x9 := blk_cell HS6.out.xb 9
            have x10 := blk_cell HS6.out.xb 10
            clear hS6 HS5
            go_wp2_with (at_builtin; refine Kd.R_append kRc (w0 := w) w.heap.size rfl (.tmp 88) (.tmp 90) 55 79 _ 112 rfl Try.underlying55 info79 rfl (by decide) (by omega) vo s.out ⟨x.f1.f0, k + 1, x.f1.f2, ofV s.f x.f1.f2 x.f1.f3, x.f1.f4, x.f1.f5, x.f1.f6, x.f1.f7, x.f1.f8⟩ [.int .i64 x.f1.f0, .int .i64 (k + 1), .int .i64 x.f1.f2, .int .i64 (ofV s.f x.f1.f2 x.f1.f3), .int .i64 x.f1.f4, .string x.f1.f5, .bool x.f1.f6.f0, .string x.f1.f6.f1, .bool x.f1.f7.f0, .string x.f1.f7.f1, .int .i64 (x.f1.f8)] (fun q => q ≠ g ∧ q ≠ g + 1) (fun _ => False) rfl rfl ?aP (fun _ hk => hk.elim) ?aF ?aO ?aB ?aS ?aL ?_; (case aP => exact k79_mkM _ _ _ _); (case aF => (intro q hq; have := blk_lt HS6.out.xb; constructor <;> omega)); (case aO => exact HS6.out.row); (case aB => exact HS6.out.bel); (case aS => exact HS6.out.bel.size); (case aL => (rw [HSS.out, Hlen.out]; omega)); intro v1 w7 ho hb7 hg7 hat7; have HL7 := Lib.hid (HS6.out.next ho hg7 hb7 hrun.out hlt); clear ho hb7 hg7 hat7)
            go_roundw
            case rel => exact ⟨_, k + 1, rfl, by go_num, HL7⟩
            case measure => simp [intOf]; omega
        · obtain rfl : k = l.length := by omega
          have n1 := blk_cell HL.out.nm.2.1 1
          have HB9 := Lib.hid HL.out.bel
          have HR9 := Lib.hid HL.out.row
          obtain ⟨nn, hnn⟩ : ∃ nn, nn = (runS l l.length).none_ := ⟨_, rfl⟩
          have HN9 := Lib.hid hnn
          rw [← hnn] at n1
          clear hnn
          cases nn with
          | true =>
            go_wp2
            go_ret2
            have h := hres.out
            rw [← HN9.out] at h
            simp only [if_true] at h
            obtain ⟨rfl, rfl⟩ := h
            exact ⟨_, rfl, Kd.R_nil _ _ _ _ _, HB9.out⟩
          | false =>
            go_wp2
            go_ret2
            have h := hres.out
            rw [← HN9.out] at h
            simp only [if_false, Bool.false_eq_true] at h
            obtain ⟨rfl, rfl⟩ := h
            exact ⟨_, rfl, HR9.out, HB9.out⟩


def numF (l : List Br) : List Rc × Int := if allB l then (if (runS l l.length).none_ then ([], 7) else ((runS l l.length).out, 0)) else ([], 1)
def single_Number.f (l0 : List Br) : Option ((List Rc) × Int) := if l0.length ≤ 1000 then some (numF l0) else none
theorem single_Number.calls (A0 : Option Addr) (c0 : Nat) (l0 : List Br) (r1 : List Rc) (r2 : Int) (w : World) (hr0 : Kd.C kBr w A0 l0.length l0) (hc0 : l0.length ≤ c0) (h : single_Number.f l0 = some (r1, r2)) :
    Calls Try.prog 23 #[.slice A0 l0.length c0] w fun e w' => ∃ v0_ : Value, e = .returned (.tuple #[v0_, .int .i64 r2]) ∧ Kd.R kRc 79 w' w.heap.size (fun _ => True) v0_ r1 ∧ Below w.heap.size w w' := by
  unfold single_Number.f at h
  by_cases hl : l0.length ≤ 1000
  · rw [if_pos hl] at h
    have h := Option.some.inj h
    unfold numF at h
    by_cases ha : allB l0 = true
    · rw [if_pos ha] at h
      refine num_good A0 c0 l0 w hr0 hc0 (by omega) ((allB_iff l0).1 ha) r1 r2 ?_
      refine Lib.hid ?_
      by_cases hn : (runS l0 l0.length).none_ = true
      · rw [if_pos hn] at h
        rw [if_pos hn, if_pos hn]
        exact ⟨(congrArg Prod.snd h).symm, (congrArg Prod.fst h).symm⟩
      · rw [if_neg hn] at h
        rw [if_neg hn, if_neg hn]
        exact ⟨(congrArg Prod.snd h).symm, (congrArg Prod.fst h).symm⟩
    · rw [if_neg ha] at h
      obtain rfl : [] = r1 := congrArg Prod.fst h
      obtain rfl : 1 = r2 := congrArg Prod.snd h
      exact num_bad A0 c0 l0 w hr0 hc0 (by omega) (fun z => ha ((allB_iff l0).2 z))
  · rw [if_neg hl] at h
    cases h
end Go.Proofs.Ytlicobfjeajcfaa
