/-
  SpaceNotes: an act, noted: the walk of does.
-/
import Derived.Test.YtlicobfjeajcfaaSnLaw
import Derived.Test.YtlicobfjeajcfaaSpG
import Derived.StillTailTactics
import Derived.Outline
namespace Go.Proofs.Ytlicobfjeajcfaa
open Go.RowKit Go.Maps Go.Proofs.Ytlicobfjeajcfaa.PSpaceNotes
open Go.Proofs.YtlicobfjeajcfaaW.PrintWords Go.Proofs.YtlicobfjeajcfaaW.PrintLast Go.Proofs.YtlicobfjeajcfaaW.PrintMore
set_option linter.unusedVariables false
set_option linter.unusedSimpArgs false

abbrev kNd : Kd Nd := k47
theorem infoNd : (Try.prog.info? 47).map (fun i => (i.zero, i.size, i.bytes)) = some (some (.agg #[.int .i64 0, .int .i64 0, .int .i64 0]), 3, 24) := by kernel_rfl

/-- A row of notes, and the book's own block, from a base on. -/
def RNd (w : World) (base : Nat) (v : Value) (D : List Nd) : Prop := Kd.R kNd 47 w base (fun _ => True) v D
theorem RNd.chg {w w' : World} {base b2 : Nat} {v : Value} {D : List Nd} (h : RNd w b2 v D) (hc : Chg base w w') : RNd w' b2 v D :=
  Kd.R_mono (Kd.R_move (Kd.R_bound h) (fun k hk => by
    obtain ⟨_, _, _, q, hq, cells, hc'⟩ := hk
    rw [hc.cells _ _ _ _ hc', hc'])) (fun _ _ => trivial)
def Bn (w : World) (base sb N : Nat) (K : List Int) (F : Int → Int → Int) : Prop :=
  Sp w base sb N K F ∧ ∃ c, w.heap[sb]? = some (Obj.cells c 66 (0, 0))
theorem Bn.below {w w' : World} {base sb N : Nat} {K : List Int} {F : Int → Int → Int} (h : Bn w base sb N K F) (hb : Below w.heap.size w w') : Bn w' base sb N K F := by
  obtain ⟨h1, c, hc⟩ := h
  exact ⟨h1.below hb, c, (hb.block _ (Array.getElem?_eq_some_iff.1 hc).1).trans hc⟩
theorem Bn.then_ {w w' : World} {base sb N N' : Nat} {K K' : List Int} {F F' : Int → Int → Int} (h : Bn w base sb N K F) (hs : Sp w' base sb N' K' F') (hc : Chg base w w') : Bn w' base sb N' K' F' := by
  obtain ⟨h1, c, hx⟩ := h
  exact ⟨hs, c, hc.cells _ _ _ _ hx⟩
/-- A row of another type is written. -/
theorem Bn.row {w w' : World} {base sb N : Nat} {K : List Int} {F : Int → Int → Int} (h : Bn w base sb N K F) {row : Option Nat} (hg : w.grownBy w' row) (hr : ∀ k, row = some k → ∃ c, w.heap[k]? = some (Obj.cells c 47 (0, 0))) : Bn w' base sb N K F := by
  obtain ⟨⟨B, Dm, hrp, hrest⟩, c, hc⟩ := h
  have hlt := (Array.getElem?_eq_some_iff.1 hc).1
  have hne : some sb ≠ row := by
    intro e
    obtain ⟨c2, hc2⟩ := hr sb e.symm
    rw [hc] at hc2
    injection hc2 with hc2
    injection hc2 with _ ht
    exact absurd ht (by decide)
  have hsb : w'.heap[sb]? = w.heap[sb]? := hg.block _ hlt hne
  refine ⟨⟨B, Dm, hrp.kept hg.size hsb ?_, hrest⟩, c, hsb.trans hc⟩
  intro i es cl hi
  refine (hg.block i (Array.getElem?_eq_some_iff.1 hi).1 ?_).trans hi
  intro e
  obtain ⟨c2, hc2⟩ := hr i e.symm
  rw [hi] at hc2
  cases hc2
set_option maxRecDepth 100000 in
set_option maxHeartbeats 400000 in
theorem new_bn (w : World) : Calls Try.prog 10 #[] w fun e w' => e = .returned (.pointer (some ⟨w.heap.size + 1, 0, none⟩)) ∧ Bn w' w.heap.size (w.heap.size + 1) 0 [] (fun _ _ => 0) ∧ Below w.heap.size w w' := by
  have hmm := @run_makeMap Try.prog
  go_enter Try.func10, Try.ntmps10
  go_wp2
  go_ret
  refine ⟨rfl, ⟨Sp.new rfl, #[.map (some w.heap.size)], ?_⟩, ((Below.refl _ _).alloc (Nat.le_refl _) _).alloc (by simp) _⟩
  have := heap_alloc_new (w.alloc (.map #[] 0)) (.cells #[.map (some w.heap.size)] 66)
  simpa using this
theorem RNd.typed {w : World} {base : Nat} {v : Value} {D : List Nd} (h : RNd w base v D) (k : Nat) (hk : v.ownBlock = some k) : ∃ c, w.heap[k]? = some (Obj.cells c 47 (0, 0)) := by
  obtain ⟨_, h2⟩ := Kd.R_own h
  exact own_typed h2 k hk
theorem RNd.base_ {w : World} {base : Nat} {v : Value} {D : List Nd} (h : RNd w base v D) (k : Nat) (hk : v.ownBlock = some k) : base ≤ k := by
  obtain ⟨_, h2⟩ := Kd.R_own h
  exact own_base h2 k hk

/-- The act's own box. -/
def Bx (w : World) (g : Nat) (kind txn : Int) (A : Option Addr) (n c : Nat) : Prop := w.heap[g]? = some (Obj.cells #[.int .i64 kind, .int .i64 txn, .slice A n c] 45 (0, 0))
theorem Bx.below {w w' : World} {g : Nat} {kind txn : Int} {A : Option Addr} {n c : Nat} (h : Bx w g kind txn A n c) (hb : Below w.heap.size w w') : Bx w' g kind txn A n c := (hb.block _ (Array.getElem?_eq_some_iff.1 h).1).trans h
theorem Bx.chg {w w' : World} {base g : Nat} {kind txn : Int} {A : Option Addr} {n c : Nat} (h : Bx w g kind txn A n c) (hb : Chg base w w') : Bx w' g kind txn A n c := hb.cells _ _ _ _ h
theorem Bx.row {w w' : World} {g : Nat} {kind txn : Int} {A : Option Addr} {n c : Nat} (h : Bx w g kind txn A n c) {row : Option Nat} (hg : w.grownBy w' row) (hr : ∀ k, row = some k → ∃ c, w.heap[k]? = some (Obj.cells c 47 (0, 0))) : Bx w' g kind txn A n c := by
  refine (hg.block _ (Array.getElem?_eq_some_iff.1 h).1 ?_).trans h
  intro e
  obtain ⟨c2, hc2⟩ := hr g e.symm
  unfold Bx at h
  rw [h] at hc2
  injection hc2 with hc2
  injection hc2 with _ ht
  exact absurd ht (by decide)
theorem Bx.cells {w : World} {g : Nat} {kind txn : Int} {A : Option Addr} {n c : Nat} (h : Bx w g kind txn A n c) :
    w.cell? ⟨g, 0, none⟩ = some (.int .i64 kind) ∧ w.cell? ⟨g, 1, none⟩ = some (.int .i64 txn) ∧ w.cell? ⟨g, 2, none⟩ = some (.slice A n c) :=
  ⟨blk_cell h 0, blk_cell h 1, blk_cell h 2⟩

/-- What stays readable whatever happens from a base on. -/
def Stays (base : Nat) (w : World) (A : Option Addr) (n : Nat) (ps : List Int) : Prop :=
  n = ps.length ∧ ∀ w', Below base w w' → RdI w' A ps
theorem Stays.then_ {base : Nat} {w w' : World} {A : Option Addr} {n : Nat} {ps : List Int} (h : Stays base w A n ps) (hb : Below base w w') : Stays base w' A n ps :=
  ⟨h.1, fun w2 hb2 => h.2 w2 (hb.trans hb2)⟩

/-- Between the rounds of the loop that keeps the others. -/
structure D1 (w1 wr : World) (txn : Int) (D : List Nd) (vo : Value) (k : Nat) : Prop where
  hk : k ≤ D.length
  row : Kd.R kNd 47 wr w1.heap.size (fun _ => True) vo (keep txn (D.take k))
  bel : Below w1.heap.size w1 wr
theorem take_snocN (D : List Nd) (k : Nat) (h : k < D.length) : D.take (k + 1) = D.take k ++ [rd_T47 D (k : Int)] := by
  rw [List.take_succ_eq_append_getElem h]
  simp [rd_T47, List.getD, h]
theorem D1.skip {w1 wr : World} {txn : Int} {D : List Nd} {vo : Value} {k : Nat} (h : D1 w1 wr txn D vo k) (hk : k < D.length) (hx : (rd_T47 D (k : Int)).f0 = txn) (m : Nat) : D1 w1 (wr.drewN m) txn D vo (k + 1) := by
  refine ⟨hk, ?_, pw_below_drewN h.bel m⟩
  have e : keep txn (D.take (k + 1)) = keep txn (D.take k) := by
    rw [take_snocN D k hk]
    simp [keep, List.filter_append, hx]
  rw [e]
  exact Kd.R_drewN h.row m
theorem D1.next {w1 wr w2 : World} {txn : Int} {D : List Nd} {vo v2 : Value} {k : Nat} (h : D1 w1 wr txn D vo k) (hk : k < D.length) (hx : ¬ (rd_T47 D (k : Int)).f0 = txn)
    (hr : Kd.R kNd 47 w2 w1.heap.size (fun _ => True) v2 (keep txn (D.take k) ++ [rd_T47 D (k : Int)])) (hb : Below w1.heap.size w1 w2) : D1 w1 w2 txn D v2 (k + 1) := by
  refine ⟨hk, ?_, hb⟩
  have e : keep txn (D.take (k + 1)) = keep txn (D.take k) ++ [rd_T47 D (k : Int)] := by
    rw [take_snocN D k hk]
    simp [keep, List.filter_append, hx]
  rw [e]
  exact hr

set_option maxRecDepth 100000 in
set_option maxHeartbeats 4000000 in
theorem does_done (w : World) (B0 base sb N M : Nat) (K : List Int) (F : Int → Int → Int) (v : Value) (D : List Nd) (kind txn : Int) (A : Option Addr) (n c : Nat) (hk : kind > 1 ∨ kind < 0) (ht : (Lit.int .i64 txn).wf = true)
    (hbk : Bn w base sb N K F) (hR : RNd w B0 v D) (hB : B0 ≤ base) (hB2 : base ≤ w.heap.size) (hni : NI D K F M) (hM : M ≤ 1000) :
    Calls Try.prog 17 #[.pointer (some ⟨sb, 0, none⟩), v, .agg #[.int .i64 kind, .int .i64 txn, .slice A n c]] w fun e w' => ∃ v', e = .returned v' ∧ RNd w' B0 v' (keep txn D) ∧ Bn w' base sb N (doneK K [txn]) (doneF F [txn]) ∧ Below B0 w w' := by
  have hlen : D.length ≤ 1000 := by have := hni.len; omega
  obtain ⟨Av, cv, rfl, hcv, hC⟩ := Kd.R_reads hR
  have HR := Lib.hid hR
  have hlen2 : (D.length : Int) ≤ 1000 := by omega
  have hcv2 : (D.length : Int) ≤ cv := by omega
  have hbx0 : Bx (w.alloc (.cells #[.int .i64 kind, .int .i64 txn, .slice A n c] 45)) w.heap.size kind txn A n c := blk_new w _
  have HBX := Lib.hid hbx0
  have HC := Lib.hid hC
  have Hbk := Lib.hid hbk
  have HW := Lib.hid ht
  clear hR hbx0 hC hbk ht hni
  have hd1 : decide (kind > 1) = true ∨ (decide (kind > 1) = false ∧ decide (kind < 0) = true) := by
    rcases hk with h | h
    · exact .inl (by simpa using h)
    · exact .inr ⟨by simp; omega, by simpa using h⟩
  rcases hd1 with hd1 | ⟨hd1, hd2⟩
  all_goals
    obtain ⟨b0, b1, b2⟩ := HBX.out.cells
    go_enter Try.func17, Try.ntmps17
    have hs0 := Hbk.out.below (((Below.refl _ _).alloc (Nat.le_refl _) (.cells #[.int .i64 kind, .int .i64 txn, .slice A n c] 45)).alloc (by simp) (.cells #[.int .i64 txn] 3))
    have hrd : RdI ((w.alloc (.cells #[.int .i64 kind, .int .i64 txn, .slice A n c] 45)).alloc (.cells #[.int .i64 txn] 3)) (some ⟨w.heap.size + 1, 0, none⟩) [txn] := by
      have := rd_one (w.alloc (.cells #[.int .i64 kind, .int .i64 txn, .slice A n c] 45)) txn 3 HW.out
      simpa using this
    have hR0 := Kd.R_below HR.out (((Below.refl _ _).alloc (Nat.le_refl _) (.cells #[.int .i64 kind, .int .i64 txn, .slice A n c] 45)).alloc (by simp) (.cells #[.int .i64 txn] 3))
    have hB0 : Below w.heap.size w ((w.alloc (.cells #[.int .i64 kind, .int .i64 txn, .slice A n c] 45)).alloc (.cells #[.int .i64 txn] 3)) := (((Below.refl _ _).alloc (Nat.le_refl _) _).alloc (by simp) _)
    have hbx1 := HBX.out.below ((Below.refl _ _).alloc (Nat.le_refl _) (.cells #[.int .i64 txn] 3))
    have Hs0 := Lib.hid hs0
    have Hrd := Lib.hid hrd
    have HR0 := Lib.hid hR0
    have HB0 := Lib.hid hB0
    have HBX1 := Lib.hid hbx1
    clear hs0 hrd hR0 hB0 hbx1
    go_wp2_with fail
    refine (Hs0.out.1.done _ [txn] 1 Hrd.out (by simp)).mono ?_
    rintro e w1 ⟨rfl, hs1, hc1⟩
    have Hbk1 := Lib.hid (Hs0.out.then_ hs1 hc1)
    have HR1 : Hid (RNd w1 B0 (.slice Av D.length cv) D) := Lib.hid (RNd.chg HR0.out hc1)
    have HB1 : Hid (Below B0 w w1) := Lib.hid ((HB0.out.mono (by omega)).trans (hc1.below.mono hB))
    have HBX2 := Lib.hid (HBX1.out.chg hc1)
    have HC1 : Hid (kNd.C w1 Av D.length D) := Lib.hid (Kd.R_reads' HR1.out).2.2
    clear b0 b1 b2 hs1 hc1 Hs0 Hrd HR0 HB0 HBX1 Hbk HR HBX HC
    have HL : Hid (D1 w1 w1 txn D (.slice none 0 0) 0) := Lib.hid ⟨Nat.zero_le _, Kd.R_nil _ _ _ _ _, Below.refl _ _⟩
    go_wp2
    go_loopw [7, 8] (fun v7 v8 wr => ∃ (vo : Value) (k : Nat), vo = v7 ∧ v8 = .int .i64 k ∧ Hid (D1 w1 wr txn D vo k)) (fun _ v8 _ => D.length - (intOf v8).toNat)
    case atStart => exact ⟨_, 0, rfl, rfl, HL⟩
    case round =>
      clear HL
      obtain ⟨vo, k, rfl, rfl, HL⟩ := hrel
      have hkl := HL.out.hk
      by_cases hlt : k < D.length
      · have hlt2 : (k : Int) < D.length := by omega
        have hk0 : (0 : Int) ≤ k := by omega
        obtain ⟨ad, rfl, hx0, hx1, hx2⟩ := at_T47 (Kd.C_below HC1.out HL.out.bel) (k : Int) (by omega) hlt2
        simp only [Int.toNat_natCast] at hx0 hx1 hx2
        obtain ⟨x, hx⟩ : ∃ x, x = rd_T47 D (k : Int) := ⟨_, rfl⟩
        rw [← hx] at hx0 hx1 hx2
        have Hx := Lib.hid hx
        clear hx
        obtain ⟨xt, xp, xn⟩ := x
        simp only at hx0 hx1 hx2
        obtain ⟨b0, b1, b2⟩ := (HBX2.out.below HL.out.bel).cells
        clear b0 b2
        by_cases hxt : xt = txn
        · have hne : (xt != txn) = false := by simpa using hxt
          go_wp2
          go_quiet (fail)
          go_wp2
          go_roundw
          case rel => exact ⟨_, k + 1, rfl, by go_num, Lib.hid (HL.out.skip hlt (by rw [← Hx.out]; exact hxt) _)⟩
          case measure => simp [intOf]; omega
        · have hne : (xt != txn) = true := by simpa using hxt
          go_wp2
          go_quiet (fail)
          have HB2 : Hid (Below w1.heap.size w1 (wr.drewN nq)) := Lib.hid (pw_below_drewN HL.out.bel nq)
          have HR2 : Hid (Kd.R kNd 47 (wr.drewN nq) w1.heap.size (fun _ => True) vo (keep txn (D.take k))) := Lib.hid (Kd.R_drewN HL.out.row nq)
          have y0 : (wr.drewN nq).cell? (ad.add (k * 3)) = some (.int .i64 xt) := hx0
          have y1 : (wr.drewN nq).cell? ⟨(ad.add (k * 3)).block, (ad.add (k * 3)).off + 1, none⟩ = some (.int .i64 xp) := hx1
          have y2 : (wr.drewN nq).cell? ⟨(ad.add (k * 3)).block, (ad.add (k * 3)).off + 2, none⟩ = some (.int .i64 xn) := hx2
          clear hx0 hx1 hx2 b1
          generalize wr.drewN nq = w2 at *
          have hkp : (keep txn (D.take k)).length ≤ 1000 := by
            have := List.length_filter_le (fun x : Nd => !decide (x.f0 = txn)) (D.take k)
            unfold keep
            rw [List.length_take] at this
            omega
          go_wp2_with (at_builtin; refine Kd.R_append kNd (w0 := w1) w1.heap.size rfl (.tmp 38) (.tmp 43) 41 47 (.agg #[.int .i64 0, .int .i64 0, .int .i64 0]) 24 rfl Try.underlying41 infoNd rfl (by decide) (by omega) vo (keep txn (D.take k)) ⟨xt, xp, xn⟩ [.int .i64 xt, .int .i64 xp, .int .i64 xn] (fun _ => True) (fun _ => False) rfl rfl ?aP (fun _ hk => hk.elim) (fun _ _ => trivial) ?aO ?aB ?aS ?aL ?_; (case aP => exact k47_mkM _ _ _ _); (case aO => exact HR2.out); (case aB => exact HB2.out); (case aS => exact HB2.out.size); (case aL => omega); intro v1 w3 ho hb3 hg hat; have HL3 : Hid (D1 w1 w3 txn D v1 (k + 1)) := Lib.hid (HL.out.next hlt (by rw [← Hx.out]; exact hxt) (by rw [← Hx.out]; exact ho) hb3); clear ho hb3 hg hat)
          go_roundw
          case rel => exact ⟨_, k + 1, rfl, by go_num, HL3⟩
          case measure => simp [intOf]; omega
      · obtain rfl : k = D.length := by omega
        have hfin : D.take D.length = D := List.take_length
        have Hfin := Lib.hid hfin
        clear hfin
        have Hb9 := Lib.hid (HB1.out.trans (HL.out.bel.mono (by have := HB1.out.size; omega)))
        go_wp2
        go_ret
        refine ⟨_, rfl, ?_, Hbk1.out.below HL.out.bel, ?_⟩
        · have := HL.out.row
          rw [Hfin.out] at this
          exact Kd.R_lower this (by have := HB1.out.size; omega)
        · exact Hb9.out
end Go.Proofs.Ytlicobfjeajcfaa
