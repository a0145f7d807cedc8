/-
  SpaceBack: the law's walk.
-/
import Derived.Test.YtlicobfjeajcfaaSbLaw
import Derived.Test.YtlicobfjeajcfaaSpG
import Derived.Outline
namespace Go.Proofs.Ytlicobfjeajcfaa
open Go.RowKit Go.Maps Go.Proofs.Ytlicobfjeajcfaa.Q17
open Go.Proofs.YtlicobfjeajcfaaW.PrintWords Go.Proofs.YtlicobfjeajcfaaW.PrintLast Go.Proofs.YtlicobfjeajcfaaW.PrintMore
set_option linter.unusedVariables false
set_option linter.unusedSimpArgs false

abbrev SMv := S30
abbrev kMv : Kd SMv := k30
def zMv : SMv := ⟨0, false⟩
theorem infoMv : (Try.prog.info? 30).map (fun i => (i.zero, i.size, i.bytes)) = some (some (.agg #[.int .u8 0, .bool false]), 2, 2) := by kernel_rfl

/-- A row of moves that reads so, and its block. -/
def RMv (w : World) (base : Nat) (v : Value) (D : List SMv) : Prop := Kd.R kMv 30 w base (fun _ => True) v D
theorem RMv.chg {w w' : World} {base b2 : Nat} {v : Value} {D : List SMv} (h : RMv w b2 v D) (hc : Chg base w w') : RMv w' b2 v D :=
  Kd.R_mono (Kd.R_move (Kd.R_bound h) (fun k hk => by
    obtain ⟨_, _, _, q, hq, cells, hc'⟩ := hk
    rw [hc.cells _ _ _ _ hc', hc'])) (fun _ _ => trivial)
theorem RMv.below {w w' : World} {b2 : Nat} {v : Value} {D : List SMv} (h : RMv w b2 v D) (hb : Below w.heap.size w w') : RMv w' b2 v D := Kd.R_below h hb

/-- The book, and its own block. -/
def Bk (w : World) (base sb N : Nat) (K : List Int) (F : Int → Int → Int) : Prop :=
  Sp w base sb N K F ∧ ∃ c, w.heap[sb]? = some (Obj.cells c 66 (0, 0))
theorem Bk.below {w w' : World} {base sb N : Nat} {K : List Int} {F : Int → Int → Int} (h : Bk w base sb N K F) (hb : Below w.heap.size w w') : Bk w' base sb N K F := by
  obtain ⟨h1, c, hc⟩ := h
  exact ⟨h1.below hb, c, (hb.block _ (Array.getElem?_eq_some_iff.1 hc).1).trans hc⟩
theorem Bk.then_ {w w' : World} {base sb N N' : Nat} {K K' : List Int} {F F' : Int → Int → Int} (h : Bk w base sb N K F) (hs : Sp w' base sb N' K' F') (hc : Chg base w w') : Bk w' base sb N' K' F' := by
  obtain ⟨h1, c, hx⟩ := h
  exact ⟨hs, c, hc.cells _ _ _ _ hx⟩
theorem Bk.row {w w' : World} {base sb N b2 : Nat} {K : List Int} {F : Int → Int → Int} {v : Value} {D : List SMv} (h : Bk w base sb N K F) (hR : RMv w b2 v D) (hg : w.grownBy w' v.ownBlock) : Bk w' base sb N K F := by
  obtain ⟨⟨B, Dm, hr, hrest⟩, c, hc⟩ := h
  have hlt := (Array.getElem?_eq_some_iff.1 hc).1
  have hne : some sb ≠ v.ownBlock := Kd.R_ne hR hc (by decide)
  have hsb : w'.heap[sb]? = w.heap[sb]? := hg.block _ hlt hne
  refine ⟨⟨B, Dm, hr.kept hg.size hsb ?_, hrest⟩, c, hsb.trans hc⟩
  intro i es cl hi
  refine (hg.block i (Array.getElem?_eq_some_iff.1 hi).1 ?_).trans hi
  intro e
  obtain ⟨_, hR2⟩ := Kd.R_own hR
  obtain ⟨cells, hcl⟩ := own_typed hR2 i e.symm
  rw [hi] at hcl
  cases hcl

set_option maxRecDepth 100000 in
set_option maxHeartbeats 400000 in
theorem new_bk (w : World) : Calls Try.prog 10 #[] w fun e w' => e = .returned (.pointer (some ⟨w.heap.size + 1, 0, none⟩)) ∧ Bk w' w.heap.size (w.heap.size + 1) 0 [] (fun _ _ => 0) ∧ Below w.heap.size w w' := by
  have hmm := @run_makeMap Try.prog
  go_enter Try.func10, Try.ntmps10
  go_wp2
  go_ret
  refine ⟨rfl, ⟨Sp.new rfl, #[.map (some w.heap.size)], ?_⟩, ((Below.refl _ _).alloc (Nat.le_refl _) _).alloc (by simp) _⟩
  have := heap_alloc_new (w.alloc (.map #[] 0)) (.cells #[.map (some w.heap.size)] 66)
  simpa using this

/-- Between the rounds of the first loop. -/
structure L1 (w wr : World) (base sb : Nat) (n0 : Int) (len : Nat) (v9 : Value) (k : Nat) (n : Int) (D : List SMv) (K : List Int) (F : Int → Int → Int) (N : Nat) : Prop where
  hk : k ≤ len
  hD : D.length ≤ k
  hN : N ≤ 2 * k
  bi : BI n0 n D K F
  bk : Bk wr base sb N K F
  row : RMv wr w.heap.size v9 D
  bel : Below w.heap.size w wr
  hb : w.heap.size ≤ base

theorem L1.start {w x1 : World} {base sb : Nat} {n0 : Int} (len : Nat) (hn : 0 ≤ n0 ∧ n0 ≤ 8) (hbk : Bk x1 base sb 0 [] (fun _ _ => 0)) (hb : Below w.heap.size w x1) (hbase : w.heap.size ≤ base) : L1 w x1 base sb n0 len (.slice none 0 0) 0 n0 [] [] (fun _ _ => 0) 0 :=
  ⟨Nat.zero_le _, Nat.le_refl _, Nat.le_refl _, BI.start n0 hn, hbk, Kd.R_nil _ _ _ _ _, hb, hbase⟩

theorem L1.next {w wr w' : World} {base sb len k N N' : Nat} {n0 n n' : Int} {v9 v' : Value} {D D' : List SMv} {K K' : List Int} {F F' : Int → Int → Int} (h : L1 w wr base sb n0 len v9 k n D K F N) (hk : k < len)
    (hD : D'.length ≤ k + 1) (hN : N' ≤ 2 * (k + 1)) (hbi : BI n0 n' D' K' F') (hbk : Bk w' base sb N' K' F') (hR : RMv w' w.heap.size v' D') (hb : Below w.heap.size w w') : L1 w w' base sb n0 len v' (k + 1) n' D' K' F' N' :=
  ⟨by omega, hD, hN, hbi, hbk, hR, hb, h.hb⟩

theorem Bk.all_le {w : World} {base sb N : Nat} {n0 n : Int} {D : List SMv} {K : List Int} {F : Int → Int → Int} (h : Bk w base sb N K F) (hbi : BI n0 n D K F) :
    Calls Try.prog 15 #[.pointer (some ⟨sb, 0, none⟩), .int .i64 3] w fun e w' => ∃ m : Int, 0 ≤ m ∧ n + m ≤ 8 ∧ e = .returned (.int .i64 m) ∧ Below w.heap.size w w' := by
  refine (h.1.all 3 (by decide)).mono ?_
  rintro e w' ⟨rfl, hb⟩
  rw [hbi.allV]
  exact ⟨_, sum4_nonneg D, hbi.room, rfl, hb⟩
theorem Bk.may {w : World} {base sb N : Nat} {K : List Int} {F : Int → Int → Int} (h : Bk w base sb N K F) (t n : Int) (A : Option Addr) (c : Nat) (ht : (Lit.int .i64 t).wf = true) (h0 : 0 ≤ n) (h8 : n ≤ 8) :
    Calls Try.prog 12 #[.pointer (some ⟨sb, 0, none⟩), .int .i64 t, .agg #[.int .i64 3, .int .i64 0, .slice A n.toNat c]] w fun e w' => e = .returned (.bool (mayK K F t 3 n)) ∧ Below w.heap.size w w' := by
  have := h.1.may t 3 0 A n.toNat c ht (by decide) (by omega)
  rw [Int.toNat_of_nonneg h0] at this
  exact this

/-- Between the rounds of the second loop. -/
structure L2 (w wr : World) (n0 : Int) (len2 : Nat) (v : Value) (len : Nat) (i : Nat) (n : Int) (D : List SMv) : Prop where
  hl : D.length = len
  hD : len ≤ 80
  hi : i + len ≤ len2 + 80
  bj : BJ n0 n D
  row : RMv wr w.heap.size v D
  bel : Below w.heap.size w wr
def slen : Value → Nat | .slice _ n _ => n | _ => 0
theorem L1.toL2 {w wr : World} {base sb len k N : Nat} {n0 n : Int} {v9 : Value} {D : List SMv} {K : List Int} {F : Int → Int → Int} (h : L1 w wr base sb n0 len v9 k n D K F N) (hlen : (len : Int) ≤ 80) (len2 : Nat) :
    ∃ A c, v9 = .slice A D.length c ∧ L2 w wr n0 len2 (.slice A D.length c) D.length 0 n D := by
  obtain ⟨A, c, rfl⟩ := Kd.R_slice h.row
  have := h.hD
  have := h.hk
  exact ⟨A, c, rfl, rfl, by omega, by omega, h.bi.toJ, h.row, h.bel⟩
theorem L2.reads {w wr : World} {n0 n : Int} {len2 m i j c : Nat} {A : Option Addr} {D : List SMv} (h : L2 w wr n0 len2 (.slice A (m + 1) c) (m + 1) i n D) (hj : j ≤ m) :
    ReadsRow (kMv.K wr) kMv.sz wr A j (D.take j) ∧ ReadsRow (kMv.K wr) kMv.sz wr (if c = j + 1 then A else A.map (·.add ((j + 1) * 2))) (m - j) (D.drop (j + 1)) := by
  obtain ⟨h1, h2, h3⟩ := Kd.R_reads' h.row
  have hl := h.hl
  have e1 : (D.take j).length = j := by rw [List.length_take]; omega
  have e2 : (D.drop (j + 1)).length = m - j := by rw [List.length_drop]; omega
  have c1 := Kd.C_take h3 (m := j) (by omega)
  have c2 := Kd.C_drop (c := c) h3 (m := j + 1) (by omega) (by omega)
  rw [e1] at c1
  rw [e2] at c2
  exact ⟨c1, c2⟩
/-- No round but one of many ends ahead. -/
theorem L2.skip {w wr : World} {n0 n : Int} {len2 len i : Nat} {v : Value} {D : List SMv} (h : L2 w wr n0 len2 v len i n D) (hi : i < len2) : L2 w wr n0 len2 v len (i + 1) n D :=
  ⟨h.hl, h.hD, by have := h.hD; omega, h.bj, h.row, h.bel⟩
theorem L2.next {w wr w2 : World} {n0 n : Int} {len2 m i j : Nat} {v v2 : Value} {D : List SMv} (h : L2 w wr n0 len2 v (m + 1) i n D) (hj : j ≤ m) (hlast : ∀ q : Nat, j < q → q ≤ m → (rd_T30 D q).f0 ≠ (rd_T30 D j).f0)
    (hR : Kd.R kMv 30 w2 wr.heap.size (fun _ => True) v2 (D.take j ++ D.drop (j + 1))) (hb : Below wr.heap.size wr w2) : L2 w w2 n0 len2 v2 m (i + 1) (n - dlt (rd_T30 D j).f1) (D.take j ++ D.drop (j + 1)) := by
  have h1 := h.hl
  have h2 := h.hD
  have h3 := h.hi
  have hk : j < D.length := by omega
  refine ⟨by simp; omega, by omega, by omega, ?_, Kd.R_lower hR h.bel.size, bel_step h.bel hb⟩
  have := h.bj.back j hk z30 (fun q hq hq2 => by
    have := hlast q hq (by omega)
    simpa [rd_T30] using this)
  simpa [rd_T30] using this
theorem byte_at {w : World} {A : Option Addr} {n : Nat} {xs : List Int} (h : (Kd.int .u8).C w A n xs) (i : Nat) (hi : i < n) : ∃ ad, A = some ad ∧ w.cell? (ad.add i) = some (.int .u8 (xs.getD i 0)) := by
  obtain ⟨ad, c, e, _, hK, hc⟩ := Kd.C_get h 0 (i : Int) (by omega) (by omega)
  have hK' : c = [.int .u8 (xs.getD ((i : Int)).toNat 0)] := hK
  subst hK'
  refine ⟨ad, e, ?_⟩
  have := hc 0 _ rfl
  simpa [Kd.int, Kd.scalar] using this
theorem mv_KM (w w' : World) (base : Nat) (okp : Nat → Prop) (x : SMv) (cs : List Value) (h : kMv.K w x cs) : kMv.M w' base okp x cs := by
  rw [k30_open h]
  exact k30_mkM _ _ _ _

set_option maxRecDepth 100000 in
set_option maxHeartbeats 4000000 in
theorem back_walk1 (a0 : Int) (A1 : Option Addr) (c1 : Nat) (l1 : List SMv) (A2 : Option Addr) (c2 : Nat) (l2 : List Int) (w : World) (h0 : 0 ≤ a0 ∧ a0 ≤ 255) (hl1 : (l1.length : Int) ≤ 80) (hl2 : (l2.length : Int) ≤ 200)
    (hr1 : kMv.C w A1 l1.length l1) (hc1 : l1.length ≤ c1) (hr2 : (Kd.int .u8).C w A2 l2.length l2) (hc2 : l2.length ≤ c2) (hwf2 : ∀ i : Nat, i < l2.length → 0 ≤ l2.getD i 0 ∧ l2.getD i 0 ≤ 255) (hwf : ∀ i : Nat, i < l1.length → 0 ≤ (rd_T30 l1 i).f0 ∧ (rd_T30 l1 i).f0 ≤ 255) :
    Calls Try.prog 4 #[.int .u8 a0, .slice A1 l1.length c1, .slice A2 l2.length c2] w fun e w' => e = .returned (.bool true) ∧ Below w.heap.size w w' := by
  have W3 : Hid ((Lit.int .i64 3).wf = true) := Lib.hid (by decide)
  have Hr1 := Lib.hid hr1
  have Hr2 := Lib.hid hr2
  have Hwf := Lib.hid hwf
  have Hwf2 := Lib.hid hwf2
  clear hr1 hr2 hwf hwf2
  have hdec1 : decide ((l1.length : Int) > 80) = false := by simp; omega
  have hdec2 : decide ((l2.length : Int) > 200) = false := by simp; omega
  go_enter Try.func4, Try.ntmps4
  go_wp2_with (go_at_call 8; refine (awake_calls _).mono ?_; rintro e wa ⟨rfl, hba⟩; have Hba := Lib.hid hba; clear hba)
  refine (new_bk _).mono ?_
  rintro e wb ⟨rfl, hbk, hbb⟩
  have hbase : w.heap.size ≤ wa.heap.size := Hba.out.size
  have Hbel := Lib.hid (bel_step Hba.out hbb)
  have Hbk := Lib.hid hbk
  clear hbk hbb
  go_wp2
  have hn0 : 0 ≤ a0 % 9 ∧ a0 % 9 ≤ 8 := by omega
  have HL := Lib.hid (L1.start l1.length hn0 Hbk.out Hbel.out hbase)
  clear Hbk Hbel
  have hA : Hid (∃ x : Int, x = a0 % 9) := Lib.hid ⟨_, rfl⟩
  go_loopw [8, 9, 10] (fun v8 v9 v10 wr => ∃ (v : Value) (k : Nat) (n : Int) (D : List SMv) (K : List Int) (F : Int → Int → Int) (N : Nat), v = v9 ∧ v8 = .int .i64 n ∧ v10 = .int .i64 k ∧ Hid (L1 w wr wa.heap.size (wa.heap.size + 1) (a0 % 9) l1.length v k n D K F N)) (fun _ _ v10 _ => l1.length - (intOf v10).toNat)
  case atStart => exact ⟨_, 0, _, _, _, _, _, rfl, rfl, rfl, HL⟩
  case round =>
    clear HL
    obtain ⟨v9, k, n, D, K, F, N, rfl, rfl, rfl, HL⟩ := hrel
    have hklen := HL.out.hk
    have hDk := HL.out.hD
    have hNk := HL.out.hN
    have hn1 : 0 ≤ n := HL.out.bi.pos
    have hn2 : n ≤ 8 := by have := HL.out.bi.room; have := sum4_nonneg D; omega
    by_cases hlt : k < l1.length
    · have hlt2 : (k : Int) < l1.length := by omega
      obtain ⟨ad, rfl, hx0, hx1⟩ := at_T30 Hr1.out (k : Int) (by omega) hlt2
      have hxw := Hwf.out k hlt
      simp only [Int.toNat_natCast] at hx0 hx1
      have hxw2 : rd_T30 l1 (k : Int) = rd_T30 l1 (k : Int) := rfl
      clear hxw2
      generalize rd_T30 l1 (k : Int) = x at hx0 hx1 hxw
      obtain ⟨xt, xb⟩ := x
      simp only at hx0 hx1 hxw
      have Hx0 := Lib.hid hx0
      have Hx1 := Lib.hid hx1
      clear hx0 hx1
      have hx0 := pw_cell_below HL.out.bel Hx0.out
      have hx1 := pw_cell_below HL.out.bel Hx1.out
      have ht : 0 ≤ xt % 4 ∧ xt % 4 ≤ 3 := by omega
      have Wt : Hid ((Lit.int .i64 (xt % 4)).wf = true) := Lib.hid (wf64.2 (by omega))
      cases xb with
      | true =>
        by_cases hpos : 0 < n
        · have hdn : decide (n > 0) = true := by simp; omega
          have Hbi := Lib.hid (HL.out.bi.take (xt % 4) ht hpos)
          have hn8 : n - 1 ≤ 8 := by have := Hbi.out.room; have := sum4_nonneg (D ++ [⟨xt % 4, true⟩]); omega
          have HS0 := Lib.hid (HL.out.bk.below ((Below.refl _ _).alloc (Nat.le_refl _) (.cells #[.int .i64 3] 3)))
          have Hrd := Lib.hid (rd_one wr 3 3 W3.out)
          have HR0 := Lib.hid (HL.out.row.below ((Below.refl _ _).alloc (Nat.le_refl _) (.cells #[.int .i64 3] 3)))
          have HB0 := Lib.hid (bel_step HL.out.bel ((Below.refl _ _).alloc (Nat.le_refl _) (.cells #[.int .i64 3] 3)))
          go_wp2_with fail
          refine (HS0.out.1.take (xt % 4) _ [3] 1 Wt.out Hrd.out (by simp; omega)).mono ?_
          rintro e w2 ⟨rfl, hs2, hc2⟩
          have Hbk2 := Lib.hid (HS0.out.then_ hs2 hc2)
          have HR2 := Lib.hid (HR0.out.chg hc2)
          have HB2 := Lib.hid (HB0.out.trans (hc2.below.mono HL.out.hb))
          clear hs2 hc2
          go_wp2_with (at_builtin; refine Kd.R_append kMv (w0 := w) w.heap.size rfl (.tmp 61) (.tmp 65) 25 30 (.agg #[.int .u8 0, .bool false]) 2 rfl Try.underlying25 infoMv rfl (by decide) (by omega) v9 D ⟨xt % 4, true⟩ [.int .u8 (xt % 4), .bool true] (fun _ => True) (fun _ => False) rfl rfl ?aP (fun _ hk => hk.elim) (fun _ _ => trivial) ?aO ?aB ?aS ?aL ?_; (case aP => exact k30_mkM _ _ _ _); (case aO => exact HR2.out); (case aB => exact HB2.out); (case aS => exact HB2.out.size); (case aL => omega); intro v1 w3 ho hb3 hg hat; have Hbk3 := Lib.hid (Hbk2.out.row HR2.out hg); have HR3 : Hid (RMv w3 w.heap.size v1 (D ++ [⟨xt % 4, true⟩])) := Lib.hid ho; have HB3 := Lib.hid hb3; have hx1b := pw_cell_below hb3 Hx1.out; clear ho hb3 hg hat)
          go_wp2_with fail
          refine (Hbk3.out.all_le Hbi.out).mono ?_
          rintro e w4 ⟨m, hm0, hm1, rfl, hb4⟩
          have Hbk4 := Lib.hid (Hbk3.out.below hb4)
          have HR4 := Lib.hid ((HR3.out.below hb4))
          have HB4 := Lib.hid (bel_step HB3.out hb4)
          clear hb4
          have hdn8 : decide ((n - 1) > 8) = false := by simp; omega
          have hdm8 : decide ((n - 1) + m > 8) = false := by simp; omega
          go_wp2
          go_roundw
          case rel => exact ⟨_, k + 1, _, _, _, _, (N + 1 + [(3 : Int)].length), rfl, rfl, by go_num, Lib.hid (HL.out.next hlt (by simp; omega) (by simp; omega) Hbi.out Hbk4.out HR4.out HB4.out)⟩
          case measure => simp [intOf]; omega
        · 
          have hdn : decide (n > 0) = false := by simp; omega
          have Hbi := Lib.hid HL.out.bi
          have Hbk3 := Lib.hid HL.out.bk
          go_wp2_with fail
          refine (Hbk3.out.all_le Hbi.out).mono ?_
          rintro e w4 ⟨m, hm0, hm1, rfl, hb4⟩
          have Hbk4 := Lib.hid (Hbk3.out.below hb4)
          have HR4 := Lib.hid ((HL.out.row.below hb4))
          have HB4 := Lib.hid (bel_step HL.out.bel hb4)
          clear hb4
          have hdn8 : decide (n > 8) = false := by simp; omega
          have hdm8 : decide (n + m > 8) = false := by simp; omega
          go_wp2
          go_roundw
          case rel => exact ⟨_, k + 1, _, _, _, _, N, rfl, rfl, by go_num, Lib.hid (HL.out.next hlt (by omega) (by omega) Hbi.out Hbk4.out HR4.out HB4.out)⟩
          case measure => simp [intOf]; omega
      | false =>
        go_wp2_with fail
        refine (page_calls 3 n hn1 (by omega) _).mono ?_
        rintro e wp ⟨⟨Ap, cp, rfl⟩, hbp⟩
        have Hbp := Lib.hid (HL.out.bk.below hbp)
        have HRp := Lib.hid (HL.out.row.below hbp)
        have HBp := Lib.hid (bel_step HL.out.bel hbp)
        clear hbp
        cases hmay : mayK K F (xt % 4) 3 n with
        | true =>
          have Hbi := Lib.hid (HL.out.bi.put (xt % 4) ht hmay)
          have hn8 : n + 1 ≤ 8 := by have := Hbi.out.room; have := sum4_nonneg (D ++ [⟨xt % 4, false⟩]); omega
          have hmc := Hbp.out.may (xt % 4) n Ap cp Wt.out hn1 hn2
          rw [hmay] at hmc
          have Hmc := Lib.hid hmc
          clear hmc hmay
          go_wp2_with fail
          refine Hmc.out.mono ?_
          rintro e wm ⟨rfl, hbm⟩
          have Hbm := Lib.hid (Hbp.out.below hbm)
          have HRm := Lib.hid (HRp.out.below hbm)
          have HBm := Lib.hid (bel_step HBp.out hbm)
          clear hbm
          have HS0 := Lib.hid (Hbm.out.below ((Below.refl _ _).alloc (Nat.le_refl _) (.cells #[.int .i64 3] 3)))
          have Hrd := Lib.hid (rd_one wm 3 3 W3.out)
          have HR0 := Lib.hid (HRm.out.below ((Below.refl _ _).alloc (Nat.le_refl _) (.cells #[.int .i64 3] 3)))
          have HB0 := Lib.hid (bel_step HBm.out ((Below.refl _ _).alloc (Nat.le_refl _) (.cells #[.int .i64 3] 3)))
          go_wp2_with fail
          refine (HS0.out.1.put (xt % 4) _ [3] 1 Wt.out Hrd.out (by simp; omega)).mono ?_
          rintro e w2 ⟨rfl, hs2, hc2⟩
          have Hbk2 := Lib.hid (HS0.out.then_ hs2 hc2)
          have HR2 := Lib.hid (HR0.out.chg hc2)
          have HB2 := Lib.hid (HB0.out.trans (hc2.below.mono HL.out.hb))
          clear hs2 hc2
          go_wp2_with (at_builtin; refine Kd.R_append kMv (w0 := w) w.heap.size rfl (.tmp 86) (.tmp 90) 25 30 (.agg #[.int .u8 0, .bool false]) 2 rfl Try.underlying25 infoMv rfl (by decide) (by omega) v9 D ⟨xt % 4, false⟩ [.int .u8 (xt % 4), .bool false] (fun _ => True) (fun _ => False) rfl rfl ?aP (fun _ hk => hk.elim) (fun _ _ => trivial) ?aO ?aB ?aS ?aL ?_; (case aP => exact k30_mkM _ _ _ _); (case aO => exact HR2.out); (case aB => exact HB2.out); (case aS => exact HB2.out.size); (case aL => omega); intro v1 w3 ho hb3 hg hat; have Hbk3 := Lib.hid (Hbk2.out.row HR2.out hg); have HR3 : Hid (RMv w3 w.heap.size v1 (D ++ [⟨xt % 4, false⟩])) := Lib.hid ho; have HB3 := Lib.hid hb3; have hx1b := pw_cell_below hb3 Hx1.out; clear ho hb3 hg hat)
          go_wp2_with fail
          refine (Hbk3.out.all_le Hbi.out).mono ?_
          rintro e w4 ⟨m, hm0, hm1, rfl, hb4⟩
          have Hbk4 := Lib.hid (Hbk3.out.below hb4)
          have HR4 := Lib.hid ((HR3.out.below hb4))
          have HB4 := Lib.hid (bel_step HB3.out hb4)
          clear hb4
          have hdn8 : decide ((n + 1) > 8) = false := by simp; omega
          have hdm8 : decide ((n + 1) + m > 8) = false := by simp; omega
          go_wp2
          go_roundw
          case rel => exact ⟨_, k + 1, _, _, _, _, (N + 1 + [(3 : Int)].length), rfl, rfl, by go_num, Lib.hid (HL.out.next hlt (by simp; omega) (by simp; omega) Hbi.out Hbk4.out HR4.out HB4.out)⟩
          case measure => simp [intOf]; omega
        | false =>
          have hmc := Hbp.out.may (xt % 4) n Ap cp Wt.out hn1 hn2
          rw [hmay] at hmc
          have Hmc := Lib.hid hmc
          clear hmc hmay
          have Hbi := Lib.hid HL.out.bi
          go_wp2_with fail
          refine Hmc.out.mono ?_
          rintro e wm ⟨rfl, hbm⟩
          have Hbm := Lib.hid (Hbp.out.below hbm)
          have HRm := Lib.hid (HRp.out.below hbm)
          have HBm := Lib.hid (bel_step HBp.out hbm)
          clear hbm
          go_wp2_with fail
          refine (Hbm.out.all_le Hbi.out).mono ?_
          rintro e w4 ⟨m, hm0, hm1, rfl, hb4⟩
          have Hbk4 := Lib.hid (Hbm.out.below hb4)
          have HR4 := Lib.hid ((HRm.out.below hb4))
          have HB4 := Lib.hid (bel_step HBm.out hb4)
          clear hb4
          have hdn8 : decide (n > 8) = false := by simp; omega
          have hdm8 : decide (n + m > 8) = false := by simp; omega
          go_wp2
          go_roundw
          case rel => exact ⟨_, k + 1, _, _, _, _, N, rfl, rfl, by go_num, Lib.hid (HL.out.next hlt (by omega) (by omega) Hbi.out Hbk4.out HR4.out HB4.out)⟩
          case measure => simp [intOf]; omega
    · obtain rfl : k = l1.length := by omega
      obtain ⟨A9, c9, rfl, hL2⟩ := HL.out.toL2 hl1 l2.length
      have HL2 := Lib.hid hL2
      clear hL2 HL Hr1 Hwf W3
      generalize D.length = len at *
      go_wp2
      go_loopw [8, 9, 12] (fun v8 v9 v12 wr => ∃ (A : Option Addr) (c : Nat) (len i : Nat) (n : Int) (D : List SMv), v8 = .int .i64 n ∧ v9 = .slice A len c ∧ v12 = .int .i64 i ∧ Hid (L2 w wr (a0 % 9) l2.length (.slice A len c) len i n D)) (fun _ v9 v12 _ => slen v9 + (l2.length - (intOf v12).toNat))
      case atStart => exact ⟨_, _, _, 0, _, _, rfl, rfl, rfl, HL2⟩
      case round =>
        clear HL2
        obtain ⟨A, c, len, i, n, D, rfl, rfl, rfl, HL⟩ := hrel
        have hi80 := HL.out.hi
        have hlen80 := HL.out.hD
        have hnl := HL.out.bj.low
        rw [HL.out.hl] at hnl
        rcases Nat.eq_zero_or_pos len with h0 | hpos
        · subst h0
          have hfin : n = a0 % 9 := by
            have hd : D = [] := List.eq_nil_of_length_eq_zero HL.out.hl
            have hj := HL.out.bj
            rw [hd] at hj
            exact hj.end_
          have Hbel := Lib.hid HL.out.bel
          subst hfin
          clear HL
          go_wp2
          go_ret
          exact ⟨rfl, Hbel.out⟩
        · obtain ⟨m, rfl⟩ : ∃ m, len = m + 1 := ⟨len - 1, by omega⟩
          obtain ⟨hm1, hcap, hC⟩ := Kd.R_reads' HL.out.row
          have hcap2 : (m : Int) + 1 ≤ c := by omega
          have Hc : Hid (kMv.C wr A (m + 1) D) := Lib.hid (by rw [HL.out.hl] at hC; exact hC)
          clear hC hm1
          obtain ⟨ad, rfl, hy0, hy1⟩ := at_T30 Hc.out (m : Int) (by omega) (by omega)
          simp only [Int.toNat_natCast] at hy0 hy1
          have HT : Hid (∃ T : Int, T = (rd_T30 D (m : Int)).f0) := Lib.hid ⟨_, rfl⟩
          by_cases hi : i < l2.length
          obtain ⟨ab, rfl, hb⟩ := byte_at Hr2.out i hi
          have hb2 := pw_cell_below HL.out.bel hb
          have hyw := Hwf2.out i hi
          clear hb
          generalize l2.getD i 0 = y at hb2 hyw
          have hi2 : (i : Int) < l2.length := by omega
          go_wp2
          obtain ⟨T, hT⟩ : ∃ T : Int, T = y % 4 := ⟨_, rfl⟩
          rw [← hT]
          have HTT : Hid (i < l2.length ∨ T = (rd_T30 D (m : Int)).f0) := Lib.hid (.inl hi)
          clear hT hy0 hy1 hb2 hyw
          rotate_left
          have hi2 : ¬ (i : Int) < l2.length := by omega
          go_wp2
          obtain ⟨T, hT⟩ : ∃ T : Int, T = (rd_T30 D (m : Int)).f0 := ⟨_, rfl⟩
          rw [← hT]
          have HTT : Hid (i < l2.length ∨ T = (rd_T30 D (m : Int)).f0) := Lib.hid (.inr hT)
          clear hT hy0 hy1
          all_goals

            go_loop [14] (fun v14 => ∃ j : Int, -1 ≤ j ∧ j ≤ m ∧ v14 = .int .i64 j ∧ Hid (∀ q : Nat, j < q → q ≤ m → (rd_T30 D q).f0 ≠ T)) (fun v14 => (intOf v14 + 1).toNat)
            case atStart => exact ⟨m, by omega, by omega, rfl, Lib.hid (fun q h1 h2 => by omega)⟩
            case round =>
              obtain ⟨j, hj1, hj2, rfl, HQ⟩ := hrel
              by_cases hneg : j < 0
              · obtain rfl : j = -1 := by omega
                have hi : i < l2.length := by
                  rcases HTT.out with h | h
                  · exact h
                  · exact absurd h.symm (HQ.out m (by omega) (Nat.le_refl _))
                have hi3 : (i : Int) < l2.length := by omega
                first
                | (exfalso; omega)
                | (go_wp2
                   go_roundw
                   case rel => exact ⟨_, _, _, i + 1, _, _, rfl, rfl, by go_num, Lib.hid (HL.out.skip hi)⟩
                   case measure => simp [intOf, slen]; omega)
              · obtain ⟨j, rfl⟩ := Int.eq_ofNat_of_zero_le (by omega : 0 ≤ j)
                have hjm : j ≤ m := by omega
                obtain ⟨ad', had, hz0, hz1⟩ := at_T30 Hc.out (j : Int) (by omega) (by omega)
                obtain rfl := Option.some.inj had
                simp only [Int.toNat_natCast] at hz0 hz1
                obtain ⟨x, hx⟩ : ∃ x, x = rd_T30 D (j : Int) := ⟨_, rfl⟩
                rw [← hx] at hz0 hz1
                have Hx := Lib.hid hx
                clear hx
                obtain ⟨xt, xb⟩ := x
                simp only at hz0 hz1
                by_cases hne : xt = T
                · subst hne
                  obtain ⟨i0, hi0, hz00, hz01, hz02⟩ := info_parts infoMv
                  have hcut1 : ∀ W : World, (Instr.slice 25 (.slice (some ad) (m + 1) c) none (some (.int .i64 (j : Int))) none).run Try.prog W = .ok (.slice (some ad) j c) W := by
                    have := cut_to (P := Try.prog) 25 30 .i64 Try.underlying25 hi0 (some ad) (m + 1) c (j : Int) (by omega) (by omega) (by omega)
                    simpa using this
                  have hcut2 : ∀ W : World, (Instr.slice 25 (.slice (some ad) (m + 1) c) (some (.int .i64 ((j : Int) + 1))) none none).run Try.prog W = .ok (.slice (if c = j + 1 then some ad else (some ad).map (·.add ((j + 1) * 2))) (m - j) (c - (j + 1))) W := by
                    have := cut_from (P := Try.prog) 25 30 .i64 Try.underlying25 hi0 2 hz01 (some ad) (m + 1) c ((j : Int) + 1) (by omega) (by omega)
                    rw [show ((j : Int) + 1).toNat = j + 1 from by omega, show m + 1 - (j + 1) = m - j from by omega] at this
                    exact this
                  obtain ⟨hrd1, hrd2⟩ := HL.out.reads (j := j) hjm
                  obtain ⟨A2x, hA2⟩ : ∃ A2x : Option Addr, A2x = (if c = j + 1 then some ad else (some ad).map (·.add ((j + 1) * 2))) := ⟨_, rfl⟩
                  rw [← hA2] at hcut2 hrd2
                  clear hA2 hi0 hz00 hz01 hz02
                  have hlast : ∀ q : Nat, j < q → q ≤ m → (rd_T30 D q).f0 ≠ (rd_T30 D j).f0 := fun q h1 h2 => by rw [← Hx.out]; exact HQ.out q (by omega) h2
                  have hbb := HL.out.bj.back j (by rw [HL.out.hl]; omega) z30 (fun q h1 h2 => by
                    have := hlast q h1 (by rw [HL.out.hl] at h2; omega)
                    simpa [rd_T30] using this)
                  have hdl : dlt (D.getD j z30).f1 = dlt xb := by
                    have := Hx.out
                    simp only [rd_T30, Int.toNat_natCast] at this
                    rw [← this]
                  rw [hdl] at hbb
                  have hn8 := hbb.low.2
                  have hnx : ∀ (v2 : Value) (w2 : World), Kd.R kMv 30 w2 wr.heap.size (fun _ => True) v2 (D.take j ++ D.drop (j + 1)) → Below wr.heap.size wr w2 → (D.take j ++ D.drop (j + 1)).length = m ∧ L2 w w2 (a0 % 9) l2.length v2 m (i + 1) (n - dlt xb) (D.take j ++ D.drop (j + 1)) := by
                    intro v2 w2 h1 h2
                    have := HL.out.next hjm hlast h1 h2
                    rw [show (rd_T30 D (j : Int)).f1 = xb from by rw [← Hx.out]] at this
                    exact ⟨this.hl, this⟩
                  have Hnx := Lib.hid hnx
                  have Hrd1 := Lib.hid hrd1
                  have Hrd2 := Lib.hid hrd2
                  have hHk := HL.out.hl
                  have Hlen := Lib.hid hHk
                  clear hnx hrd1 hrd2 hbb hdl hlast HQ Hx hHk
                  cases xb
                  all_goals
                    simp only [dlt, if_true, if_false, Bool.false_eq_true] at hn8
                    have hjc : (j : Int) ≤ c := by omega
                    have hjl : D.length = m + 1 := Hlen.out
                    have hjl2 : D.length ≤ 80 := by omega
                    have hd1 : (D.take j).length ≤ 80 := by rw [List.length_take]; omega
                    clear hjl
                    first | have hn8b : decide (n + 1 > 8) = false := (by simp; omega) | have hn8b : decide (n - 1 > 8) = false := (by simp; omega)
                    go_wp2_with (first
                      | (at_builtin; refine Kd.R_append_rows kMv (Rr := kMv.K wr) (w0 := wr) wr.heap.size rfl (.tmp 155) (.tmp 158) 25 30 (.agg #[.int .u8 0, .bool false]) 2 rfl Try.underlying25 infoMv rfl (by decide) (by omega) (.slice none 0 0) [] (D.take j) (some ad) j c (fun _ => True) (fun _ => False) rfl rfl (Kd.R_nil _ _ _ _ _) Hrd1.out (fun x cs h => mv_KM _ _ _ _ x cs h) (fun _ hk => hk.elim) (fun _ _ => trivial) (Below.refl _ _) (Nat.le_refl _) (by simp; omega) ?_; intro v1 w1 hR1 hB1 hg1 hat1; rw [List.nil_append] at hR1; have HR1 := Lib.hid hR1; have HB1 := Lib.hid hB1; have HC1 : Hid ((kMv).C w1 A2x (m - j) (D.drop (j + 1))) := Lib.hid (Kd.C_below Hrd2.out hB1); clear hR1 hB1 hg1 hat1)
                      | (at_builtin; refine Kd.R_append_rows kMv (Rr := kMv.K w1) (w0 := wr) wr.heap.size rfl (.tmp 160) (.tmp 164) 25 30 (.agg #[.int .u8 0, .bool false]) 2 rfl Try.underlying25 infoMv rfl (by decide) (by omega) v1 (D.take j) (D.drop (j + 1)) A2x (m - j) (c - (j + 1)) (fun _ => True) (fun _ => False) rfl rfl HR1.out HC1.out (fun x cs h => mv_KM _ _ _ _ x cs h) (fun _ hk => hk.elim) (fun _ _ => trivial) HB1.out HB1.out.size (by simp; omega) ?_; intro v2 w2 hR2 hB2 hg2 hat2; have HR2 := Lib.hid hR2; have HB2 := Lib.hid hB2; clear hR2 hB2 hg2 hat2))
                    obtain ⟨Az, cz, rfl⟩ := Kd.R_slice HR2.out
                    obtain ⟨hlz, hLn⟩ := (Hnx.out _ _ HR2.out HB2.out)
                    rw [hlz] at hLn
                    have HLn := Lib.hid hLn
                    clear hLn HR2 HC1 HR1
                    rw [hlz]
                    go_roundw
                    case rel => exact ⟨_, _, _, i + 1, _, _, rfl, rfl, by go_num, by simpa [dlt] using HLn⟩
                    case measure => simp [intOf, slen]; omega
                · have hne1 : (xt == T) = false := by simpa using hne
                  have hne2 : (xt != T) = true := by simpa using hne
                  go_wp2
                  go_round
                  case rel => exact ⟨j - 1, by omega, by omega, rfl, Lib.hid (fun q h1 h2 => by
                    by_cases e : q = j
                    · subst e
                      rw [← Hx.out]
                      exact hne
                    · exact HQ.out q (by omega) h2)⟩
                  case measure => simp [intOf] <;> omega

set_option maxRecDepth 100000 in
set_option maxHeartbeats 1000000 in
theorem back_great (a0 : Int) (A1 : Option Addr) (n1 c1 : Nat) (A2 : Option Addr) (n2 c2 : Nat) (w : World) (h : (n1 : Int) > 80 ∨ (n2 : Int) > 200) :
    Calls Try.prog 4 #[.int .u8 a0, .slice A1 n1 c1, .slice A2 n2 c2] w fun e w' => e = .returned (.bool true) ∧ Below w.heap.size w w' := by
  by_cases h1 : (n1 : Int) > 80
  · have hdec1 : decide ((n1 : Int) > 80) = true := by simp; omega
    clear h
    go_enter Try.func4, Try.ntmps4
    go_wp2_with (go_at_call 8; refine (awake_calls _).mono ?_; rintro e wa ⟨rfl, hba⟩; have Hba := Lib.hid hba; clear hba)
    go_ret
    exact ⟨rfl, Hba.out⟩
  · have h2 : (n2 : Int) > 200 := by omega
    have hdec1 : decide ((n1 : Int) > 80) = false := by simp; omega
    have hdec2 : decide ((n2 : Int) > 200) = true := by simp; omega
    clear h
    go_enter Try.func4, Try.ntmps4
    go_wp2_with (go_at_call 8; refine (awake_calls _).mono ?_; rintro e wa ⟨rfl, hba⟩; have Hba := Lib.hid hba; clear hba)
    go_ret
    exact ⟨rfl, Hba.out⟩

theorem wf8 {x : Int} (h : (Lit.int .u8 x).wf = true) : 0 ≤ x ∧ x ≤ 255 := by
  simpa [Lit.wf, IntKind.min, IntKind.max, IntKind.signed, IntKind.bits] using h

theorem back_walk (a0 : Int) (A1 : Option Addr) (c1 : Nat) (l1 : List SMv) (A2 : Option Addr) (c2 : Nat) (l2 : List Int) (w : World) (h0 : (Lit.int .u8 a0).wf = true)
    (hr1 : kMv.C w A1 l1.length l1) (hc1 : l1.length ≤ c1) (hw1 : l1.length ≤ maxLen ∧ ∀ y ∈ l1, (Lit.int .u8 y.f0).wf = true ∧ True)
    (hr2 : (Kd.int .u8).C w A2 l2.length l2) (hc2 : l2.length ≤ c2) (hw2 : l2.length ≤ maxLen ∧ ∀ y ∈ l2, (Lit.int .u8 y).wf = true) :
    Calls Try.prog 4 #[.int .u8 a0, .slice A1 l1.length c1, .slice A2 l2.length c2] w fun e w' => e = .returned (.bool true) ∧ Below w.heap.size w w' := by
  by_cases hg : (l1.length : Int) > 80 ∨ (l2.length : Int) > 200
  · exact back_great a0 A1 _ c1 A2 _ c2 w hg
  · refine back_walk1 a0 A1 c1 l1 A2 c2 l2 w (wf8 h0) (by omega) (by omega) hr1 hc1 hr2 hc2 ?_ ?_
    · intro i hi
      have := hw2.2 (l2.getD i 0) (by rw [List.getD, List.getElem?_eq_getElem hi]; exact List.getElem_mem hi)
      exact wf8 this
    · intro i hi
      have := hw1.2 (rd_T30 l1 (i : Int)) (by
        simp only [rd_T30, Int.toNat_natCast, List.getD, List.getElem?_eq_getElem hi]
        exact List.getElem_mem hi)
      exact wf8 this.1
end Go.Proofs.Ytlicobfjeajcfaa
