/-
  SpaceNotes: the law's walk.
-/
import Derived.Test.YtlicobfjeajcfaaSnTurn
namespace Go.Proofs.Ytlicobfjeajcfaa
open Go.RowKit Go.Maps Go.Proofs.Ytlicobfjeajcfaa.PSpaceNotes
open Go.Proofs.YtlicobfjeajcfaaW.PrintWords Go.Proofs.YtlicobfjeajcfaaW.PrintLast Go.Proofs.YtlicobfjeajcfaaW.PrintMore
attribute [local go_sem] max2_int max_two
set_option linter.unusedVariables false
set_option linter.unusedSimpArgs false

abbrev Ac := S45
abbrev kAc : Kd Ac := k45
def okAc (x : Ac) : Prop := (Lit.int .i64 x.f1).wf = true ∧ ∀ p ∈ x.f2, (Lit.int .i64 p).wf = true

theorem great_l (l : List Ac) (hl : (l.length : Int) ≤ 60) : ∀ (d i k : Nat), i + d = l.length → d < k → ∃ r, quadrigalaw16_great.l0 k l i = some r ∧ (r = false → ∀ j : Nat, i ≤ j → j < l.length → ((rd_T45 l (j : Int)).f2).length ≤ 10)
  | 0, i, k, hi, hk => by
    obtain ⟨k, rfl⟩ : ∃ m, k = m + 1 := ⟨k - 1, by omega⟩
    simp only [quadrigalaw16_great.l0]
    rw [if_neg (by omega)]
    exact ⟨_, rfl, fun _ j h1 h2 => by omega⟩
  | d + 1, i, k, hi, hk => by
    obtain ⟨k, rfl⟩ : ∃ m, k = m + 1 := ⟨k - 1, by omega⟩
    simp only [quadrigalaw16_great.l0]
    rw [if_pos (by omega), if_pos (by omega)]
    by_cases h : (((rd_T45 l (i : Int)).f2).length : Int) > 10
    · rw [if_pos h]
      exact ⟨_, rfl, (fun e => by cases e)⟩
    · rw [if_neg h]
      have hw : wrap64 ((i : Int) + 1) = ((i + 1 : Nat) : Int) := by unfold wrap64; omega
      obtain ⟨r, h1, h2⟩ := great_l l hl d (i + 1) k (by omega) (by omega)
      rw [hw]
      refine ⟨r, h1, fun e j h3 h4 => ?_⟩
      by_cases ej : j = i
      · subst ej
        omega
      · exact h2 e j (by omega) h4
theorem great_any (A : Option Addr) (c : Nat) (l : List Ac) (w : World) (hr : Kd.C kAc w A l.length l) (hc : l.length ≤ c) :
    ∃ r, (r = false → (l.length : Int) ≤ 60 ∧ ∀ j : Nat, j < l.length → ((rd_T45 l (j : Int)).f2).length ≤ 10) ∧
      Calls Try.prog 16 #[.slice A l.length c] w fun e w' => e = .returned (.bool r) ∧ Drawn0 w w' := by
  by_cases h : (l.length : Int) > 60
  · refine ⟨true, (fun e => by cases e), quadrigalaw16_great.calls 1 A c l true w hr hc ?_⟩
    unfold quadrigalaw16_great.f
    rw [if_pos h]
  · obtain ⟨r, h1, h2⟩ := great_l l (by omega) l.length 0 (l.length + 1) (by omega) (by omega)
    refine ⟨r, fun e => ⟨by omega, fun j hj => h2 e j (Nat.zero_le _) hj⟩, quadrigalaw16_great.calls (l.length + 1) A c l r w hr hc ?_⟩
    unfold quadrigalaw16_great.f
    rw [if_neg h]
    exact h1

/-- A row of numbers that came in stays readable. -/
theorem stays_of {w wr : World} {A : Option Addr} {ps : List Int} (hC : (Kd.int .i64).C w A ps.length ps) (hwf : ∀ x ∈ ps, (Lit.int .i64 x).wf = true) (hb : Below w.heap.size w wr) : Stays w.heap.size wr A ps.length ps := by
  refine ⟨rfl, fun w' hb' => ?_⟩
  have hC2 := Kd.C_below hC (hb.trans hb')
  have h0 : 0 < ps.length → ∃ b o, A = some ⟨b, o, none⟩ := by
    intro hp
    obtain ⟨ad, c, e, _, hK, hc⟩ := Kd.C_get hC2 0 (0 : Int) (by omega) (by omega)
    have hK' : c = [.int .i64 (ps.getD ((0 : Int)).toNat 0)] := hK
    subst hK'
    have := hc 0 _ rfl
    have h2 : w'.cell? ad = some (.int .i64 (ps.getD 0 0)) := by simpa [Kd.int, Kd.scalar, Addr.add] using this
    obtain ⟨b, o, sp⟩ := ad
    unfold World.cell? at h2
    split at h2
    · split at h2
      · cases h2
      · rename_i hs
        have : sp = none := by simpa using hs
        subst this
        exact ⟨b, o, e⟩
    · cases h2
  intro i hi
  obtain ⟨b, o, rfl⟩ := h0 (by omega)
  obtain ⟨ad, c, e, _, hK, hc⟩ := Kd.C_get hC2 0 (i : Int) (by omega) (by omega)
  cases e
  have hK' : c = [.int .i64 (ps.getD ((i : Int)).toNat 0)] := hK
  subst hK'
  have := hc 0 _ rfl
  refine ⟨b, o, rfl, ?_, ?_⟩
  · have h3 : (⟨b, o, none⟩ : Addr).add i = ⟨b, o + i, none⟩ := by
      unfold Addr.add
      split <;> simp_all
    simpa [Kd.int, Kd.scalar, h3] using this
  · refine hwf _ ?_
    rw [List.getD, List.getElem?_eq_getElem hi]
    exact List.getElem_mem hi

/-- An act, whatever it is. -/
theorem does_any (w : World) (B0 base sb N M : Nat) (K : List Int) (F : Int → Int → Int) (v : Value) (D : List Nd) (kind txn : Int) (A : Option Addr) (ps : List Int) (c : Nat) (ht : (Lit.int .i64 txn).wf = true)
    (hbk : Bn w base sb N K F) (hR : RNd w B0 v D) (hB : B0 ≤ base) (hB2 : base ≤ w.heap.size) (hni : NI D K F M) (hps : ps.length ≤ 10) (hM : M ≤ 900) (hN : N ≤ 900000) (hst : Stays B0 w A ps.length ps) (hpc : ps.length ≤ c) :
    Calls Try.prog 17 #[.pointer (some ⟨sb, 0, none⟩), v, .agg #[.int .i64 kind, .int .i64 txn, .slice A ps.length c]] w fun e w' => ∃ v' D' K' F' N', e = .returned v' ∧ RNd w' B0 v' D' ∧ Bn w' base sb N' K' F' ∧ NI D' K' F' (M + 10) ∧ N' ≤ N + 11 ∧ Below B0 w w' := by
  by_cases hk : kind > 1 ∨ kind < 0
  · refine (does_done w B0 base sb N M K F v D kind txn A ps.length c hk ht hbk hR hB hB2 hni (by omega)).mono ?_
    rintro e w' ⟨v', rfl, h1, h2, h3⟩
    exact ⟨v', _, _, _, _, rfl, h1, h2, (hni.done txn).mono (by omega), by omega, h3⟩
  · have : kind = 0 ∨ kind = 1 := by omega
    rcases this with rfl | rfl
    · refine (does_turn w B0 base sb N M K F v D true txn A ps c ht hbk hR hB hB2 hni (by omega) (by omega) hst hpc).mono ?_
      rintro e w' ⟨v', rfl, h1, h2, h3⟩
      exact ⟨v', _, _, _, _, rfl, h1, h2, (hni.bumps txn true ps (by omega)).mono (by omega), by omega, h3⟩
    · refine (does_turn w B0 base sb N M K F v D false txn A ps c ht hbk hR hB hB2 hni (by omega) (by omega) hst hpc).mono ?_
      rintro e w' ⟨v', rfl, h1, h2, h3⟩
      exact ⟨v', _, _, _, _, rfl, h1, h2, (hni.bumps txn false ps (by omega)).mono (by omega), by omega, h3⟩

section
variable {w : World} {base sb N M : Nat} {K : List Int} {F : Int → Int → Int} {D : List Nd}
theorem all_is (h : Bn w base sb N K F) (hni : NI D K F M) (hM : M ≤ 1000) (no : Int) (hno : (Lit.int .i64 no).wf = true) :
    Calls Try.prog 15 #[.pointer (some ⟨sb, 0, none⟩), .int .i64 no] w fun e w' => e = .returned (.int .i64 (allD no D)) ∧ Below w.heap.size w w' := by
  have := h.1.all no hno
  rw [hni.allV hM] at this
  exact this
theorem need_is (h : Bn w base sb N K F) (hni : NI D K F M) (t no : Int) (ht : (Lit.int .i64 t).wf = true) (hno : (Lit.int .i64 no).wf = true) :
    Calls Try.prog 18 #[.pointer (some ⟨sb, 0, none⟩), .int .i64 t, .int .i64 no] w fun e w' => e = .returned (.int .i64 (lk D t no)) ∧ Below w.heap.size w w' := by
  have := h.1.need t no ht hno
  rw [hni.need t no] at this
  exact this
theorem left_is (hni : NI D K F M) (hM : M ≤ 1000) (t no n : Int) (h0 : 0 ≤ n ∧ n ≤ 9) : leftK K F t no n = 8 - n - (allD no D - lk D t no) := by
  have hb := hni.bound t no
  unfold leftK
  rw [hni.allV hM, hni.need t no]
  unfold wrap64
  omega
theorem room_is (h : Bn w base sb N K F) (hni : NI D K F M) (hM : M ≤ 1000) (t no n : Int) (A : Option Addr) (c : Nat) (h0 : 0 ≤ n ∧ n ≤ 9) (ht : (Lit.int .i64 t).wf = true) (hno : (Lit.int .i64 no).wf = true) :
    Calls Try.prog 19 #[.pointer (some ⟨sb, 0, none⟩), .int .i64 t, .agg #[.int .i64 no, .int .i64 0, .slice A n.toNat c]] w fun e w' => e = .returned (.int .i64 (if 8 - n - (allD no D - lk D t no) < 0 then 0 else 8 - n - (allD no D - lk D t no))) ∧ Below w.heap.size w w' := by
  have := h.1.room t no 0 A n.toNat c ht hno (by omega)
  rw [Int.toNat_of_nonneg h0.1] at this
  unfold roomK at this
  rw [left_is hni hM t no n h0] at this
  exact this
theorem may_is (h : Bn w base sb N K F) (hni : NI D K F M) (hM : M ≤ 1000) (t no n : Int) (A : Option Addr) (c : Nat) (h0 : 0 ≤ n ∧ n ≤ 9) (ht : (Lit.int .i64 t).wf = true) (hno : (Lit.int .i64 no).wf = true) :
    Calls Try.prog 12 #[.pointer (some ⟨sb, 0, none⟩), .int .i64 t, .agg #[.int .i64 no, .int .i64 0, .slice A n.toNat c]] w fun e w' => e = .returned (.bool (decide (n + 1 + (allD no D - lk D t no) + (if lk D t no - 1 < 0 then 0 else lk D t no - 1) ≤ 8))) ∧ Below w.heap.size w w' := by
  have := h.1.may t no 0 A n.toNat c ht hno (by omega)
  rw [Int.toNat_of_nonneg h0.1] at this
  have hb := hni.bound t no
  have e : mayK K F t no n = decide (n + 1 + (allD no D - lk D t no) + (if lk D t no - 1 < 0 then 0 else lk D t no - 1) ≤ 8) := by
    unfold mayK
    rw [left_is hni hM t no n h0, hni.need t no]
    rw [decide_eq_decide]
    unfold wrap64
    split <;> split <;> omega
  rw [e] at this
  exact this
end

theorem allD_take (p : Int) (D : List Nd) (h : ∀ x ∈ D, 0 ≤ x.f2) (k : Nat) : 0 ≤ allD p (D.take k) ∧ allD p (D.take k) ≤ allD p D := by
  have e : ∀ (A B : List Nd), allD p (A ++ B) = allD p A + allD p B := by
    intro A B
    induction A with
    | nil => simp [allD]
    | cons a r ih =>
      simp only [List.cons_append, allD, ih]
      omega
  have pos : ∀ A : List Nd, (∀ x ∈ A, 0 ≤ x.f2) → 0 ≤ allD p A := by
    intro A
    induction A with
    | nil => intro _; exact Int.le_refl _
    | cons a r ih =>
      intro h
      have := ih (fun x hx => h x (by simp [hx]))
      have := h a (by simp)
      simp only [allD]
      split <;> omega
  have h1 := e (D.take k) (D.drop k)
  rw [List.take_append_drop] at h1
  have h2 := pos (D.take k) (fun x hx => h x (List.mem_of_mem_take hx))
  have h3 := pos (D.drop k) (fun x hx => h x (List.mem_of_mem_drop hx))
  omega

/-- Between the rounds of the law's loop. -/
structure L3 (w wr : World) (base sb len : Nat) (v : Value) (i : Nat) (D : List Nd) (K : List Int) (F : Int → Int → Int) (N : Nat) : Prop where
  hi : i ≤ len
  hN : N ≤ 11 * i
  ni : NI D K F (10 * i)
  bn : Bn wr base sb N K F
  row : RNd wr w.heap.size v D
  bel : Below w.heap.size w wr

set_option maxRecDepth 100000 in
set_option maxHeartbeats 8000000 in
theorem notes_walk1 (A : Option Addr) (c : Nat) (l : List Ac) (txn no cells : Int) (w : World) (hl : (l.length : Int) ≤ 60) (hps : ∀ j : Nat, j < l.length → ((rd_T45 l (j : Int)).f2).length ≤ 10) (hr : kAc.C w A l.length l) (hc : l.length ≤ c)
    (hg : Calls Try.prog 16 #[.slice A l.length c] w fun e w' => e = .returned (.bool false) ∧ Drawn0 w w') (hok : ∀ j : Nat, j < l.length → okAc (rd_T45 l (j : Int))) (ht : (Lit.int .i64 txn).wf = true) (hno : (Lit.int .i64 no).wf = true) (hcl : 0 ≤ cells ∧ cells ≤ 255) :
    Calls Try.prog 5 #[.slice A l.length c, .int .i64 txn, .int .i64 no, .int .u8 cells] w fun e w' => e = .returned (.bool true) ∧ Below w.heap.size w w' := by
  have Hr := Lib.hid hr
  have Hg := Lib.hid hg
  have Hok := Lib.hid hok
  have Hps := Lib.hid hps
  have HT := Lib.hid ht
  have HNO := Lib.hid hno
  clear hr hg hok hps ht hno
  go_enter Try.func5, Try.ntmps5
  go_wp2_with fail
  refine Hg.out.mono ?_
  rintro e wg ⟨rfl, hdg⟩
  have Hbg := Lib.hid hdg.below
  clear hdg
  go_wp2_with fail
  refine (awake_calls _).mono ?_
  rintro e wa ⟨rfl, hba⟩
  have Hba := Lib.hid (bel_step Hbg.out hba)
  clear hba
  go_wp2_with fail
  refine (new_bn _).mono ?_
  rintro e wb ⟨rfl, hbk, hbb⟩
  have hbase : w.heap.size ≤ wa.heap.size := Hba.out.size
  have hn0 : 0 ≤ cells % 10 ∧ cells % 10 ≤ 9 := by omega
  have HL : Hid (L3 w wb wa.heap.size (wa.heap.size + 1) l.length (.slice none 0 0) 0 [] [] (fun _ _ => 0) 0) := Lib.hid ⟨Nat.zero_le _, by omega, NI.start, hbk, Kd.R_nil _ _ _ _ _, bel_step Hba.out hbb⟩
  clear hbk hbb
  go_wp2
  obtain ⟨n, hn⟩ : ∃ n, n = cells % 10 := ⟨_, rfl⟩
  rw [← hn]
  rw [← hn] at hn0
  have HNV := Lib.hid hn
  clear hn
  go_loopw [10, 12] (fun v10 v12 wr => ∃ (v : Value) (i : Nat) (D : List Nd) (K : List Int) (F : Int → Int → Int) (N : Nat), v = v10 ∧ v12 = .int .i64 i ∧ Hid (L3 w wr wa.heap.size (wa.heap.size + 1) l.length v i D K F N)) (fun _ v12 _ => l.length - (intOf v12).toNat)
  case atStart => exact ⟨_, 0, _, _, _, _, rfl, rfl, HL⟩
  case round =>
    clear HL
    obtain ⟨v, i, D, K, F, N, rfl, rfl, HL⟩ := hrel
    have hil := HL.out.hi
    have hNi := HL.out.hN
    by_cases hlt : i < l.length
    · have hlt2 : (i : Int) < l.length := by omega
      obtain ⟨ad, A2, c2, rfl, hx0, hx1, hx2, hlc, hC2⟩ := at_T45 Hr.out (i : Int) (by omega) hlt2
      simp only [Int.toNat_natCast] at hx0 hx1 hx2
      have hx0 := pw_cell_below HL.out.bel hx0
      have hx1 := pw_cell_below HL.out.bel hx1
      have hx2 := pw_cell_below HL.out.bel hx2
      have hokx := Hok.out i hlt
      have hpsx := Hps.out i hlt
      have hst := stays_of hC2 hokx.2 HL.out.bel
      generalize rd_T45 l (i : Int) = x at hx0 hx1 hx2 hlc hC2 hokx hpsx hst
      obtain ⟨xk, xt, xp⟩ := x
      simp only at hx0 hx1 hx2 hlc hokx hpsx hst
      have HW := Lib.hid hokx.1
      have HST := Lib.hid hst
      clear hC2 hokx hst
      go_wp2_with fail
      refine (does_any wr w.heap.size wa.heap.size (wa.heap.size + 1) N (10 * i) K F v D xk xt A2 xp c2 HW.out HL.out.bn HL.out.row hbase HL.out.bn.1.hbase HL.out.ni hpsx (by omega) (by omega) HST.out hlc).mono ?_
      rintro e w1 ⟨v', D', K', F', N', rfl, hR1, hbn1, hni1, hN1, hb1⟩
      obtain ⟨A3, c3, rfl, hc3, hC3⟩ := Kd.R_reads hR1
      have HR1 := Lib.hid hR1
      have Hbn1 := Lib.hid hbn1
      have Hni1 := Lib.hid hni1
      have HB1 : Hid (Below w.heap.size w w1) := Lib.hid (HL.out.bel.trans hb1)
      have HC3 := Lib.hid hC3
      have hlD : (D'.length : Int) ≤ 1000 := by have := hni1.len; omega
      have hc3b : (D'.length : Int) ≤ c3 := by omega
      clear hR1 hbn1 hni1 hb1 hC3 hx0 hx1 hx2
      go_wp2
      go_loop [13, 14, 15] (fun v13 v14 v15 => ∃ k : Nat, k ≤ D'.length ∧ v15 = .int .i64 k ∧ v13 = .int .i64 (allD no (D'.take k)) ∧ v14 = .int .i64 (ownF txn no (D'.take k) 0)) (fun _ _ v15 => D'.length - (intOf v15).toNat)
      case atStart => exact ⟨0, Nat.zero_le _, rfl, by simp [allD], by simp [ownF]⟩
      case round =>
        obtain ⟨k, hk, rfl, rfl, rfl⟩ := hrel
        by_cases hkd : k < D'.length
        · have hkd2 : (k : Int) < D'.length := by omega
          obtain ⟨ad3, rfl, hy0, hy1, hy2⟩ := at_T47 HC3.out (k : Int) (by omega) hkd2
          simp only [Int.toNat_natCast] at hy0 hy1 hy2
          have hsn := take_snocN D' k hkd
          have hmem : rd_T47 D' (k : Int) ∈ D' := by
            simp only [rd_T47, Int.toNat_natCast, List.getD, List.getElem?_eq_getElem hkd]
            exact List.getElem_mem hkd
          have hyp := Hni1.out.pos _ hmem
          have hyt := f2_le D' Hni1.out.pos _ hmem
          have hyb := Hni1.out.tot
          have hat := allD_take no D' Hni1.out.pos k
          have hbd := Hni1.out.bound txn no
          generalize rd_T47 D' (k : Int) = y at hy0 hy1 hy2 hsn hyp hyt
          have ha := allD_snoc no y (D'.take k)
          have ho := ownF_snoc txn no y (D'.take k) 0
          rw [← hsn] at ha ho
          obtain ⟨yt, yp, yn⟩ := y
          simp only at hy0 hy1 hy2 hyp hyt ha ho
          have hyn : yn ≤ 1000 := by omega
          have ha0 : 0 ≤ allD no (D'.take k) := hat.1
          have ha1 : allD no (D'.take k) ≤ 1000 := by omega
          have Ha := Lib.hid ha
          have Ho := Lib.hid ho
          clear ha ho hsn hat hbd hyt hyb hmem
          generalize allD no (D'.take k) = aa at *
          generalize ownF txn no (D'.take k) 0 = oo at *
          by_cases e1 : yp = no
          · have b1 : (yp == no) = true := by simpa using e1
            by_cases e2 : yt = txn
            · have b2 : (yt == txn) = true := by simpa using e2
              have h1 := Lib.hid e1
              have h2 := Lib.hid e2
              clear e1 e2
              go_wp2
              go_round
              case rel => exact ⟨k + 1, by omega, by go_num, by rw [Ha.out, if_pos h1.out], by rw [Ho.out, if_pos h1.out, if_pos h2.out]⟩
              case measure => simp [intOf] <;> omega
            · have b2 : (yt == txn) = false := by simpa using e2
              have h1 := Lib.hid e1
              have h2 := Lib.hid e2
              clear e1 e2
              go_wp2
              go_round
              case rel => exact ⟨k + 1, by omega, by go_num, by rw [Ha.out, if_pos h1.out], by rw [Ho.out, if_pos h1.out, if_neg h2.out]⟩
              case measure => simp [intOf] <;> omega
          · have b1 : (yp == no) = false := by simpa using e1
            have h1 := Lib.hid e1
            clear e1
            go_wp2
            go_round
            case rel => exact ⟨k + 1, by omega, by go_num, by rw [Ha.out, if_neg h1.out]; simp, by rw [Ho.out, if_neg h1.out]⟩
            case measure => simp [intOf] <;> omega
        · obtain rfl : k = D'.length := by omega
          rw [show D'.take D'.length = D' from List.take_length]
          rw [ownF_lk txn no D' Hni1.out.uq]
          have hbd := Hni1.out.bound txn no
          have hbd2 : allD no D' ≤ 1000 := by omega
          go_wp2_with fail
          refine (page_calls no n hn0.1 (by omega) _).mono ?_
          rintro e w2 ⟨⟨Ap, cp, rfl⟩, hb2⟩
          have Hbn2 := Lib.hid (Hbn1.out.below hb2)
          have HR2 : Hid (RNd w2 w.heap.size (.slice A3 D'.length c3) D') := Lib.hid (Kd.R_below HR1.out hb2)
          have HB2 := Lib.hid (bel_step HB1.out hb2)
          clear hb2
          have Hall := Lib.hid (fun (W : World) (h : Bn W wa.heap.size (wa.heap.size + 1) N' K' F') => all_is h Hni1.out (by omega) no HNO.out)
          have Hneed := Lib.hid (fun (W : World) (h : Bn W wa.heap.size (wa.heap.size + 1) N' K' F') => need_is h Hni1.out txn no HT.out HNO.out)
          have hroom := (fun (W : World) (h : Bn W wa.heap.size (wa.heap.size + 1) N' K' F') => room_is h Hni1.out (by omega) txn no n Ap cp hn0 HT.out HNO.out)
          have hmay := (fun (W : World) (h : Bn W wa.heap.size (wa.heap.size + 1) N' K' F') => may_is h Hni1.out (by omega) txn no n Ap cp hn0 HT.out HNO.out)
          generalize allD no D' = aa at *
          generalize lk D' txn no = oo at *
          have Hroom0 := Lib.hid hroom
          have Hmay0 := Lib.hid hmay
          clear hroom hmay
          have hc1 : 8 - n - (aa - oo) < 0 ∨ 0 ≤ 8 - n - (aa - oo) := by omega
          have hc2 : oo - 1 < 0 ∨ 0 ≤ oo - 1 := by omega
          have hc3 : (n + 1 + (aa - oo) + (if oo - 1 < 0 then 0 else oo - 1) ≤ 8) ∨ (8 < n + 1 + (aa - oo) + (if oo - 1 < 0 then 0 else oo - 1)) := by omega
          have hroom := Hroom0.out
          have hmay := Hmay0.out
          clear Hroom0 Hmay0
          rcases hc1 with hc1 | hc1
          all_goals first | simp only [if_pos hc1] at hroom | simp only [if_neg (Int.not_lt.2 hc1)] at hroom
          all_goals rcases hc2 with hc2 | hc2
          all_goals first | simp only [if_pos hc2] at hmay hc3 | simp only [if_neg (Int.not_lt.2 hc2)] at hmay hc3
          all_goals rcases hc3 with hc3 | hc3
          all_goals first | simp only [decide_eq_true hc3] at hmay | simp only [decide_eq_false (Int.not_le.2 hc3)] at hmay
          all_goals have Hroom := Lib.hid hroom
          all_goals have Hmay := Lib.hid hmay
          all_goals clear hroom hmay
          all_goals first
          | (exfalso; omega)
          | (have hc4 : n + 1 + (aa - oo) ≤ 8 := (by omega); have hc5 : decide (n + 1 + (aa - oo) ≤ 8) = true := decide_eq_true hc4)
          | (have hc4 : ¬ n + 1 + (aa - oo) ≤ 8 := (by omega); have hc5 : decide (n + 1 + (aa - oo) ≤ 8) = false := decide_eq_false hc4)
          | skip
          all_goals
            have hP3 : (w2.alloc (.cells #[.int .i64 no, .int .i64 0, .slice Ap n.toNat cp] 35)).heap[w2.heap.size]? = some (Obj.cells #[.int .i64 no, .int .i64 0, .slice Ap n.toNat cp] 35 (0, 0)) := blk_new w2 _
            have hb3 : Below w2.heap.size w2 (w2.alloc (.cells #[.int .i64 no, .int .i64 0, .slice Ap n.toNat cp] 35)) := (Below.refl _ _).alloc (Nat.le_refl _) _
            have Hbn3 := Lib.hid (Hbn2.out.below hb3)
            have HR3 : Hid (RNd _ w.heap.size (.slice A3 D'.length c3) D') := Lib.hid (Kd.R_below HR2.out hb3)
            have HB3 := Lib.hid (bel_step HB2.out hb3)
            have HP3 := Lib.hid hP3
            clear hP3 hb3 Hbn2 HR2 HB2
            go_wp2_with fail
            refine (Hall.out _ Hbn3.out).mono ?_
            rintro e w4 ⟨rfl, hb⟩
            have Hbn4 := Lib.hid (Hbn3.out.below hb)
            have HR4 : Hid (RNd w4 w.heap.size (.slice A3 D'.length c3) D') := Lib.hid (Kd.R_below HR3.out hb)
            have HB4 := Lib.hid (bel_step HB3.out hb)
            have HP4 := Lib.hid (blk_below HP3.out hb)
            clear hb Hbn3 HR3 HB3 HP3
            go_wp2_with fail
            refine (Hneed.out _ Hbn4.out).mono ?_
            rintro e w5 ⟨rfl, hb⟩
            have Hbn5 := Lib.hid (Hbn4.out.below hb)
            have HR5 : Hid (RNd w5 w.heap.size (.slice A3 D'.length c3) D') := Lib.hid (Kd.R_below HR4.out hb)
            have HB5 := Lib.hid (bel_step HB4.out hb)
            have HP5 := Lib.hid (blk_below HP4.out hb)
            clear hb Hbn4 HR4 HB4 HP4
            have p0 := blk_cell HP5.out 0
            have p1 := blk_cell HP5.out 1
            have p2 := blk_cell HP5.out 2
            go_wp2_with fail
            refine (Hroom.out _ Hbn5.out).mono ?_
            rintro e w6 ⟨rfl, hb⟩
            have Hbn6 := Lib.hid (Hbn5.out.below hb)
            have HR6 : Hid (RNd w6 w.heap.size (.slice A3 D'.length c3) D') := Lib.hid (Kd.R_below HR5.out hb)
            have HB6 := Lib.hid (bel_step HB5.out hb)
            have HP6 := Lib.hid (blk_below HP5.out hb)
            clear hb Hbn5 HR5 HB5 HP5 p0 p1 p2
            have p0 := blk_cell HP6.out 0
            have p1 := blk_cell HP6.out 1
            have p2 := blk_cell HP6.out 2
            go_wp2_with fail
            refine (Hmay.out _ Hbn6.out).mono ?_
            rintro e w7 ⟨rfl, hb⟩
            have Hbn7 := Lib.hid (Hbn6.out.below hb)
            have HR7 : Hid (RNd w7 w.heap.size (.slice A3 D'.length c3) D') := Lib.hid (Kd.R_below HR6.out hb)
            have HB7 := Lib.hid (bel_step HB6.out hb)
            clear hb Hbn6 HR6 HB6 HP6 p0 p1 p2
            go_wp2
            go_roundw
            case rel => exact ⟨_, i + 1, _, _, _, _, rfl, by go_num, Lib.hid ⟨hlt, by omega, Hni1.out, Hbn7.out, HR7.out, HB7.out⟩⟩
            case measure => simp [intOf] <;> omega
    · obtain rfl : i = l.length := by omega
      go_wp2
      go_ret
      exact ⟨rfl, HL.out.bel⟩

set_option maxRecDepth 100000 in
set_option maxHeartbeats 1000000 in
theorem notes_great (A : Option Addr) (n c : Nat) (txn no cells : Int) (w : World)
    (hg : Calls Try.prog 16 #[.slice A n c] w fun e w' => e = .returned (.bool true) ∧ Drawn0 w w') :
    Calls Try.prog 5 #[.slice A n c, .int .i64 txn, .int .i64 no, .int .u8 cells] w fun e w' => e = .returned (.bool true) ∧ Below w.heap.size w w' := by
  have Hg := Lib.hid hg
  clear hg
  go_enter Try.func5, Try.ntmps5
  go_wp2_with fail
  refine Hg.out.mono ?_
  rintro e wg ⟨rfl, hdg⟩
  have Hbg := Lib.hid hdg.below
  clear hdg
  go_wp2_with fail
  refine (awake_calls _).mono ?_
  rintro e wa ⟨rfl, hba⟩
  have Hba := Lib.hid (bel_step Hbg.out hba)
  clear hba
  go_wp2
  go_ret
  exact ⟨rfl, Hba.out⟩

theorem notes_walk (A : Option Addr) (c : Nat) (l : List Ac) (txn no cells : Int) (w : World) (hr : kAc.C w A l.length l) (hc : l.length ≤ c) (hw : l.length ≤ maxLen ∧ ∀ y ∈ l, (Lit.int .i64 y.f0).wf = true ∧ (Lit.int .i64 y.f1).wf = true ∧ y.f2.length ≤ maxLen ∧ ∀ p ∈ y.f2, (Lit.int .i64 p).wf = true)
    (ht : (Lit.int .i64 txn).wf = true) (hno : (Lit.int .i64 no).wf = true) (hcl : (Lit.int .u8 cells).wf = true) :
    Calls Try.prog 5 #[.slice A l.length c, .int .i64 txn, .int .i64 no, .int .u8 cells] w fun e w' => e = .returned (.bool true) ∧ Below w.heap.size w w' := by
  obtain ⟨r, h1, h2⟩ := great_any A c l w hr hc
  cases r with
  | true => exact notes_great A _ c txn no cells w h2
  | false =>
    obtain ⟨hl, hps⟩ := h1 rfl
    refine notes_walk1 A c l txn no cells w hl hps hr hc h2 (fun j hj => ?_) ht hno (by simpa [Lit.wf, IntKind.min, IntKind.max, IntKind.signed, IntKind.bits] using hcl)
    have hm : rd_T45 l (j : Int) ∈ l := by
      simp only [rd_T45, Int.toNat_natCast, List.getD, List.getElem?_eq_getElem hj]
      exact List.getElem_mem hj
    have := hw.2 _ hm
    exact ⟨this.2.1, this.2.2.2⟩
end Go.Proofs.Ytlicobfjeajcfaa
