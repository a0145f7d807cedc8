/-
  SpaceNotes: an act that takes or puts, noted: the walk of does.
-/
import Derived.Test.YtlicobfjeajcfaaSnWalk
namespace Go.Proofs.Ytlicobfjeajcfaa
open Go.RowKit Go.Maps Go.Proofs.Ytlicobfjeajcfaa.PSpaceNotes
open Go.Proofs.YtlicobfjeajcfaaW.PrintWords Go.Proofs.YtlicobfjeajcfaaW.PrintLast Go.Proofs.YtlicobfjeajcfaaW.PrintMore
set_option linter.unusedVariables false
set_option linter.unusedSimpArgs false

/-- Between the rounds of the loop over the pages. -/
structure D2 (w wr : World) (B0 base sb N M bxg : Nat) (K : List Int) (F : Int → Int → Int) (kind txn : Int) (b : Bool) (A : Option Addr) (c : Nat) (ps : List Int) (D : List Nd) (v : Value) (i : Nat) : Prop where
  hi : i ≤ ps.length
  len : (bumps txn b (ps.take i) D).length ≤ M + i
  row : RNd wr B0 v (bumps txn b (ps.take i) D)
  bn : Bn wr base sb N K F
  bx : Bx wr bxg kind txn A ps.length c
  bel : Below B0 w wr

theorem idx_cases (D : List Nd) (t p : Int) (b : Bool) :
    (idx D t p < D.length ∧ findV D t p = (idx D t p : Int) ∧ bump t p b D = D.set (idx D t p) ⟨(rd_T47 D (idx D t p : Nat)).f0, (rd_T47 D (idx D t p : Nat)).f1, stepV b (rd_T47 D (idx D t p : Nat)).f2⟩) ∨
    (findV D t p = -1 ∧ bump t p b D = (D ++ [(⟨t, p, 0⟩ : Nd)]).set D.length ⟨(rd_T47 (D ++ [(⟨t, p, 0⟩ : Nd)]) (D.length : Nat)).f0, (rd_T47 (D ++ [(⟨t, p, 0⟩ : Nd)]) (D.length : Nat)).f1, stepV b (rd_T47 (D ++ [(⟨t, p, 0⟩ : Nd)]) (D.length : Nat)).f2⟩) := by
  by_cases h : idx D t p < D.length
  · left
    refine ⟨h, by unfold findV; rw [if_pos h], ?_⟩
    have := bump_there t p b D z47 h
    simpa [rd_T47] using this
  · right
    refine ⟨by unfold findV; rw [if_neg h], ?_⟩
    rw [bump_new t p b D h]
    simp [rd_T47]

theorem Stays.cell {B0 pb po n i : Nat} {w w' : World} {ps : List Int} (h : Stays B0 w (some ⟨pb, po, none⟩) n ps) (hb : Below B0 w w') (hi : i < ps.length) : w'.cell? ⟨pb, po + i, none⟩ = some (.int .i64 (ps.getD i 0)) := by
  obtain ⟨b, o, e, hc, _⟩ := h.2 _ hb i hi
  cases e
  exact hc
theorem take_snocI (l : List Int) (k : Nat) (h : k < l.length) : l.take (k + 1) = l.take k ++ [l.getD k 0] := by
  rw [List.take_succ_eq_append_getElem h]
  simp [List.getD, h]

theorem D2.next {w wr w4 : World} {B0 base sb N M bxg c i : Nat} {K : List Int} {F : Int → Int → Int} {kind txn : Int} {b : Bool} {A : Option Addr} {ps : List Int} {D E : List Nd} {v v4 : Value} (h : D2 w wr B0 base sb N M bxg K F kind txn b A c ps D v i) (hi : i < ps.length)
    (hE : bump txn (ps.getD i 0) b (bumps txn b (ps.take i) D) = E) (hR : RNd w4 B0 v4 E) (hbn : Bn w4 base sb N K F) (hbx : Bx w4 bxg kind txn A ps.length c) (hb : Below B0 w w4) : D2 w w4 B0 base sb N M bxg K F kind txn b A c ps D v4 (i + 1) := by
  have e : bumps txn b (ps.take (i + 1)) D = E := by rw [take_snocI ps i hi, bumps_snoc, hE]
  have hl := len_bump txn (ps.getD i 0) b (bumps txn b (ps.take i) D)
  have := h.len
  rw [hE] at hl
  exact ⟨hi, by rw [e]; omega, by rw [e]; exact hR, hbn, hbx, hb⟩

theorem f2_le : ∀ (D : List Nd), (∀ x ∈ D, 0 ≤ x.f2) → ∀ x ∈ D, x.f2 ≤ tot D
  | [], _, x, hx => by simp at hx
  | y :: r, h, x, hx => by
    have h1 := h y (by simp)
    have h2 := tot_nonneg r (fun z hz => h z (by simp [hz]))
    simp only [tot]
    rcases List.mem_cons.1 hx with rfl | m
    · omega
    · have := f2_le r (fun z hz => h z (by simp [hz])) x m
      omega
/-- One element's number is set. -/
theorem at_own {w : World} {B0 : Nat} {v : Value} {E : List Nd} (h : RNd w B0 v E) {j : Nat} (hj : j < E.length) : ∃ g c, v = .slice (some ⟨g, 0, none⟩) E.length c ∧ E.length ≤ c ∧ B0 ≤ g ∧ w.cell? ⟨g, j * 3, none⟩ = some (.int .i64 (rd_T47 E (j : Int)).f0) ∧ w.cell? ⟨g, j * 3 + 1, none⟩ = some (.int .i64 (rd_T47 E (j : Int)).f1) ∧ w.cell? ⟨g, j * 3 + 2, none⟩ = some (.int .i64 (rd_T47 E (j : Int)).f2) := by
  obtain ⟨inner, ho⟩ := Kd.R_own h
  obtain ⟨g, c, rfl, hb, _⟩ := ho.form (by omega)
  obtain ⟨_, hc, hC⟩ := Kd.R_reads' h
  obtain ⟨ad, had, h0, h1, h2⟩ := at_T47 hC (j : Int) (by omega) (by omega)
  obtain rfl := Option.some.inj had
  simp only [Int.toNat_natCast, add_plain] at h0 h1 h2
  exact ⟨g, c, rfl, hc, hb, h0, h1, h2⟩

theorem frozen_own {w : World} {B0 : Nat} {g n c : Nat} {E : List Nd} (h : RNd w B0 (.slice (some ⟨g, 0, none⟩) n c) E) (o : Nat) : w.frozen? ⟨g, o, none⟩ = false := by
  obtain ⟨cells, hc⟩ := RNd.typed h g (by simp [Value.ownBlock])
  exact blk_frozen hc o

set_option maxRecDepth 100000 in
set_option maxHeartbeats 8000000 in
theorem does_turn (w : World) (B0 base sb N M : Nat) (K : List Int) (F : Int → Int → Int) (v : Value) (D : List Nd) (b : Bool) (txn : Int) (A : Option Addr) (ps : List Int) (c : Nat) (ht : (Lit.int .i64 txn).wf = true)
    (hbk : Bn w base sb N K F) (hR : RNd w B0 v D) (hB : B0 ≤ base) (hB2 : base ≤ w.heap.size) (hni : NI D K F M) (hM : M + ps.length ≤ 1000) (hN : N + 1 + ps.length < 1000000) (hst : Stays B0 w A ps.length ps) (hpc : ps.length ≤ c) :
    Calls Try.prog 17 #[.pointer (some ⟨sb, 0, none⟩), v, .agg #[.int .i64 (if b then 0 else 1), .int .i64 txn, .slice A ps.length c]] w fun e w' => ∃ v', e = .returned v' ∧ RNd w' B0 v' (bumps txn b ps D) ∧ Bn w' base sb (N + 1 + ps.length) (addK K txn) (updF F txn (turns (F txn) (if b then 1 else -1) ps)) ∧ Below B0 w w' := by
  have hlen := hni.len
  have hps2 : (ps.length : Int) ≤ 1000 := by omega
  have HST := Lib.hid hst
  have HNI := Lib.hid hni
  have HW := Lib.hid ht
  have HR := Lib.hid hR
  have Hbk := Lib.hid hbk
  obtain ⟨X, hX⟩ : ∃ X : Obj, X = .cells #[.int .i64 (if b then 0 else 1), .int .i64 txn, .slice A ps.length c] 45 := ⟨_, rfl⟩
  have HBX : Hid (Bx (w.alloc X) w.heap.size (if b then 0 else 1) txn A ps.length c) := Lib.hid (by rw [hX]; exact blk_new w _)
  have HB0 : Hid (Below w.heap.size w (w.alloc X)) := Lib.hid ((Below.refl _ _).alloc (Nat.le_refl _) _)
  have HB00 : Hid (Below B0 w (w.alloc X)) := Lib.hid (HB0.out.mono (by omega))
  have Hs0 := Lib.hid (Hbk.out.below HB0.out)
  have HR0 : Hid (RNd (w.alloc X) B0 v D) := Lib.hid (Kd.R_below HR.out HB0.out)
  have Hrd := Lib.hid (HST.out.2 _ HB00.out)
  subst hX
  clear hni hR hbk ht hst HR Hbk
  obtain ⟨bb, hbb⟩ : ∃ bb : Bool, bb = b := ⟨b, rfl⟩
  have Hbb := Lib.hid hbb
  clear hbb
  cases b
  all_goals
    simp only [if_true, if_false, Bool.false_eq_true] at *
    obtain ⟨b0, b1, b2⟩ := HBX.out.cells
    go_enter Try.func17, Try.ntmps17
    go_wp2_with fail
    first
    | (refine (Hs0.out.1.take txn A ps c HW.out Hrd.out hN).mono ?_; rintro e w1 ⟨rfl, hs1, hc1⟩)
    | (refine (Hs0.out.1.put txn A ps c HW.out Hrd.out hN).mono ?_; rintro e w1 ⟨rfl, hs1, hc1⟩)
    have Hbk1 := Lib.hid (Hs0.out.then_ hs1 hc1)
    have HR1 : Hid (RNd w1 B0 v D) := Lib.hid (RNd.chg HR0.out hc1)
    have HB1 : Hid (Below B0 w w1) := Lib.hid (HB00.out.trans (hc1.below.mono hB))
    have HBX2 := Lib.hid (HBX.out.chg hc1)
    clear b0 b1 b2 hs1 hc1 Hs0 Hrd HR0 HB0 HB00 HBX
    have HL := Lib.hid (D2.mk (w := w) (b := bb) (txn := txn) (ps := ps) (D := D) (Nat.zero_le _) (by simpa [bumps] using hlen) HR1.out Hbk1.out HBX2.out HB1.out)
    clear Hbk1 HR1 HB1 HBX2
    go_wp2
    go_loopw [1, 9] (fun v1 v9 wr => ∃ (vv : Value) (i : Nat), vv = v1 ∧ v9 = .int .i64 i ∧ Hid (D2 w wr B0 base sb _ M w.heap.size _ _ _ txn bb A c ps D vv i)) (fun _ v9 _ => ps.length - (intOf v9).toNat)
    case atStart => exact ⟨_, 0, rfl, rfl, HL⟩
    case round =>
      clear HL
      obtain ⟨vv, i, rfl, rfl, HL⟩ := hrel
      have hil := HL.out.hi
      obtain ⟨b0, b1, b2⟩ := HL.out.bx.cells
      by_cases hlt : i < ps.length
      · have hlt2 : (i : Int) < ps.length := by omega
        have hi0 : (0 : Int) ≤ i := by omega
        have hpc2 : (ps.length : Int) ≤ c := by omega
        obtain ⟨pb, po, rfl, hq, hqw⟩ := (HST.out.2 _ HL.out.bel) i hlt
        obtain ⟨q, hqq⟩ : ∃ q, q = ps.getD i 0 := ⟨_, rfl⟩
        rw [← hqq] at hq hqw
        have Hq := Lib.hid hqq
        obtain ⟨D', hD'⟩ : ∃ D', D' = bumps txn bb (ps.take i) D := ⟨_, rfl⟩
        have HD' := Lib.hid hD'
        have hl1 := HL.out.len
        have hr1 := HL.out.row
        rw [← hD'] at hl1 hr1
        have hlD : (D'.length : Int) ≤ 1000 := by omega
        obtain ⟨Ad, cd, rfl, hcd, hC⟩ := Kd.R_reads hr1
        have HR1 := Lib.hid hr1
        have hcd2 : (D'.length : Int) ≤ cd := by omega
        have hfind := fun m => Calls.quiet_of (w := wr) (n := m) ((find_any Ad cd D' txn q _ (Kd.C_drewN hC m) hcd (by omega)).mono (fun e w' h => ⟨h.1, h.2.out⟩))
        clear hqq hD' hl1 hr1 hC
        go_wp2
        obtain ⟨Z, hZ⟩ : ∃ Z, Z = bump txn q bb D' := ⟨_, rfl⟩
        have HZ := Lib.hid hZ
        rcases idx_cases D' txn q bb with ⟨hj, hfv, hbump⟩ | ⟨hfv, hbump⟩
        all_goals rw [← hZ] at hbump
        all_goals clear hZ
        · rw [hfv] at hfind
          have Hfind := Lib.hid hfind
          have Hbump := Lib.hid hbump
          clear hfv hfind hbump
          generalize idx D' txn q = jj at hj Hfind Hbump
          have hj2 : (jj : Int) < D'.length := by omega
          have hj0 : (0 : Int) ≤ jj := by omega
          go_quiet ((go_at_call 30; exact Hfind.out _))
          have HRe : Hid (RNd (wr.drewN nq) B0 (.slice Ad D'.length cd) D') := Lib.hid (Kd.R_drewN HR1.out nq)
          have HBn2 := Lib.hid (Bn.below HL.out.bn (pw_below_drewN (Below.refl wr.heap.size wr) nq))
          have HBx2 := Lib.hid (Bx.below HL.out.bx (pw_below_drewN (Below.refl wr.heap.size wr) nq))
          have HB2 : Hid (Below B0 w (wr.drewN nq)) := Lib.hid (pw_below_drewN HL.out.bel nq)
          have hxn : 0 ≤ (rd_T47 D' (jj : Int)).f2 ∧ (rd_T47 D' (jj : Int)).f2 ≤ 1000 := by
            have hni := HNI.out.bumps txn bb (ps.take i) (by rw [List.length_take]; omega)
            rw [← HD'.out] at hni
            have hm : rd_T47 D' (jj : Int) ∈ D' := by
              simp only [rd_T47, Int.toNat_natCast, List.getD, List.getElem?_eq_getElem hj]
              exact List.getElem_mem hj
            have h1 := hni.pos _ hm
            have h2 := f2_le D' hni.pos _ hm
            have h3 := hni.tot
            rw [List.length_take] at h3
            omega
          clear b0 b1 b2 hq
          generalize wr.drewN nq = w2 at *
          obtain ⟨E, hE⟩ : ∃ E, E = D' := ⟨_, rfl⟩
          rw [← hE] at HRe Hbump hxn hj
          obtain ⟨n, hn⟩ : ∃ n, n = D'.length := ⟨_, rfl⟩
          have hEn : E.length = n := by rw [hE, hn]
          rw [hEn] at HRe
          generalize D'.length = nn at *
          subst hn
          clear hE
          obtain ⟨g, ce', hv, hce, hBg, hc0, hc1, hc2⟩ := at_own HRe.out hj
          simp only [Value.slice.injEq] at hv
          obtain ⟨rfl, hnE, rfl⟩ := hv
          rw [← hnE] at hce hj
          have HnE := Lib.hid hnE
          clear hnE
          obtain ⟨x, hx⟩ : ∃ x, x = rd_T47 E (jj : Int) := ⟨_, rfl⟩
          rw [← hx] at hc0 hc1 hc2 hxn
          have hbump2 := Hbump.out
          rw [← hx] at hbump2
          have Hx := Lib.hid hx
          clear hx Hbump
          obtain ⟨x0, x1, xn⟩ := x
          simp only at hc0 hc1 hc2 hxn hbump2
          have hfz := frozen_own HRe.out (jj * 3 + 2)
          obtain ⟨b0, b1, b2⟩ := HBx2.out.cells
          clear b1 b2
          have hj2 : (jj : Int) < n := by omega
          have hj0 : (0 : Int) ≤ jj := by omega
          have hce2 : (n : Int) ≤ cd := by omega
          first
          | (have hbt : bb = true := Hbb.out
             rw [hbt] at hbump2
             simp only [stepV, if_true] at hbump2
             have Hbump := Lib.hid hbump2
             clear hbump2 hbt
             go_wp2_with ((with_reducible refine gate_store (t := 3) (p := 103) (v := .tmp 101) rfl ?_); go_must (refine Kd.R_store kNd (w0 := w) B0 rfl rfl 3 (.tmp 103) (.tmp 101) rfl 47 (jj : Int) 2 E ⟨x0, x1, xn + 1⟩ (.int .i64 (xn + 1)) [.int .i64 (xn + 1)] [.int .i64 x0, .int .i64 x1, .int .i64 xn] (fun _ => True) (fun _ => False) (by rfl) (by simp [kNd]; rfl) (by rfl) (by rfl) (by kernel_rfl) (by simp [Value.oneCell']) HRe.out (by omega) (by omega) rfl ?cc (Nat.le_refl 3) ?mm (fun _ hk => hk.elim) HB2.out ?_; (case cc => (intro j u hu; match j, hu with | 0, hu => (obtain rfl := Option.some.inj hu; simpa [show kNd.sz = 3 from rfl] using hc0) | 1, hu => (obtain rfl := Option.some.inj hu; simpa [show kNd.sz = 3 from rfl] using hc1) | 2, hu => (obtain rfl := Option.some.inj hu; simpa [show kNd.sz = 3 from rfl] using hc2))); (case mm => exact k47_mkM _ _ _ _); intro w4 hR4 hB4 hg4; have HR4 : Hid (RNd w4 B0 (.slice (some ⟨g, 0, none⟩) n cd) (E.set jj ⟨x0, x1, xn + 1⟩)) := Lib.hid (by unfold RNd; simpa using hR4); have HB4 := Lib.hid hB4; have htyp := RNd.typed HRe.out g (by simp [Value.ownBlock]); have HBn4 := Lib.hid (HBn2.out.row hg4 (fun k hk => by cases hk; exact htyp)); have HBx4 := Lib.hid (HBx2.out.row hg4 (fun k hk => by cases hk; exact htyp)); clear hR4 hB4 hg4 htyp))
             go_roundw
             case rel => exact ⟨_, i + 1, rfl, by go_num, Lib.hid (HL.out.next hlt (by rw [← Hq.out, ← HD'.out, ← HZ.out]; exact Hbump.out) HR4.out HBn4.out HBx4.out HB4.out)⟩
             case measure => simp [intOf]; omega)
          | (have hbf : bb = false := Hbb.out
             rw [hbf] at hbump2
             simp only [stepV, if_false, Bool.false_eq_true] at hbump2
             by_cases hpos : xn > 0
             · rw [if_pos hpos] at hbump2
               have Hbump := Lib.hid hbump2
               clear hbump2 hbf
               go_wp2_with ((with_reducible refine gate_store (t := 3) (p := 117) (v := .tmp 115) rfl ?_); go_must (refine Kd.R_store kNd (w0 := w) B0 rfl rfl 3 (.tmp 117) (.tmp 115) rfl 47 (jj : Int) 2 E ⟨x0, x1, xn - 1⟩ (.int .i64 (xn - 1)) [.int .i64 (xn - 1)] [.int .i64 x0, .int .i64 x1, .int .i64 xn] (fun _ => True) (fun _ => False) (by rfl) (by simp [kNd]; rfl) (by rfl) (by rfl) (by kernel_rfl) (by simp [Value.oneCell']) HRe.out (by omega) (by omega) rfl ?cc (Nat.le_refl 3) ?mm (fun _ hk => hk.elim) HB2.out ?_; (case cc => (intro j u hu; match j, hu with | 0, hu => (obtain rfl := Option.some.inj hu; simpa [show kNd.sz = 3 from rfl] using hc0) | 1, hu => (obtain rfl := Option.some.inj hu; simpa [show kNd.sz = 3 from rfl] using hc1) | 2, hu => (obtain rfl := Option.some.inj hu; simpa [show kNd.sz = 3 from rfl] using hc2))); (case mm => exact k47_mkM _ _ _ _); intro w4 hR4 hB4 hg4; have HR4 : Hid (RNd w4 B0 (.slice (some ⟨g, 0, none⟩) n cd) (E.set jj ⟨x0, x1, xn - 1⟩)) := Lib.hid (by unfold RNd; simpa using hR4); have HB4 := Lib.hid hB4; have htyp := RNd.typed HRe.out g (by simp [Value.ownBlock]); have HBn4 := Lib.hid (HBn2.out.row hg4 (fun k hk => by cases hk; exact htyp)); have HBx4 := Lib.hid (HBx2.out.row hg4 (fun k hk => by cases hk; exact htyp)); clear hR4 hB4 hg4 htyp))
               go_roundw
               case rel => exact ⟨_, i + 1, rfl, by go_num, Lib.hid (HL.out.next hlt (by rw [← Hq.out, ← HD'.out, ← HZ.out]; exact Hbump.out) HR4.out HBn4.out HBx4.out HB4.out)⟩
               case measure => simp [intOf]; omega
             · rw [if_neg hpos] at hbump2
               have he : E.set jj ⟨x0, x1, xn⟩ = E := by
                 have h1 : jj < E.length := by rw [← HnE.out]; exact hj
                 have h2 : E[jj] = (⟨x0, x1, xn⟩ : Nd) := by
                   rw [Hx.out]
                   simp [rd_T47, List.getD, h1]
                 rw [← h2, List.set_getElem_self]
               rw [he] at hbump2
               have Hbump := Lib.hid hbump2
               clear hbump2 hbf he
               go_wp2
               go_roundw
               case rel => exact ⟨_, i + 1, rfl, by go_num, Lib.hid (HL.out.next hlt (by rw [← Hq.out, ← HD'.out, ← HZ.out]; exact Hbump.out) HRe.out HBn2.out HBx2.out HB2.out)⟩
               case measure => simp [intOf]; omega)
        · rw [hfv] at hfind
          have Hfind := Lib.hid hfind
          have Hbump := Lib.hid hbump
          clear hfv hfind hbump
          go_quiet ((go_at_call 30; exact Hfind.out _))
          have HRe : Hid (RNd (wr.drewN nq) B0 (.slice Ad D'.length cd) D') := Lib.hid (Kd.R_drewN HR1.out nq)
          have HBn2 := Lib.hid (Bn.below HL.out.bn (pw_below_drewN (Below.refl wr.heap.size wr) nq))
          have HBx2 := Lib.hid (Bx.below HL.out.bx (pw_below_drewN (Below.refl wr.heap.size wr) nq))
          have HB2 : Hid (Below B0 w (wr.drewN nq)) := Lib.hid (pw_below_drewN HL.out.bel nq)
          have hq2 : (wr.drewN nq).cell? ⟨pb, po + i, none⟩ = some (.int .i64 q) := hq
          clear b0 b1 b2 hq
          generalize wr.drewN nq = w2 at *
          obtain ⟨b0, b1, b2⟩ := HBx2.out.cells
          clear b0
          go_wp2
          go_region_held3 (fun w' => w'.cell? ⟨w.heap.size, 1, none⟩ = some (.int .i64 txn) ∧ w'.cell? ⟨w.heap.size, 2, none⟩ = some (.slice (some ⟨pb, po, none⟩) ps.length c) ∧ w'.cell? ⟨pb, po + i, none⟩ = some (.int .i64 q))
            (first
              | go_keep
              | (go_split_ands
                 refine ⟨(Bx.row (HBx2.out.below (pw_below_drewN (Below.refl _ _) 1)) hg (fun k hk => RNd.typed HRe.out k hk)).cells.2.1, (Bx.row (HBx2.out.below (pw_below_drewN (Below.refl _ _) 1)) hg (fun k hk => RNd.typed HRe.out k hk)).cells.2.2, ?_⟩
                 rw [Hq.out]
                 exact HST.out.cell hb3 hlt))
            ((refine Kd.R_append_step kNd (w0 := w) (W := w2.drewN 1) B0 (by rfl) (.tmp 79) (.tmp 88) 41 47 (.agg #[.int .i64 0, .int .i64 0, .int .i64 0]) 24 (by rfl) Try.underlying41 infoNd rfl (by decide) (by omega) (.slice Ad D'.length cd) D' ⟨txn, q, 0⟩ [.int .i64 txn, .int .i64 q, .int .i64 0] (fun _ => True) (fun _ => False) (by rfl) (by rfl) (k47_mkM _ _ _ _) (fun _ hk => hk.elim) (fun _ _ => trivial) (Kd.R_drewN HRe.out 1) (pw_below_drewN HB2.out 1) (by have := HB2.out.size; simp; omega) (by omega) ?_; intro v1 w3 ho hb3 hg hat))
          have htyp := fun k hk => RNd.typed HRe.out k hk
          have HBn3 := Lib.hid (Bn.row (HBn2.out.below (pw_below_drewN (Below.refl _ _) 1)) hg htyp)
          have HBx3 := Lib.hid (Bx.row (HBx2.out.below (pw_below_drewN (Below.refl _ _) 1)) hg htyp)
          have HB3 := Lib.hid hb3
          obtain ⟨A1, c1, hv1⟩ : ∃ A1 c1, v1 = .slice A1 (D'.length + 1) c1 := by
            obtain ⟨A, c, e⟩ := Kd.R_slice ho
            exact ⟨A, c, by rw [e]; simp⟩
          subst hv1
          obtain ⟨E, hE⟩ : ∃ E, E = D' ++ [(⟨txn, q, 0⟩ : Nd)] := ⟨_, rfl⟩
          have hbump := Hbump.out
          rw [← hE] at ho hbump
          have Hbump2 := Lib.hid hbump
          have HR3 : Hid (RNd w3 B0 (.slice A1 (D'.length + 1) c1) E) := Lib.hid ho
          have hEn : E.length = D'.length + 1 := by rw [hE]; simp
          have hxn : 0 ≤ (rd_T47 E (D'.length : Nat)).f2 ∧ (rd_T47 E (D'.length : Nat)).f2 ≤ 1000 := by
            rw [hE]
            simp [rd_T47]
          clear hbump ho hE hg hb3 hat htyp Hbump b1 b2 hq2 HRe HBn2 HBx2 HB2
          have HRe := HR3
          have HBn2 := HBn3
          have HBx2 := HBx3
          have HB2 := HB3
          have Hbump := Hbump2
          clear HR3 HBn3 HBx3 HB3 Hbump2
          generalize D'.length = jj at *
          have hj : jj < E.length := by omega
          have hjj0 : (0 : Int) ≤ jj := by omega
          have hEn2 := Lib.hid hEn
          clear hEn
          obtain ⟨g, ce', hv, hce, hBg, hc0, hc1, hc2⟩ := at_own HRe.out hj
          simp only [Value.slice.injEq] at hv
          obtain ⟨rfl, hnE, rfl⟩ := hv
          rw [← hnE] at hce hj
          have HnE := Lib.hid hnE
          clear hnE
          obtain ⟨x, hx⟩ : ∃ x, x = rd_T47 E (jj : Int) := ⟨_, rfl⟩
          rw [← hx] at hc0 hc1 hc2 hxn
          have hbump2 := Hbump.out
          rw [← hx] at hbump2
          have Hx := Lib.hid hx
          clear hx Hbump
          obtain ⟨x0, x1, xn⟩ := x
          simp only at hc0 hc1 hc2 hxn hbump2
          have hfz := frozen_own HRe.out (jj * 3 + 2)
          obtain ⟨b0, b1, b2⟩ := HBx2.out.cells
          clear b1 b2
          have hj2 : (jj : Int) < (jj + 1) := by omega
          have hj0 : (0 : Int) ≤ jj := by omega
          have hce2 : ((jj + 1) : Int) ≤ c1 := by omega
          first
          | (have hbt : bb = true := Hbb.out
             rw [hbt] at hbump2
             simp only [stepV, if_true] at hbump2
             have Hbump := Lib.hid hbump2
             clear hbump2 hbt
             go_wp2_with ((with_reducible refine gate_store (t := 3) (p := 103) (v := .tmp 101) rfl ?_); go_must (refine Kd.R_store kNd (w0 := w) B0 rfl rfl 3 (.tmp 103) (.tmp 101) rfl 47 (jj : Int) 2 E ⟨x0, x1, xn + 1⟩ (.int .i64 (xn + 1)) [.int .i64 (xn + 1)] [.int .i64 x0, .int .i64 x1, .int .i64 xn] (fun _ => True) (fun _ => False) (by rfl) (by simp [kNd]; rfl) (by rfl) (by rfl) (by kernel_rfl) (by simp [Value.oneCell']) HRe.out (by omega) (by omega) rfl ?cc (Nat.le_refl 3) ?mm (fun _ hk => hk.elim) HB2.out ?_; (case cc => (intro j u hu; match j, hu with | 0, hu => (obtain rfl := Option.some.inj hu; simpa [show kNd.sz = 3 from rfl] using hc0) | 1, hu => (obtain rfl := Option.some.inj hu; simpa [show kNd.sz = 3 from rfl] using hc1) | 2, hu => (obtain rfl := Option.some.inj hu; simpa [show kNd.sz = 3 from rfl] using hc2))); (case mm => exact k47_mkM _ _ _ _); intro w4 hR4 hB4 hg4; have HR4 : Hid (RNd w4 B0 (.slice (some ⟨g, 0, none⟩) (jj + 1) c1) (E.set jj ⟨x0, x1, xn + 1⟩)) := Lib.hid (by unfold RNd; simpa using hR4); have HB4 := Lib.hid hB4; have htyp := RNd.typed HRe.out g (by simp [Value.ownBlock]); have HBn4 := Lib.hid (HBn2.out.row hg4 (fun k hk => by cases hk; exact htyp)); have HBx4 := Lib.hid (HBx2.out.row hg4 (fun k hk => by cases hk; exact htyp)); clear hR4 hB4 hg4 htyp))
             go_roundw
             case rel => exact ⟨_, i + 1, rfl, by go_num, Lib.hid (HL.out.next hlt (by rw [← Hq.out, ← HD'.out, ← HZ.out]; exact Hbump.out) HR4.out HBn4.out HBx4.out HB4.out)⟩
             case measure => simp [intOf]; omega)
          | (have hbf : bb = false := Hbb.out
             rw [hbf] at hbump2
             simp only [stepV, if_false, Bool.false_eq_true] at hbump2
             by_cases hpos : xn > 0
             · rw [if_pos hpos] at hbump2
               have Hbump := Lib.hid hbump2
               clear hbump2 hbf
               go_wp2_with ((with_reducible refine gate_store (t := 3) (p := 117) (v := .tmp 115) rfl ?_); go_must (refine Kd.R_store kNd (w0 := w) B0 rfl rfl 3 (.tmp 117) (.tmp 115) rfl 47 (jj : Int) 2 E ⟨x0, x1, xn - 1⟩ (.int .i64 (xn - 1)) [.int .i64 (xn - 1)] [.int .i64 x0, .int .i64 x1, .int .i64 xn] (fun _ => True) (fun _ => False) (by rfl) (by simp [kNd]; rfl) (by rfl) (by rfl) (by kernel_rfl) (by simp [Value.oneCell']) HRe.out (by omega) (by omega) rfl ?cc (Nat.le_refl 3) ?mm (fun _ hk => hk.elim) HB2.out ?_; (case cc => (intro j u hu; match j, hu with | 0, hu => (obtain rfl := Option.some.inj hu; simpa [show kNd.sz = 3 from rfl] using hc0) | 1, hu => (obtain rfl := Option.some.inj hu; simpa [show kNd.sz = 3 from rfl] using hc1) | 2, hu => (obtain rfl := Option.some.inj hu; simpa [show kNd.sz = 3 from rfl] using hc2))); (case mm => exact k47_mkM _ _ _ _); intro w4 hR4 hB4 hg4; have HR4 : Hid (RNd w4 B0 (.slice (some ⟨g, 0, none⟩) (jj + 1) c1) (E.set jj ⟨x0, x1, xn - 1⟩)) := Lib.hid (by unfold RNd; simpa using hR4); have HB4 := Lib.hid hB4; have htyp := RNd.typed HRe.out g (by simp [Value.ownBlock]); have HBn4 := Lib.hid (HBn2.out.row hg4 (fun k hk => by cases hk; exact htyp)); have HBx4 := Lib.hid (HBx2.out.row hg4 (fun k hk => by cases hk; exact htyp)); clear hR4 hB4 hg4 htyp))
               go_roundw
               case rel => exact ⟨_, i + 1, rfl, by go_num, Lib.hid (HL.out.next hlt (by rw [← Hq.out, ← HD'.out, ← HZ.out]; exact Hbump.out) HR4.out HBn4.out HBx4.out HB4.out)⟩
               case measure => simp [intOf]; omega
             · rw [if_neg hpos] at hbump2
               have he : E.set jj ⟨x0, x1, xn⟩ = E := by
                 have h1 : jj < E.length := by rw [← HnE.out]; exact hj
                 have h2 : E[jj] = (⟨x0, x1, xn⟩ : Nd) := by
                   rw [Hx.out]
                   simp [rd_T47, List.getD, h1]
                 rw [← h2, List.set_getElem_self]
               rw [he] at hbump2
               have Hbump := Lib.hid hbump2
               clear hbump2 hbf he
               go_wp2
               go_roundw
               case rel => exact ⟨_, i + 1, rfl, by go_num, Lib.hid (HL.out.next hlt (by rw [← Hq.out, ← HD'.out, ← HZ.out]; exact Hbump.out) HRe.out HBn2.out HBx2.out HB2.out)⟩
               case measure => simp [intOf]; omega)
      · obtain rfl : i = ps.length := by omega
        have hfin : ps.take ps.length = ps := List.take_length
        have Hfin := Lib.hid hfin
        clear hfin
        go_wp2
        go_ret
        have hr := HL.out.row
        rw [Hfin.out] at hr
        have he := Hbb.out
        subst he
        exact ⟨_, rfl, hr, HL.out.bn, HL.out.bel⟩
end Go.Proofs.Ytlicobfjeajcfaa
