/-
  The space layer: a book of needs as a set of transactions and a table of needs; what each method does to it.
-/
import Derived.Test.YtlicobfjeajcfaaSpD
namespace Go.Proofs.Ytlicobfjeajcfaa
open Go.RowKit Go.Maps
set_option linter.unusedVariables false
set_option linter.unusedSimpArgs false

/-- The book at s: who has a book (K), and each one's need on each page (F). -/
def Sp (w : World) (base sb N : Nat) (K : List Int) (F : Int → Int → Int) : Prop :=
  ∃ B D, Rep w base sb N B D F ∧ K.Nodup ∧ (∀ t ∈ K, (Lit.int .i64 t).wf = true) ∧ (∀ t, (Lit.int .i64 t).wf = true → (Maps.has D (.int .i64 t) = true ↔ t ∈ K)) ∧ ∀ h, sumD D h = (K.map h).sum

def addK (K : List Int) (t : Int) : List Int := if t ∈ K then K else t :: K

theorem sumE_insert (h : Int → Int) (x : Lit × DataW Unit) : ∀ l, sumE h (DataW.insert x l) = (match x.1 with | .int _ t => h t | _ => 0) + sumE h l
  | [] => by
    obtain ⟨l, d⟩ := x
    cases l <;> simp [DataW.insert, sumE]
  | y :: r => by
    unfold DataW.insert
    split
    · obtain ⟨l, d⟩ := x
      cases l <;> rfl
    · simp only [sumE, sumE_insert h x r]
      omega

theorem sumE_del (h : Int → Int) (t : Int) : ∀ (es : List (Lit × DataW Unit)), es.Pairwise (fun p q => p.1 ≠ q.1) → sumE h (es.filter fun p => !p.1.sameKey (.int .i64 t)) = sumE h es - (if es.any (fun p => p.1.sameKey (.int .i64 t)) then h t else 0)
  | [], _ => by simp [sumE]
  | p :: r, hp => by
    have ih := sumE_del h t r (List.pairwise_cons.1 hp).2
    have hne := (List.pairwise_cons.1 hp).1
    cases hs : p.1.sameKey (.int .i64 t) with
    | true =>
      have e := key_same hs
      have hnone : r.any (fun q => q.1.sameKey (.int .i64 t)) = false := by
        rw [List.any_eq_false]
        intro q hq hq2
        exact hne q hq (e.trans (key_same hq2).symm)
      rw [hnone] at ih
      have f1 : ¬ ((fun q : Lit × DataW Unit => !q.1.sameKey (.int .i64 t)) p = true) := by simp [hs]
      rw [List.filter_cons_of_neg (p := fun q : Lit × DataW Unit => !q.1.sameKey (.int .i64 t)) f1, List.any_cons, hs]
      simp only [sumE, e, Bool.true_or, if_true]
      simp only [Bool.false_eq_true, if_false] at ih
      omega
    | false =>
      have f1 : (fun q : Lit × DataW Unit => !q.1.sameKey (.int .i64 t)) p = true := by simp [hs]
      rw [List.filter_cons_of_pos (p := fun q : Lit × DataW Unit => !q.1.sameKey (.int .i64 t)) f1, List.any_cons, hs, Bool.false_or]
      simp only [sumE]
      omega

theorem sumD_del {D : DataW Unit} (hc : Canon D) (h : Int → Int) (t : Int) : sumD (D.del (.int .i64 t)) h = sumD D h - (if Maps.has D (.int .i64 t) = true then h t else 0) := by
  obtain ⟨es, rfl, hr, hk⟩ := hc
  exact sumE_del h t es (apart_of_rising hr)

theorem sumD_put {D : DataW Unit} (hc : Canon D) (h : Int → Int) (t : Int) (d : DataW Unit) (hh : Maps.has D (.int .i64 t) = false) : sumD (D.put (.int .i64 t) d) h = h t + sumD D h := by
  obtain ⟨es, rfl, hr, hk⟩ := hc
  have e : es.filter (fun p => !p.1.sameKey (.int .i64 t)) = es := by
    rw [List.filter_eq_self]
    rw [has_eq, List.any_eq_false] at hh
    intro p hp
    have := hh p hp
    simpa using this
  simp only [sumD, DataW.put, e, sumE_insert]

theorem sum_erase (h : Int → Int) (t : Int) : ∀ K : List Int, K.Nodup → ((K.filter fun x => decide (x ≠ t)).map h).sum = (K.map h).sum - (if t ∈ K then h t else 0)
  | [], _ => by simp
  | a :: r, hn => by
    have ih := sum_erase h t r (List.nodup_cons.1 hn).2
    have ha := (List.nodup_cons.1 hn).1
    by_cases e : a = t
    · subst e
      rw [List.filter_cons_of_neg (by simp), ih, if_neg ha]
      simp
      omega
    · rw [List.filter_cons_of_pos (by simp [e])]
      simp only [List.map_cons, List.sum_cons, ih, List.mem_cons]
      by_cases m : t ∈ r
      · simp [m]
        omega
      · have : ¬ (t = a ∨ t ∈ r) := by
          intro z
          rcases z with z | z
          · exact e z.symm
          · exact m z
        have e2 : ¬ t = a := fun z => e z.symm
        simp [m, e2]

theorem Sp.need {w : World} {base sb N : Nat} {K : List Int} {F : Int → Int → Int} (h : Sp w base sb N K F) (t p : Int) (ht : (Lit.int .i64 t).wf = true) (hp : (Lit.int .i64 p).wf = true) :
    Calls Try.prog 18 #[.pointer (some ⟨sb, 0, none⟩), .int .i64 t, .int .i64 p] w fun e w' => e = .returned (.int .i64 (F t p)) ∧ Below w.heap.size w w' := by
  obtain ⟨B, D, hr, _⟩ := h
  exact need_rep hr t p ht hp

def allV (K : List Int) (F : Int → Int → Int) (p : Int) : Int := wrap64 (K.map (fun t => F t p)).sum

theorem Sp.all {w : World} {base sb N : Nat} {K : List Int} {F : Int → Int → Int} (h : Sp w base sb N K F) (p : Int) (hp : (Lit.int .i64 p).wf = true) :
    Calls Try.prog 15 #[.pointer (some ⟨sb, 0, none⟩), .int .i64 p] w fun e w' => e = .returned (.int .i64 (allV K F p)) ∧ Below w.heap.size w w' := by
  obtain ⟨B, D, hr, _, _, _, hs⟩ := h
  have := all_rep hr p hp
  rw [hs] at this
  exact this

/-- What is left of a page of so many cells. -/
def leftK (K : List Int) (F : Int → Int → Int) (t p n : Int) : Int := wrap64 (wrap64 (wrap64 (8 - n) - allV K F p) + F t p)
def roomK (K : List Int) (F : Int → Int → Int) (t p n : Int) : Int := if leftK K F t p n < 0 then 0 else leftK K F t p n
def mayK (K : List Int) (F : Int → Int → Int) (t p n : Int) : Bool := decide (wrap64 (1 + (if wrap64 (F t p - 1) < 0 then 0 else wrap64 (F t p - 1))) ≤ leftK K F t p n)

theorem leftV_eq {D : DataW Unit} {K : List Int} (hs : ∀ h, sumD D h = (K.map h).sum) (F : Int → Int → Int) (t p n : Int) : leftV D F t p n = leftK K F t p n := by
  unfold leftV leftK allV
  rw [wrap_eq, wrap_eq, wrap_eq, hs]

theorem Sp.room {w : World} {base sb N : Nat} {K : List Int} {F : Int → Int → Int} (h : Sp w base sb N K F) (t p g : Int) (A : Option Addr) (n c : Nat) (ht : (Lit.int .i64 t).wf = true) (hp : (Lit.int .i64 p).wf = true) (hn : (n : Int) ≤ 1000) :
    Calls Try.prog 19 #[.pointer (some ⟨sb, 0, none⟩), .int .i64 t, .agg #[.int .i64 p, .int .i64 g, .slice A n c]] w fun e w' => e = .returned (.int .i64 (roomK K F t p n)) ∧ Below w.heap.size w w' := by
  obtain ⟨B, D, hr, _, _, _, hs⟩ := h
  have := room_rep hr t p g A n c ht hp hn
  rw [leftV_eq hs] at this
  exact this

theorem Sp.may {w : World} {base sb N : Nat} {K : List Int} {F : Int → Int → Int} (h : Sp w base sb N K F) (t p g : Int) (A : Option Addr) (n c : Nat) (ht : (Lit.int .i64 t).wf = true) (hp : (Lit.int .i64 p).wf = true) (hn : (n : Int) ≤ 1000) :
    Calls Try.prog 12 #[.pointer (some ⟨sb, 0, none⟩), .int .i64 t, .agg #[.int .i64 p, .int .i64 g, .slice A n c]] w fun e w' => e = .returned (.bool (mayK K F t p n)) ∧ Below w.heap.size w w' := by
  obtain ⟨B, D, hr, _, _, _, hs⟩ := h
  have := may_rep hr t p g A n c ht hp hn
  unfold mayV at this
  rw [leftV_eq hs, wrap_eq, wrap_eq] at this
  exact this

theorem Sp.note {w : World} {base sb N : Nat} {K : List Int} {F : Int → Int → Int} (h : Sp w base sb N K F) (t x : Int) (A : Option Addr) (ps : List Int) (c : Nat) (ht : (Lit.int .i64 t).wf = true) (hp : RdI w A ps) (hN : N + 1 + ps.length < 1000000) :
    Calls Try.prog 27 #[.pointer (some ⟨sb, 0, none⟩), .int .i64 t, .int .i64 x, .slice A ps.length c] w fun e w' => e = .returned (.tuple #[]) ∧
      Sp w' base sb (N + 1 + ps.length) (addK K t) (updF F t (turns (F t) x ps)) ∧ Chg base w w' := by
  obtain ⟨B, D, hr, hnd, hwf, hK, hs⟩ := h
  have hcan := hr.own.canon kint
  by_cases hh : Maps.has D (.int .i64 t) = true
  · obtain ⟨b, hb⟩ := hr.present t ht hh
    refine (note_there hr t x A ps c ht hh hb hp (by omega)).mono ?_
    rintro e w' ⟨he, h1, h2⟩
    have hm := (hK t ht).1 hh
    unfold addK
    rw [if_pos hm]
    exact ⟨he, ⟨B, D, h1.mono (by omega), hnd, hwf, hK, hs⟩, h2⟩
  · have hf : Maps.has D (.int .i64 t) = false := by simpa using hh
    refine (note_new hr t x A ps c ht hf hp hN).mono ?_
    rintro e w' ⟨he, h1, h2⟩
    have hm : ¬ t ∈ K := fun z => hh ((hK t ht).2 z)
    unfold addK
    rw [if_neg hm]
    refine ⟨he, ⟨B, _, h1, List.nodup_cons.2 ⟨hm, hnd⟩, ?_, ?_, ?_⟩, h2⟩
    · intro t' ht'
      rcases List.mem_cons.1 ht' with rfl | z
      · exact ht
      · exact hwf t' z
    · intro t' ht'
      by_cases e : t' = t
      · subst e
        rw [has_put_same (k := .int .i64 t') hr.own.isMap trivial]
        simp
      · rw [has_put_other (by intro h; cases h; exact e rfl), hK t' ht']
        simp [e]
    · intro g
      rw [sumD_put hcan g t _ hf, hs]
      simp

theorem Sp.take {w : World} {base sb N : Nat} {K : List Int} {F : Int → Int → Int} (h : Sp w base sb N K F) (t : Int) (A : Option Addr) (ps : List Int) (c : Nat) (ht : (Lit.int .i64 t).wf = true) (hp : RdI w A ps) (hN : N + 1 + ps.length < 1000000) :
    Calls Try.prog 11 #[.pointer (some ⟨sb, 0, none⟩), .int .i64 t, .slice A ps.length c] w fun e w' => e = .returned (.tuple #[]) ∧
      Sp w' base sb (N + 1 + ps.length) (addK K t) (updF F t (turns (F t) 1 ps)) ∧ Chg base w w' := by
  go_enter Try.func11, Try.ntmps11
  go_wp2_with (go_at_call 27; refine (h.note t 1 A ps c ht hp hN).mono ?_; rintro e w' ⟨rfl, hs', hc'⟩)
  go_end0
  exact ⟨rfl, hs', hc'⟩

theorem Sp.put {w : World} {base sb N : Nat} {K : List Int} {F : Int → Int → Int} (h : Sp w base sb N K F) (t : Int) (A : Option Addr) (ps : List Int) (c : Nat) (ht : (Lit.int .i64 t).wf = true) (hp : RdI w A ps) (hN : N + 1 + ps.length < 1000000) :
    Calls Try.prog 14 #[.pointer (some ⟨sb, 0, none⟩), .int .i64 t, .slice A ps.length c] w fun e w' => e = .returned (.tuple #[]) ∧
      Sp w' base sb (N + 1 + ps.length) (addK K t) (updF F t (turns (F t) (-1) ps)) ∧ Chg base w w' := by
  go_enter Try.func14, Try.ntmps14
  go_wp2_with (go_at_call 27; refine (h.note t (-1) A ps c ht hp hN).mono ?_; rintro e w' ⟨rfl, hs', hc'⟩)
  go_end0
  exact ⟨rfl, hs', hc'⟩

/-- One book goes. -/
theorem Rep.del {w w' : World} {base sb N B : Nat} {D : DataW Unit} {F : Int → Int → Int} (h : Rep w base sb N B D F) {t : Int} (ht : (Lit.int .i64 t).wf = true)
    (hown : w'.ownsMap Try.prog 3 bookR B N (D.del (.int .i64 t))) (hg : w.grownBy w' (some B)) : Rep w' base sb N B (D.del (.int .i64 t)) (updF F t (fun _ => 0)) ∧ Chg base w w' := by
  have hchg : Chg base w w' := Chg.of_map hg h.hB h.hbase (map_notCells h.own)
  have hsame : blk (D.del (.int .i64 t)) t = .nil := atKey_del_same _
  have hoth : ∀ t', t' ≠ t → blk (D.del (.int .i64 t)) t' = blk D t' := fun t' e => atKey_del_other (by intro h; cases h; exact e rfl) _
  refine ⟨⟨hchg.cell h.cell, h.hB, Nat.le_trans h.hbase hg.size, hown, ?_, ?_, ?_, ?_⟩, hchg⟩
  · intro t' b' ht' hb'
    by_cases e : t' = t
    · subst e
      rw [hsame] at hb'
      cases hb'
    · rw [hoth t' e] at hb'
      have hin := h.inner t' b' ht' hb'
      unfold updF
      rw [if_neg e]
      exact ⟨hin.1.kept hg (by intro z; injection z with z; exact hin.2.2 z), hin.2⟩
  · intro t1 t2 c h1 h2 e1 e2
    by_cases x1 : t1 = t
    · subst x1
      rw [hsame] at e1
      cases e1
    · by_cases x2 : t2 = t
      · subst x2
        rw [hsame] at e2
        cases e2
      · rw [hoth t1 x1] at e1
        rw [hoth t2 x2] at e2
        exact h.inj t1 t2 c h1 h2 e1 e2
  · intro t' ht' hp
    by_cases e : t' = t
    · subst e
      rw [has_del_same] at hp
      cases hp
    · rw [has_del_other (by intro h; cases h; exact e rfl)] at hp
      obtain ⟨c, hc⟩ := h.present t' ht' hp
      exact ⟨c, (hoth t' e).trans hc⟩
  · intro t' ht' hn
    unfold updF
    by_cases e : t' = t
    · rw [if_pos e]
    · rw [if_neg e]
      rw [has_del_other (by intro h; cases h; exact e rfl)] at hn
      exact h.absent t' ht' hn

def doneK (K : List Int) : List Int → List Int
  | [] => K
  | t :: r => doneK (K.filter fun x => decide (x ≠ t)) r
def doneF (F : Int → Int → Int) : List Int → (Int → Int → Int)
  | [] => F
  | t :: r => doneF (updF F t (fun _ => 0)) r
theorem doneK_snoc (t : Int) : ∀ (l : List Int) (K : List Int), doneK K (l ++ [t]) = (doneK K l).filter fun x => decide (x ≠ t)
  | [], _ => rfl
  | _ :: r, _ => doneK_snoc t r _
theorem doneF_snoc (t : Int) : ∀ (l : List Int) (F : Int → Int → Int), doneF F (l ++ [t]) = updF (doneF F l) t (fun _ => 0)
  | [], _ => rfl
  | _ :: r, _ => doneF_snoc t r _

theorem Sp.del {w w' : World} {base sb N B : Nat} {D : DataW Unit} {K : List Int} {F : Int → Int → Int} (hr : Rep w base sb N B D F) (hnd : K.Nodup) (hwf : ∀ t ∈ K, (Lit.int .i64 t).wf = true) (hK : ∀ t, (Lit.int .i64 t).wf = true → (Maps.has D (.int .i64 t) = true ↔ t ∈ K)) (hs : ∀ h, sumD D h = (K.map h).sum)
    {t : Int} (ht : (Lit.int .i64 t).wf = true) (hown : w'.ownsMap Try.prog 3 bookR B N (D.del (.int .i64 t))) (hg : w.grownBy w' (some B)) :
    Sp w' base sb N (K.filter fun x => decide (x ≠ t)) (updF F t (fun _ => 0)) ∧ Chg base w w' := by
  obtain ⟨h1, h2⟩ := hr.del ht hown hg
  refine ⟨⟨B, _, h1, hnd.filter _, ?_, ?_, ?_⟩, h2⟩
  · intro t' ht'
    exact hwf t' (List.mem_filter.1 ht').1
  · intro t' ht'
    by_cases e : t' = t
    · subst e
      rw [has_del_same]
      simp
    · rw [has_del_other (by intro h; cases h; exact e rfl), hK t' ht']
      simp [e]
  · intro g
    rw [sumD_del (hr.own.canon kint) g t, hs, sum_erase g t K hnd]
    by_cases m : t ∈ K
    · simp [m, (hK t ht).2 m]
    · have : ¬ Maps.has D (.int .i64 t) = true := fun z => m ((hK t ht).1 z)
      simp [m, this]

set_option maxRecDepth 100000 in
set_option maxHeartbeats 1000000 in
theorem Sp.done {w : World} {base sb N : Nat} {K : List Int} {F : Int → Int → Int} (h : Sp w base sb N K F) (A : Option Addr) (ps : List Int) (c : Nat) (hp : RdI w A ps) (hN : ps.length < 1000000) :
    Calls Try.prog 20 #[.pointer (some ⟨sb, 0, none⟩), .slice A ps.length c] w fun e w' => e = .returned (.tuple #[]) ∧
      Sp w' base sb N (doneK K ps) (doneF F ps) ∧ Chg base w w' := by
  go_enter Try.func20, Try.ntmps20
  go_wp2
  go_loopw [10] (fun i wr => ∃ k : Nat, k ≤ ps.length ∧ i = .int .i64 k ∧ Sp wr base sb N (doneK K (ps.take k)) (doneF F (ps.take k)) ∧ Chg base w wr) (fun i _ => ps.length - (intOf i).toNat)
  case atStart => exact ⟨0, Nat.zero_le _, rfl, h, Chg.refl _ _⟩
  case round =>
    obtain ⟨k, hk, rfl, hsp, hch⟩ := hrel
    by_cases hlt : k < ps.length
    · obtain ⟨ab, ao, rfl, hcell, hwf⟩ := hp.chg hch k hlt
      have hst := (doneK_snoc (ps.getD k 0) (ps.take k) K)
      have hst2 := (doneF_snoc (ps.getD k 0) (ps.take k) F)
      rw [← take_snoc ps k hlt] at hst hst2
      have Hst := Lib.hid hst
      have Hst2 := Lib.hid hst2
      clear hst hst2
      generalize ps.getD k 0 = q at hcell hwf Hst Hst2
      generalize doneK K (ps.take k) = K0 at hsp Hst
      generalize doneF F (ps.take k) = F0 at hsp Hst2
      obtain ⟨B, D, hr, hnd, hwfK, hK, hs⟩ := hsp
      have hc := hr.cell
      have hown := hr.own
      have HK := Lib.hid hK
      have Hs := Lib.hid hs
      have HnK := Lib.hid hwfK
      have hlt2 : (k : Int) < ps.length := by omega
      clear hK hs hwfK
      go_wp2_with (at_delete; refine wpList_delete_own _ rfl _ _ 64 3 rfl 74 kint Try.underlying64 _ B N D rfl hown _ _ rfl (keyOf_int_mk Try.underlying3 hwf) ?_)
      intro w1 hown1 hturn1
      obtain ⟨hs1, hc1⟩ := Sp.del hr hnd HnK.out HK.out Hs.out hwf hown1 hturn1.grown
      have Hs1 := Lib.hid hs1
      clear hs1 hr hown hown1 HK Hs HnK hnd
      go_wp2
      go_roundw
      case rel => exact ⟨k + 1, hlt, by go_num, by rw [Hst.out, Hst2.out]; exact Hs1.out, hch.trans hc1⟩
      case measure => simp [intOf]; omega
    · obtain rfl : k = ps.length := by omega
      have hfin : ps.take ps.length = ps := List.take_length
      have Hfin := Lib.hid hfin
      clear hfin
      go_wp2
      go_end0
      rw [Hfin.out] at hsp
      exact ⟨rfl, hsp, hch⟩

end Go.Proofs.Ytlicobfjeajcfaa
