/-
  The space layer: what is noted.
-/
import Derived.Test.YtlicobfjeajcfaaSpC
namespace Go.Proofs.Ytlicobfjeajcfaa
open Go.RowKit Go.Maps
set_option linter.unusedVariables false
set_option linter.unusedSimpArgs false

/-- Numbers that lie in memory, as a slice leads to them. -/
def RdI (w : World) (A : Option Addr) (ps : List Int) : Prop := ∀ i, i < ps.length → ∃ b off, A = some ⟨b, off, none⟩ ∧ w.cell? ⟨b, off + i, none⟩ = some (.int .i64 (ps.getD i 0)) ∧ (Lit.int .i64 (ps.getD i 0)).wf = true

theorem RdI.chg {w w' : World} {base : Nat} {A : Option Addr} {ps : List Int} (h : RdI w A ps) (hc : Chg base w w') : RdI w' A ps := by
  intro i hi
  obtain ⟨b, off, e, h1, h2⟩ := h i hi
  exact ⟨b, off, e, hc.cell h1, h2⟩

/-- All turns of one call, one behind the other. -/
def turns (f : Int → Int) (x : Int) : List Int → (Int → Int)
  | [] => f
  | p :: r => turns (upd f p (turnV (f p) x)) x r

theorem turns_snoc (x : Int) : ∀ (l : List Int) (f : Int → Int) (p : Int), turns f x (l ++ [p]) = upd (turns f x l) p (turnV (turns f x l p) x)
  | [], f, p => rfl
  | q :: r, f, p => turns_snoc x r _ p

theorem take_snoc (l : List Int) (k : Nat) (h : k < l.length) : l.take (k + 1) = l.take k ++ [l.getD k 0] := by
  rw [List.take_succ_eq_append_getElem h]
  simp [List.getD_eq_getElem?_getD, List.getElem?_eq_getElem h]

def updF (F : Int → Int → Int) (t : Int) (g : Int → Int) : Int → Int → Int := fun t' => if t' = t then g else F t'

theorem map_notCells {w : World} {b n : Nat} {k : TypeId} {R : Value → Option (DataW Unit × List MemPlace)} {D : DataW Unit} {P : Program} (h : w.ownsMap P k R b n D) : ∀ c e f, w.heap[b]? ≠ some (Obj.cells c e f) := by
  obtain ⟨es, cl, hb, _⟩ := h
  intro c e f hc
  rw [hb] at hc
  cases hc

/-- One turn of one need, on all that lies at s. -/
theorem Rep.turned {w w' : World} {base sb N B : Nat} {D : DataW Unit} {F : Int → Int → Int} (h : Rep w base sb N B D F) {t : Int} {b : Nat} {g : Int → Int} (ht : (Lit.int .i64 t).wf = true) (hb : blk D t = .lit (.int .i64 b))
    (hi : IM w' b (N + 1) g) (hg : w.grownBy w' (some b)) : Rep w' base sb (N + 1) B D (updF F t g) ∧ Chg base w w' := by
  have hin := h.inner t b ht hb
  have hchg : Chg base w w' := Chg.of_map hg hin.2.1 h.hbase hin.1.noCells
  refine ⟨⟨hchg.cell h.cell, h.hB, Nat.le_trans h.hbase hg.size, (h.own.kept hg (by intro e; exact hin.2.2 (by injection e with e; exact e.symm))).mono (Nat.le_succ _), ?_, h.inj, h.present, ?_⟩, hchg⟩
  · intro t' b' ht' hb'
    unfold updF
    by_cases e : t' = t
    · subst e
      rw [if_pos rfl]
      rw [hb] at hb'
      simp only [DataW.lit.injEq, Lit.int.injEq, true_and] at hb'
      obtain rfl : b = b' := by omega
      exact ⟨hi, hin.2⟩
    · rw [if_neg e]
      have hin' := h.inner t' b' ht' hb'
      refine ⟨(hin'.1.kept hg ?_).mono (Nat.le_succ _), hin'.2⟩
      intro e2
      injection e2 with e2
      subst e2
      exact e (h.inj t' t _ ht' ht hb' hb)
  · intro t' ht' hn'
    unfold updF
    by_cases e : t' = t
    · subst e
      unfold blk at hb
      rw [atKey_of_not_has hn'] at hb
      cases hb
    · rw [if_neg e]
      exact h.absent t' ht' hn'

/-- A new book. -/
theorem Rep.put {w w' : World} {base sb N B b : Nat} {D : DataW Unit} {F : Int → Int → Int} (h : Rep w base sb N B D F) {t : Int} (ht : (Lit.int .i64 t).wf = true) (hh : Maps.has D (.int .i64 t) = false)
    (hi : IM w b 0 (fun _ => 0)) (hnew : ∀ (t' : Int) (b' : Nat), (Lit.int .i64 t').wf = true → blk D t' = .lit (.int .i64 b') → b' ≠ b) (hbB : b ≠ B) (hbb : base ≤ b)
    (hown : w'.ownsMap Try.prog 3 bookR B (N + 1) (D.put (.int .i64 t) (.lit (.int .i64 b)))) (hg : w.grownBy w' (some B)) : Rep w' base sb (N + 1) B (D.put (.int .i64 t) (.lit (.int .i64 b))) F ∧ blk (D.put (.int .i64 t) (.lit (.int .i64 b))) t = .lit (.int .i64 b) ∧ Chg base w w' := by
  have hm := h.own.isMap
  have hchg : Chg base w w' := Chg.of_map hg h.hB h.hbase (map_notCells h.own)
  have hsame : blk (D.put (.int .i64 t) (.lit (.int .i64 b))) t = .lit (.int .i64 b) := atKey_put_same (k := .int .i64 t) hm trivial _ _
  have hoth : ∀ t', t' ≠ t → blk (D.put (.int .i64 t) (.lit (.int .i64 b))) t' = blk D t' := fun t' e => atKey_put_other (by intro h; cases h; exact e rfl) _ _
  have hkept : ∀ {c n : Nat} {f : Int → Int}, IM w c n f → c ≠ B → IM w' c n f := fun hc hne => hc.kept hg (by intro e; injection e with e; exact hne e)
  refine ⟨⟨hchg.cell h.cell, h.hB, Nat.le_trans h.hbase hg.size, hown, ?_, ?_, ?_, ?_⟩, hsame, hchg⟩
  · intro t' b' ht' hb'
    by_cases e : t' = t
    · subst e
      rw [hsame] at hb'
      simp only [DataW.lit.injEq, Lit.int.injEq, true_and] at hb'
      obtain rfl : b = b' := by omega
      rw [h.absent t' ht' hh]
      exact ⟨(hkept hi hbB).mono (Nat.zero_le _), hbb, hbB⟩
    · rw [hoth t' e] at hb'
      have hin := h.inner t' b' ht' hb'
      exact ⟨(hkept hin.1 hin.2.2).mono (Nat.le_succ _), hin.2⟩
  · intro t1 t2 c h1 h2 e1 e2
    by_cases x1 : t1 = t
    · subst x1
      by_cases x2 : t2 = t1
      · exact x2.symm
      · rw [hoth t2 x2] at e2
        rw [hsame] at e1
        simp only [DataW.lit.injEq, Lit.int.injEq, true_and] at e1
        obtain rfl : b = c := by omega
        exact absurd rfl (hnew t2 _ h2 e2)
    · rw [hoth t1 x1] at e1
      by_cases x2 : t2 = t
      · subst x2
        rw [hsame] at e2
        simp only [DataW.lit.injEq, Lit.int.injEq, true_and] at e2
        obtain rfl : b = c := by omega
        exact absurd rfl (hnew t1 _ h1 e1)
      · rw [hoth t2 x2] at e2
        exact h.inj t1 t2 c h1 h2 e1 e2
  · intro t' ht' hp
    by_cases e : t' = t
    · subst e
      exact ⟨b, hsame⟩
    · rw [has_put_other (by intro h; cases h; exact e rfl)] at hp
      obtain ⟨c, hc⟩ := h.present t' ht' hp
      exact ⟨c, (hoth t' e).trans hc⟩
  · intro t' ht' hn
    by_cases e : t' = t
    · subst e
      rw [has_put_same (k := .int .i64 t') hm trivial] at hn
      cases hn
    · rw [has_put_other (by intro h; cases h; exact e rfl)] at hn
      exact h.absent t' ht' hn

/-- The books behind a call that notes. -/
def noteD (D : DataW Unit) (t : Int) (b : Nat) : DataW Unit := if Maps.has D (.int .i64 t) = true then D else D.put (.int .i64 t) (.lit (.int .i64 b))

def NoteRel (base sb N B b vb : Nat) (D : DataW Unit) (F : Int → Int → Int) (t x : Int) (A : Option Addr) (ps : List Int) (w wr : World) (k : Nat) : Prop :=
  Rep wr base sb (N + k) B D (updF F t (turns (F t) x (ps.take k))) ∧ wr.cell? ⟨vb, 0, none⟩ = some (.map (some b)) ∧ RdI wr A ps ∧ Chg base w wr

theorem NoteRel.step {base sb N B b vb : Nat} {D : DataW Unit} {F : Int → Int → Int} {t x : Int} {A : Option Addr} {ps : List Int} {w wr w' : World} {k : Nat} (h : NoteRel base sb N B b vb D F t x A ps w wr k) (hk : k < ps.length)
    (ht : (Lit.int .i64 t).wf = true) (hb : blk D t = .lit (.int .i64 b)) (hi : IM w' b (N + k + 1) (upd (turns (F t) x (ps.take k)) (ps.getD k 0) (turnV (turns (F t) x (ps.take k) (ps.getD k 0)) x))) (hg : wr.grownBy w' (some b)) :
    NoteRel base sb N B b vb D F t x A ps w w' (k + 1) := by
  obtain ⟨h1, h2, h3, h4⟩ := h
  obtain ⟨r1, r2⟩ := h1.turned ht hb hi hg
  refine ⟨?_, r2.cell h2, h3.chg r2, h4.trans r2⟩
  rw [take_snoc ps k hk, turns_snoc]
  have e : updF (updF F t (turns (F t) x (ps.take k))) t (upd (turns (F t) x (ps.take k)) (ps.getD k 0) (turnV (turns (F t) x (ps.take k) (ps.getD k 0)) x)) = updF F t (upd (turns (F t) x (ps.take k)) (ps.getD k 0) (turnV (turns (F t) x (ps.take k) (ps.getD k 0)) x)) := by
    funext t'
    unfold updF
    split <;> rfl
  rw [← e]
  exact r1

theorem NoteRel.im {base sb N B b vb : Nat} {D : DataW Unit} {F : Int → Int → Int} {t x : Int} {A : Option Addr} {ps : List Int} {w wr : World} {k : Nat} (h : NoteRel base sb N B b vb D F t x A ps w wr k)
    (ht : (Lit.int .i64 t).wf = true) (hb : blk D t = .lit (.int .i64 b)) : IM wr b (N + k) (turns (F t) x (ps.take k)) := by
  have := (h.1.inner t b ht hb).1
  unfold updF at this
  rwa [if_pos rfl] at this

set_option maxRecDepth 100000 in
set_option maxHeartbeats 1000000 in
theorem note_there {w : World} {base sb N B b : Nat} {D : DataW Unit} {F : Int → Int → Int} (h : Rep w base sb N B D F) (t x : Int) (A : Option Addr) (ps : List Int) (c : Nat) (ht : (Lit.int .i64 t).wf = true)
    (hh : Maps.has D (.int .i64 t) = true) (hb : blk D t = .lit (.int .i64 b)) (hp : RdI w A ps) (hN : N + ps.length < 1000000) :
    Calls Try.prog 27 #[.pointer (some ⟨sb, 0, none⟩), .int .i64 t, .int .i64 x, .slice A ps.length c] w fun e w' => e = .returned (.tuple #[]) ∧ Rep w' base sb (N + ps.length) B D (updF F t (turns (F t) x ps)) ∧ Chg base w w' := by
  have hc := h.cell
  have hr : (Instr.lookup 64 (.map (some B)) (.int .i64 t) true).run Try.prog w = .ok (.tuple #[.agg #[.map (some b)], .bool true]) w := by
    rcases h.look t ht with ⟨h1, _⟩ | ⟨b', _, h2, _, h3⟩
    · rw [hh] at h1
      cases h1
    · rw [hb] at h2
      simp only [DataW.lit.injEq, Lit.int.injEq, true_and] at h2
      obtain rfl : b = b' := by omega
      exact h3
  have hrel0 : NoteRel base sb N B b w.heap.size D F t x A ps w (w.alloc (.cells #[.map (some b)] 74)) 0 := by
    have hbel : Below w.heap.size w (w.alloc (.cells #[.map (some b)] 74)) := (Below.refl _ _).alloc (Nat.le_refl _) _
    have hchg := Chg.of_below hbel h.hbase
    refine ⟨?_, by simp, hp.chg hchg, hchg⟩
    have e : updF F t (turns (F t) x (ps.take 0)) = F := by
      funext t'
      unfold updF
      split
      · rename_i e
        subst e
        rfl
      · rfl
    rw [e]
    exact h.below hbel
  clear hh
  go_enter Try.func27, Try.ntmps27
  go_wp2
  go_loopw [36] (fun i wr => ∃ k : Nat, k ≤ ps.length ∧ i = .int .i64 k ∧ NoteRel base sb N B b w.heap.size D F t x A ps w wr k) (fun i _ => ps.length - (intOf i).toNat)
  case atStart => exact ⟨0, Nat.zero_le _, rfl, hrel0⟩
  case round =>
    obtain ⟨k, hk, rfl, hnr⟩ := hrel
    by_cases hlt : k < ps.length
    · obtain ⟨ab, ao, rfl, hcell, hwf⟩ := hnr.2.2.1 k hlt
      have hvar := hnr.2.1
      have him := hnr.im ht hb
      have hst := fun (w' : World) (hi : IM w' b (N + k + 1) (upd (turns (F t) x (ps.take k)) (ps.getD k 0) (turnV (turns (F t) x (ps.take k) (ps.getD k 0)) x))) (hg : wr.grownBy w' (some b)) => hnr.step hlt ht hb hi hg
      generalize ps.getD k 0 = q at hcell hwf hst
      generalize turns (F t) x (ps.take k) = f at him hst
      have Hst := Lib.hid hst
      have hlt2 : (k : Int) < ps.length := by omega
      clear hst hnr
      go_wp2_with (go_at_call 36; refine (turn_im _ _ _ _ _ _ him hwf (by unfold maxLen; omega)).mono ?_; rintro e w' ⟨rfl, hi', hg'⟩)
      go_roundw
      case rel => exact ⟨k + 1, hlt, by go_num, Hst.out _ hi' hg'⟩
      case measure => simp [intOf]; omega
    · obtain rfl : k = ps.length := by omega
      have hfin : ps.take ps.length = ps := List.take_length
      have Hfin := Lib.hid hfin
      clear hfin
      go_wp2
      go_end0
      have hz := hnr.1
      rw [Hfin.out] at hz
      exact ⟨rfl, hz, hnr.2.2.2⟩

theorem im_made (w : World) : IM (w.alloc (.map #[] 0)) w.heap.size 0 (fun _ => 0) := ⟨_, World.ownsMap_made _ _ _ _, fun x _ => by rfl⟩

set_option maxRecDepth 100000 in
set_option maxHeartbeats 1000000 in
theorem note_new {w : World} {base sb N B : Nat} {D : DataW Unit} {F : Int → Int → Int} (h : Rep w base sb N B D F) (t x : Int) (A : Option Addr) (ps : List Int) (c : Nat) (ht : (Lit.int .i64 t).wf = true)
    (hh : Maps.has D (.int .i64 t) = false) (hp : RdI w A ps) (hN : N + 1 + ps.length < 1000000) :
    Calls Try.prog 27 #[.pointer (some ⟨sb, 0, none⟩), .int .i64 t, .int .i64 x, .slice A ps.length c] w fun e w' => e = .returned (.tuple #[]) ∧
      Rep w' base sb (N + 1 + ps.length) B (D.put (.int .i64 t) (.lit (.int .i64 ((w.heap.size + 1 : Nat) : Int)))) (updF F t (turns (F t) x ps)) ∧ Chg base w w' := by
  have hc := h.cell
  have hr : (Instr.lookup 64 (.map (some B)) (.int .i64 t) true).run Try.prog w = .ok (.tuple #[.agg #[.map none], .bool false]) w := by
    rcases h.look t ht with ⟨_, _, h1⟩ | ⟨b', h2, _⟩
    · exact h1
    · rw [hh] at h2
      cases h2
  have hmm := @run_makeMap Try.prog
  have hw1 : Rep ((w.alloc (.cells #[.map (some (w.heap.size + 1))] 74)).alloc (.map #[] 0)).drew base sb N B D F :=
    h.below ((((Below.refl _ _).alloc (Nat.le_refl _) _).alloc (by simp) _).drew)
  have hkey := keyOf_int_mk (P := Try.prog) Try.underlying3 ht
  have hc1 : ((w.alloc (.cells #[.map (some (w.heap.size + 1))] 74)).alloc (.map #[] 0)).cell? ⟨sb, 0, none⟩ = some (.map (some B)) := hw1.cell
  have hc2 : ((w.alloc (.cells #[.map (some (w.heap.size + 1))] 74)).alloc (.map #[] 0)).cell? ⟨w.heap.size, 0, none⟩ = some (.map (some (w.heap.size + 1))) := by simp
  have hsz : (w.alloc (.cells #[.map (some (w.heap.size + 1))] 74)).heap.size = w.heap.size + 1 := by simp
  have him0 : IM ((w.alloc (.cells #[.map (some (w.heap.size + 1))] 74)).alloc (.map #[] 0)).drew (w.heap.size + 1) 0 (fun _ => 0) := by
    have z := im_made (w.alloc (.cells #[.map (some (w.heap.size + 1))] 74))
    rw [hsz] at z
    exact z
  obtain ⟨w2, hrun, hown2, hg2⟩ := hw1.own.update kint Try.underlying64 (by unfold maxLen; omega) hkey (bookR_some (w.heap.size + 1))
  obtain ⟨D', hD'⟩ : ∃ D', D' = D.put (.int .i64 t) (.lit (.int .i64 ((w.heap.size + 1 : Nat) : Int))) := ⟨_, rfl⟩
  rw [← hD'] at hown2
  obtain ⟨hrep2, hb, hchg2⟩ := hw1.put ht hh him0 (fun t' b' ht' hb' => by have := (h.inner t' b' ht' hb').1.lt; omega) (by have := h.own.lt; omega) (by have := h.hbase; omega) (hD' ▸ hown2) hg2
  rw [← hD'] at hrep2 hb
  have hbw : Below w.heap.size w ((w.alloc (.cells #[.map (some (w.heap.size + 1))] 74)).alloc (.map #[] 0)).drew := (((Below.refl _ _).alloc (Nat.le_refl _) _).alloc (by simp) _).drew
  have hchg : Chg base w w2 := (Chg.of_below hbw h.hbase).trans hchg2
  have hrel0 : NoteRel base sb (N + 1) B (w.heap.size + 1) w.heap.size D' F t x A ps w w2 0 := by
    refine ⟨?_, hchg2.cell hc2, hp.chg hchg, hchg⟩
    have e : updF F t (turns (F t) x (ps.take 0)) = F := by
      funext t'
      unfold updF
      split
      · rename_i e
        subst e
        rfl
      · rfl
    rw [e]
    exact hrep2
  have HD := Lib.hid hD'
  clear hchg2 hbw hrep2 him0 hown2 hg2 hw1 hh hD'
  go_enter Try.func27, Try.ntmps27
  go_wp2
  go_region
  go_wp2
  go_loopw [36] (fun i wr => ∃ k : Nat, k ≤ ps.length ∧ i = .int .i64 k ∧ NoteRel base sb (N + 1) B (w.heap.size + 1) w.heap.size D' F t x A ps w wr k) (fun i _ => ps.length - (intOf i).toNat)
  case atStart => exact ⟨0, Nat.zero_le _, rfl, hrel0⟩
  case round =>
    obtain ⟨k, hk, rfl, hnr⟩ := hrel
    by_cases hlt : k < ps.length
    · obtain ⟨ab, ao, rfl, hcell, hwf⟩ := hnr.2.2.1 k hlt
      have hvar := hnr.2.1
      have him := hnr.im ht hb
      have hst := fun (w' : World) (hi : IM w' (w.heap.size + 1) (N + 1 + k + 1) (upd (turns (F t) x (ps.take k)) (ps.getD k 0) (turnV (turns (F t) x (ps.take k) (ps.getD k 0)) x))) (hg : wr.grownBy w' (some (w.heap.size + 1))) => hnr.step hlt ht hb hi hg
      generalize ps.getD k 0 = q at hcell hwf hst
      generalize turns (F t) x (ps.take k) = f at him hst
      have Hst := Lib.hid hst
      have hlt2 : (k : Int) < ps.length := by omega
      clear hst hnr
      go_wp2_with (go_at_call 36; refine (turn_im _ _ _ _ _ _ him hwf (by unfold maxLen; omega)).mono ?_; rintro e w' ⟨rfl, hi', hg'⟩)
      go_roundw
      case rel => exact ⟨k + 1, hlt, by go_num, Hst.out _ hi' hg'⟩
      case measure => simp [intOf]; omega
    · obtain rfl : k = ps.length := by omega
      have hfin : ps.take ps.length = ps := List.take_length
      have Hfin := Lib.hid hfin
      clear hfin
      go_wp2
      go_end0
      have hz := hnr.1
      rw [Hfin.out] at hz
      rw [← HD.out]
      exact ⟨rfl, hz, hnr.2.2.2⟩

end Go.Proofs.Ytlicobfjeajcfaa
