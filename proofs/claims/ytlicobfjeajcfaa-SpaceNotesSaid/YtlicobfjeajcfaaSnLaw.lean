/-
  SpaceNotes: the plain law: what is noted of acts, and the book beside it.
-/
import Derived.Test.YtlicobfjeajcfaaPSpaceNotesx1
import Derived.Test.YtlicobfjeajcfaaSpE
namespace Go.Proofs.Ytlicobfjeajcfaa
open Go.RowKit Go.Maps Go.Proofs.Ytlicobfjeajcfaa.PSpaceNotes
open Go.Proofs.YtlicobfjeajcfaaW.PrintWords
set_option linter.unusedVariables false
set_option linter.unusedSimpArgs false

abbrev Nd := S47
def hit (x : Nd) (t p : Int) : Bool := decide (x.f0 = t) && decide (x.f1 = p)
/-- How many stand ahead of the first that fits. -/
def idx : List Nd → Int → Int → Nat
  | [], _, _ => 0
  | x :: r, t, p => if hit x t p = true then 0 else idx r t p + 1
def lk : List Nd → Int → Int → Int
  | [], _, _ => 0
  | x :: r, t, p => if hit x t p = true then x.f2 else lk r t p
def stepV (b : Bool) (n : Int) : Int := if b then n + 1 else if n > 0 then n - 1 else n
def bump (t p : Int) (b : Bool) : List Nd → List Nd
  | [] => [⟨t, p, stepV b 0⟩]
  | x :: r => if hit x t p = true then ⟨x.f0, x.f1, stepV b x.f2⟩ :: r else x :: bump t p b r
def bumps (t : Int) (b : Bool) : List Int → List Nd → List Nd
  | [], D => D
  | p :: r, D => bumps t b r (bump t p b D)
theorem bumps_snoc (t : Int) (b : Bool) (p : Int) : ∀ (l : List Int) (D : List Nd), bumps t b (l ++ [p]) D = bump t p b (bumps t b l D)
  | [], _ => rfl
  | _ :: r, _ => bumps_snoc t b p r _
def tot : List Nd → Int
  | [] => 0
  | x :: r => x.f2 + tot r
def allD (p : Int) : List Nd → Int
  | [] => 0
  | x :: r => (if x.f1 = p then x.f2 else 0) + allD p r
def key (x : Nd) : Int × Int := (x.f0, x.f1)

theorem hit_iff (x : Nd) (t p : Int) : hit x t p = true ↔ x.f0 = t ∧ x.f1 = p := by simp [hit]
theorem idx_le (t p : Int) : ∀ D : List Nd, idx D t p ≤ D.length
  | [] => Nat.le_refl _
  | x :: r => by
    have := idx_le t p r
    simp only [idx, List.length_cons]
    split <;> omega
theorem idx_ahead (t p : Int) : ∀ (D : List Nd) (i : Nat) (z : Nd), i < idx D t p → hit (D.getD i z) t p = false
  | [], _, _, h => by simp [idx] at h
  | x :: r, i, z, h => by
    simp only [idx] at h
    split at h
    · omega
    · rename_i hx
      cases i with
      | zero => simpa using hx
      | succ i => exact idx_ahead t p r i z (by omega)
theorem idx_at (t p : Int) : ∀ (D : List Nd) (z : Nd), idx D t p < D.length → hit (D.getD (idx D t p) z) t p = true ∧ lk D t p = (D.getD (idx D t p) z).f2
  | [], _, h => by simp [idx] at h
  | x :: r, z, h => by
    simp only [idx, lk] at h ⊢
    by_cases hx : hit x t p = true
    · rw [if_pos hx, if_pos hx]
      exact ⟨hx, rfl⟩
    · rw [if_neg hx] at h
      rw [if_neg hx, if_neg hx]
      simp only [List.length_cons] at h
      exact idx_at t p r z (by omega)
theorem bump_there (t p : Int) (b : Bool) : ∀ (D : List Nd) (z : Nd), idx D t p < D.length →
    bump t p b D = D.set (idx D t p) ⟨(D.getD (idx D t p) z).f0, (D.getD (idx D t p) z).f1, stepV b (D.getD (idx D t p) z).f2⟩
  | [], _, h => by simp [idx] at h
  | x :: r, z, h => by
    simp only [idx, bump] at h ⊢
    by_cases hx : hit x t p = true
    · rw [if_pos hx, if_pos hx]
      rfl
    · rw [if_neg hx] at h
      rw [if_neg hx, if_neg hx]
      simp only [List.length_cons] at h
      rw [bump_there t p b r z (by omega)]
      rfl
theorem bump_new (t p : Int) (b : Bool) : ∀ D : List Nd, ¬ idx D t p < D.length → bump t p b D = D ++ [⟨t, p, stepV b 0⟩]
  | [], _ => rfl
  | x :: r, h => by
    simp only [idx, bump] at h ⊢
    by_cases hx : hit x t p = true
    · rw [if_pos hx] at h
      simp at h
    · rw [if_neg hx] at h
      rw [if_neg hx]
      simp only [List.length_cons] at h
      rw [bump_new t p b r (by omega)]
      rfl
theorem lk_bump (t p : Int) (b : Bool) (t' p' : Int) : ∀ D : List Nd, lk (bump t p b D) t' p' = if t' = t ∧ p' = p then stepV b (lk D t p) else lk D t' p'
  | [] => by
    simp only [bump, lk, hit]
    by_cases h : t' = t ∧ p' = p
    · obtain ⟨rfl, rfl⟩ := h
      simp
    · rw [if_neg h]
      have : ¬ (t = t' ∧ p = p') := fun e => h ⟨e.1.symm, e.2.symm⟩
      simp only [Bool.and_eq_true, decide_eq_true_eq]
      rw [if_neg this]
  | x :: r => by
    simp only [bump]
    by_cases hx : hit x t p = true
    · rw [if_pos hx]
      simp only [lk]
      rw [if_pos hx]
      obtain ⟨e1, e2⟩ := (hit_iff x t p).1 hx
      by_cases h : t' = t ∧ p' = p
      · obtain ⟨rfl, rfl⟩ := h
        have hh : hit (⟨x.f0, x.f1, stepV b x.f2⟩ : Nd) t' p' = true := (hit_iff _ _ _).2 ⟨e1, e2⟩
        simp [hh]
      · rw [if_neg h]
        have hn : ¬ (x.f0 = t' ∧ x.f1 = p') := fun e => h ⟨e.1.symm.trans e1, e.2.symm.trans e2⟩
        have n1 : ¬ hit x t' p' = true := fun e => hn ((hit_iff _ _ _).1 e)
        have n2 : ¬ hit (⟨x.f0, x.f1, stepV b x.f2⟩ : Nd) t' p' = true := fun e => hn ((hit_iff _ _ _).1 e)
        rw [if_neg n1, if_neg n2]
    · rw [if_neg hx]
      simp only [lk]
      rw [if_neg hx, lk_bump t p b t' p' r]
      by_cases h : t' = t ∧ p' = p
      · obtain ⟨rfl, rfl⟩ := h
        simp [hx]
      · rw [if_neg h, if_neg h]
theorem keys_bump (t p : Int) (b : Bool) : ∀ (D : List Nd) (k : Int × Int), k ∈ (bump t p b D).map key → k ∈ D.map key ∨ k = (t, p)
  | [], k, h => by simp [bump, key] at h; simp [h]
  | x :: r, k, h => by
    simp only [bump] at h
    split at h
    · simp only [List.map_cons, List.mem_cons, key] at h ⊢
      rcases h with h | h
      · exact .inl (.inl h)
      · exact .inl (.inr h)
    · simp only [List.map_cons, List.mem_cons] at h ⊢
      rcases h with h | h
      · exact .inl (.inl h)
      · rcases keys_bump t p b r k h with h | h
        · exact .inl (.inr h)
        · exact .inr h
theorem uq_bump (t p : Int) (b : Bool) : ∀ D : List Nd, (D.map key).Nodup → ((bump t p b D).map key).Nodup
  | [], _ => by simp [bump]
  | x :: r, h => by
    simp only [List.map_cons, List.nodup_cons] at h
    simp only [bump]
    split
    · simp only [List.map_cons, List.nodup_cons]
      exact h
    · rename_i hx
      simp only [List.map_cons, List.nodup_cons]
      refine ⟨fun m => ?_, uq_bump t p b r h.2⟩
      rcases keys_bump t p b r _ m with m | m
      · exact h.1 m
      · apply hx
        rw [hit_iff]
        simpa [key] using m
theorem stepV_pos (b : Bool) (n : Int) (h : 0 ≤ n) : 0 ≤ stepV b n ∧ stepV b n ≤ n + 1 := by
  unfold stepV
  cases b <;> simp <;> (try split) <;> omega
theorem pos_bump (t p : Int) (b : Bool) : ∀ D : List Nd, (∀ x ∈ D, 0 ≤ x.f2) → (∀ x ∈ bump t p b D, 0 ≤ x.f2) ∧ tot (bump t p b D) ≤ tot D + 1
  | [], _ => by
    have := stepV_pos b 0 (Int.le_refl _)
    simp [bump, tot]
    omega
  | x :: r, h => by
    have hx := h x (by simp)
    simp only [bump]
    split
    · have := stepV_pos b x.f2 hx
      refine ⟨fun y hy => ?_, by simp only [tot]; omega⟩
      rcases List.mem_cons.1 hy with rfl | m
      · exact this.1
      · exact h y (by simp [m])
    · have ih := pos_bump t p b r (fun y hy => h y (by simp [hy]))
      refine ⟨fun y hy => ?_, by simp only [tot]; omega⟩
      rcases List.mem_cons.1 hy with rfl | m
      · exact hx
      · exact ih.1 y m
theorem f0_bump (t p : Int) (b : Bool) : ∀ (D : List Nd) (y : Nd), y ∈ bump t p b D → y.f0 = t ∨ ∃ x ∈ D, x.f0 = y.f0
  | [], y, h => by simp [bump] at h; simp [h]
  | x :: r, y, h => by
    simp only [bump] at h
    split at h
    · rcases List.mem_cons.1 h with rfl | m
      · exact .inr ⟨x, by simp, rfl⟩
      · exact .inr ⟨y, by simp [m], rfl⟩
    · rcases List.mem_cons.1 h with rfl | m
      · exact .inr ⟨y, by simp, rfl⟩
      · rcases f0_bump t p b r y m with e | ⟨z, hz, e⟩
        · exact .inl e
        · exact .inr ⟨z, by simp [hz], e⟩

theorem len_bump (t p : Int) (b : Bool) : ∀ D : List Nd, (bump t p b D).length ≤ D.length + 1
  | [] => by simp [bump]
  | x :: r => by
    simp only [bump]
    have := len_bump t p b r
    split <;> simp <;> omega

theorem tot_nonneg : ∀ D : List Nd, (∀ x ∈ D, 0 ≤ x.f2) → 0 ≤ tot D
  | [], _ => Int.le_refl _
  | x :: r, h => by
    have h1 := h x (by simp)
    have h2 := tot_nonneg r (fun y hy => h y (by simp [hy]))
    simp only [tot]
    omega
theorem lk_le (t p : Int) : ∀ D : List Nd, (∀ x ∈ D, 0 ≤ x.f2) → 0 ≤ lk D t p ∧ lk D t p ≤ allD p D ∧ allD p D ≤ tot D
  | [], _ => by simp [lk, allD, tot]
  | x :: r, h => by
    have h1 := h x (by simp)
    have h2 := lk_le t p r (fun y hy => h y (by simp [hy]))
    simp only [lk, allD, tot]
    by_cases hx : hit x t p = true
    · have e := ((hit_iff x t p).1 hx).2
      rw [if_pos hx, if_pos e]
      omega
    · rw [if_neg hx]
      split <;> omega
theorem lk_absent (t p : Int) : ∀ D : List Nd, (t, p) ∉ D.map key → lk D t p = 0
  | [], _ => rfl
  | x :: r, h => by
    simp only [List.map_cons, List.mem_cons, not_or] at h
    simp only [lk]
    rw [if_neg, lk_absent t p r h.2]
    intro e
    obtain ⟨e1, e2⟩ := (hit_iff x t p).1 e
    exact h.1 (by simp [key, e1, e2])

theorem sum_delta (a : Int) (v : Int) : ∀ K : List Int, K.Nodup → (K.map (fun t => if t = a then v else 0)).sum = if a ∈ K then v else 0
  | [], _ => by simp
  | x :: r, h => by
    have ih := sum_delta a v r (List.nodup_cons.1 h).2
    have hx := (List.nodup_cons.1 h).1
    simp only [List.map_cons, List.sum_cons, ih, List.mem_cons]
    by_cases e : x = a
    · subst e
      simp [hx]
    · have e2 : ¬ a = x := fun z => e z.symm
      simp [e, e2]
theorem sum_add (f g : Int → Int) : ∀ K : List Int, (K.map (fun t => f t + g t)).sum = (K.map f).sum + (K.map g).sum
  | [] => by simp
  | x :: r => by
    simp only [List.map_cons, List.sum_cons, sum_add f g r]
    omega
theorem sum_lk (p : Int) (K : List Int) (hK : K.Nodup) : ∀ D : List Nd, (D.map key).Nodup → (∀ x ∈ D, x.f0 ∈ K) → (K.map (fun t => lk D t p)).sum = allD p D
  | [], _, _ => by
    have : ∀ K : List Int, (K.map (fun _ => (0 : Int))).sum = 0 := by
      intro K
      induction K with
      | nil => rfl
      | cons a r ih =>
        simp only [List.map_cons, List.sum_cons, ih]
        rfl
    exact this K
  | x :: r, h, hm => by
    simp only [List.map_cons, List.nodup_cons] at h
    have ih := sum_lk p K hK r h.2 (fun y hy => hm y (by simp [hy]))
    simp only [allD]
    by_cases e : x.f1 = p
    · rw [if_pos e]
      have hz : lk r x.f0 p = 0 := lk_absent _ _ r (by
        have := h.1
        simpa [key, e] using this)
      have hf : (fun t => lk (x :: r) t p) = fun t => (if t = x.f0 then x.f2 else 0) + lk r t p := by
        funext t
        simp only [lk]
        by_cases e2 : t = x.f0
        · subst e2
          rw [if_pos ((hit_iff _ _ _).2 ⟨rfl, e⟩), if_pos rfl, hz]
          omega
        · have : ¬ hit x t p = true := fun z => e2 ((hit_iff _ _ _).1 z).1.symm
          rw [if_neg this, if_neg e2]
          omega
      rw [hf, sum_add, sum_delta _ _ K hK, if_pos (hm x (by simp)), ih]
    · rw [if_neg e]
      have hf : (fun t => lk (x :: r) t p) = fun t => lk r t p := by
        funext t
        simp only [lk]
        have : ¬ hit x t p = true := fun z => e ((hit_iff _ _ _).1 z).2
        rw [if_neg this]
      rw [hf, ih]
      omega

/-- The notes, and the book beside them. -/
structure NI (D : List Nd) (K : List Int) (F : Int → Int → Int) (M : Nat) : Prop where
  need : ∀ t p, F t p = lk D t p
  nd : K.Nodup
  mem : ∀ x ∈ D, x.f0 ∈ K
  uq : (D.map key).Nodup
  pos : ∀ x ∈ D, 0 ≤ x.f2
  tot : tot D ≤ M
  len : D.length ≤ M

theorem NI.start : NI [] [] (fun _ _ => 0) 0 := ⟨fun _ _ => rfl, List.nodup_nil, by simp, by simp, by simp, by simp [Go.Proofs.Ytlicobfjeajcfaa.tot], by simp⟩
theorem NI.mono {D : List Nd} {K : List Int} {F : Int → Int → Int} {M M' : Nat} (h : NI D K F M) (hm : M ≤ M') : NI D K F M' :=
  ⟨h.need, h.nd, h.mem, h.uq, h.pos, by have := h.tot; omega, by have := h.len; omega⟩
theorem NI.bound {D : List Nd} {K : List Int} {F : Int → Int → Int} {M : Nat} (h : NI D K F M) (t p : Int) : 0 ≤ lk D t p ∧ lk D t p ≤ allD p D ∧ allD p D ≤ M := by
  have := lk_le t p D h.pos
  have := h.tot
  omega
theorem NI.allV {D : List Nd} {K : List Int} {F : Int → Int → Int} {M : Nat} (h : NI D K F M) (hM : M ≤ 1000) (p : Int) : allV K F p = allD p D := by
  have hb := h.bound 0 p
  unfold Go.Proofs.Ytlicobfjeajcfaa.allV
  have : (fun t => F t p) = fun t => lk D t p := by
    funext t
    exact h.need t p
  rw [this, sum_lk p K h.nd D h.uq h.mem]
  unfold wrap64
  omega

theorem turn_step (b : Bool) (v : Int) (h : 0 ≤ v ∧ v ≤ 1000) : turnV v (if b then 1 else -1) = stepV b v := by
  unfold turnV stepV wrap64
  cases b <;> simp <;> omega
theorem upd_lk (D : List Nd) (t p : Int) (b : Bool) (f : Int → Int) (hf : ∀ q, f q = lk D t q) (hv : 0 ≤ lk D t p ∧ lk D t p ≤ 1000) (q : Int) :
    upd f p (turnV (f p) (if b then 1 else -1)) q = lk (bump t p b D) t q := by
  rw [lk_bump]
  unfold upd
  by_cases e : q = p
  · subst e
    rw [if_pos rfl, hf, turn_step b _ hv]
    simp
  · rw [if_neg e, if_neg (fun z => e z.2), hf]

theorem mem_addK (K : List Int) (t s : Int) : s ∈ addK K t ↔ s = t ∨ s ∈ K := by
  unfold addK
  split
  · rename_i h
    constructor
    · exact .inr
    · rintro (rfl | h2)
      · exact h
      · exact h2
  · simp
theorem nd_addK (K : List Int) (t : Int) (h : K.Nodup) : (addK K t).Nodup := by
  unfold addK
  split
  · exact h
  · rename_i m
    exact List.nodup_cons.2 ⟨m, h⟩

theorem bumps_inv (t : Int) (b : Bool) (K : List Int) (htK : t ∈ K) : ∀ (ps : List Int) (D : List Nd) (f : Int → Int) (M : Nat), (∀ q, f q = lk D t q) → (∀ x ∈ D, x.f0 ∈ K) → (D.map key).Nodup → (∀ x ∈ D, 0 ≤ x.f2) → tot D ≤ M → D.length ≤ M → M + ps.length ≤ 1000 →
    (∀ q, turns f (if b then 1 else -1) ps q = lk (bumps t b ps D) t q) ∧ (∀ s q, s ≠ t → lk (bumps t b ps D) s q = lk D s q) ∧ (∀ x ∈ bumps t b ps D, x.f0 ∈ K) ∧ ((bumps t b ps D).map key).Nodup ∧ (∀ x ∈ bumps t b ps D, 0 ≤ x.f2) ∧ tot (bumps t b ps D) ≤ (M + ps.length : Nat) ∧ (bumps t b ps D).length ≤ M + ps.length
  | [], D, f, M, hf, hm, hu, hp, ht, hl, hM => ⟨hf, fun _ _ _ => rfl, hm, hu, hp, by show tot D ≤ ((M + 0 : Nat) : Int); exact ht, by show D.length ≤ M + 0; exact hl⟩
  | p :: r, D, f, M, hf, hm, hu, hp, ht, hl, hM => by
    have hb := lk_le t p D hp
    have hp2 := pos_bump t p b D hp
    have hl2 := len_bump t p b D
    simp only [List.length_cons] at hM
    have hm2 : ∀ x ∈ bump t p b D, x.f0 ∈ K := by
      intro x hx
      rcases f0_bump t p b D x hx with e | ⟨y, hy, e⟩
      · rw [e]; exact htK
      · rw [← e]; exact hm y hy
    obtain ⟨h1, h2, h3, h4, h5, h6, h7⟩ := bumps_inv t b K htK r (bump t p b D) (upd f p (turnV (f p) (if b then 1 else -1))) (M + 1) (upd_lk D t p b f hf (by omega)) hm2 (uq_bump t p b D hu) hp2.1 (by omega) (by omega) (by omega)
    refine ⟨h1, fun s q hs => ?_, h3, h4, h5, by simp only [bumps, List.length_cons]; omega, by simp only [bumps, List.length_cons]; omega⟩
    have e := h2 s q hs
    rw [lk_bump, if_neg (fun z => hs z.1)] at e
    exact e

theorem NI.bumps {D : List Nd} {K : List Int} {F : Int → Int → Int} {M : Nat} (h : NI D K F M) (t : Int) (b : Bool) (ps : List Int) (hM : M + ps.length ≤ 1000) :
    NI (bumps t b ps D) (addK K t) (updF F t (turns (F t) (if b then 1 else -1) ps)) (M + ps.length) := by
  obtain ⟨h1, h2, h3, h4, h5, h6, h7⟩ := bumps_inv t b (addK K t) ((mem_addK K t t).2 (.inl rfl)) ps D (F t) M (h.need t) (fun x hx => (mem_addK K t _).2 (.inr (h.mem x hx))) h.uq h.pos h.tot h.len hM
  refine ⟨fun s q => ?_, nd_addK K t h.nd, h3, h4, h5, h6, h7⟩
  unfold updF
  by_cases e : s = t
  · subst e
    rw [if_pos rfl]
    exact h1 q
  · rw [if_neg e, h2 s q e]
    exact h.need s q

def keep (t : Int) (D : List Nd) : List Nd := D.filter fun x => !decide (x.f0 = t)
theorem lk_keep (t s p : Int) : ∀ D : List Nd, lk (keep t D) s p = if s = t then 0 else lk D s p
  | [] => by simp [keep, lk]
  | x :: r => by
    have ih := lk_keep t s p r
    unfold keep at ih ⊢
    by_cases e : x.f0 = t
    · rw [List.filter_cons_of_neg (by simp [e]), ih]
      simp only [lk]
      by_cases es : s = t
      · rw [if_pos es, if_pos es]
      · rw [if_neg es, if_neg es, if_neg]
        intro z
        exact es (((hit_iff _ _ _).1 z).1.symm.trans e)
    · rw [List.filter_cons_of_pos (by simp [e])]
      simp only [lk]
      rw [ih]
      by_cases hx : hit x s p = true
      · have := ((hit_iff _ _ _).1 hx).1
        rw [if_pos hx, if_neg (by rw [← this]; exact e)]
        simp [hx]
      · rw [if_neg hx]
        simp [hx]
theorem tot_keep (t : Int) : ∀ D : List Nd, (∀ x ∈ D, 0 ≤ x.f2) → tot (keep t D) ≤ tot D
  | [], _ => Int.le_refl _
  | x :: r, h => by
    have ih := tot_keep t r (fun y hy => h y (by simp [hy]))
    have hx := h x (by simp)
    unfold keep at ih ⊢
    by_cases e : x.f0 = t
    · rw [List.filter_cons_of_neg (by simp [e])]
      simp only [tot]
      omega
    · rw [List.filter_cons_of_pos (by simp [e])]
      simp only [tot]
      omega
theorem NI.done {D : List Nd} {K : List Int} {F : Int → Int → Int} {M : Nat} (h : NI D K F M) (t : Int) : NI (keep t D) (doneK K [t]) (doneF F [t]) M := by
  refine ⟨fun s q => ?_, h.nd.filter _, fun x hx => ?_, ?_, fun x hx => h.pos x (List.mem_filter.1 hx).1, Int.le_trans (tot_keep t D h.pos) h.tot, Nat.le_trans (List.length_filter_le _ _) h.len⟩
  · rw [lk_keep]
    simp only [doneF, updF]
    by_cases e : s = t
    · rw [if_pos e, if_pos e]
    · rw [if_neg e, if_neg e]
      exact h.need s q
  · have h1 := List.mem_filter.1 hx
    refine List.mem_filter.2 ⟨h.mem x h1.1, ?_⟩
    simpa using h1.2
  · exact h.uq.sublist (List.Sublist.map key List.filter_sublist)

/-! ### the law's own sums -/
def ownF (t p : Int) : List Nd → Int → Int
  | [], o => o
  | x :: r, o => ownF t p r (if x.f1 = p then (if x.f0 = t then x.f2 else o) else o)
theorem ownF_none (t p : Int) : ∀ (D : List Nd) (o : Int), (t, p) ∉ D.map key → ownF t p D o = o
  | [], _, _ => rfl
  | x :: r, o, h => by
    simp only [List.map_cons, List.mem_cons, not_or] at h
    simp only [ownF]
    rw [ownF_none t p r _ h.2]
    split
    · split
      · rename_i e1 e2
        exact absurd (by simp [key, e1, e2]) h.1
      · rfl
    · rfl
theorem ownF_lk (t p : Int) : ∀ D : List Nd, (D.map key).Nodup → ownF t p D 0 = lk D t p
  | [], _ => rfl
  | x :: r, h => by
    simp only [List.map_cons, List.nodup_cons] at h
    simp only [ownF, lk]
    by_cases hx : hit x t p = true
    · obtain ⟨e1, e2⟩ := (hit_iff _ _ _).1 hx
      rw [if_pos e2, if_pos e1, if_pos hx]
      refine ownF_none t p r _ ?_
      have := h.1
      simpa [key, e1, e2] using this
    · rw [if_neg hx]
      have : (if x.f1 = p then (if x.f0 = t then x.f2 else 0) else 0) = 0 := by
        split
        · split
          · rename_i e1 e2
            exact absurd ((hit_iff _ _ _).2 ⟨e2, e1⟩) hx
          · rfl
        · rfl
      rw [this]
      exact ownF_lk t p r h.2
theorem ownF_snoc (t p : Int) (x : Nd) : ∀ (D : List Nd) (o : Int), ownF t p (D ++ [x]) o = if x.f1 = p then (if x.f0 = t then x.f2 else ownF t p D o) else ownF t p D o
  | [], _ => rfl
  | y :: r, o => by
    simp only [List.cons_append, ownF]
    exact ownF_snoc t p x r _
theorem allD_snoc (p : Int) (x : Nd) : ∀ D : List Nd, allD p (D ++ [x]) = allD p D + if x.f1 = p then x.f2 else 0
  | [] => by simp [allD]
  | y :: r => by
    simp only [List.cons_append, allD, allD_snoc p x r]
    omega

/-- What a walk through the notes finds. -/
def findV (D : List Nd) (t p : Int) : Int := if idx D t p < D.length then (idx D t p : Int) else -1
theorem find_l (D : List Nd) (t p : Int) (hD : (D.length : Int) ≤ 100000) : ∀ (d i k : Nat), i + d = idx D t p → d < k → quadrigalaw16_find.l0 k D t p i = some (findV D t p)
  | 0, i, k, hi, hk => by
    obtain ⟨k, rfl⟩ : ∃ m, k = m + 1 := ⟨k - 1, by omega⟩
    simp only [quadrigalaw16_find.l0]
    have hle := idx_le t p D
    unfold findV
    by_cases h : idx D t p < D.length
    · have hx := (idx_at t p D z47 h).1
      obtain ⟨e1, e2⟩ := (hit_iff _ _ _).1 hx
      obtain rfl : i = idx D t p := by omega
      rw [if_pos (by omega), if_pos (by omega), if_pos h]
      have hrd : rd_T47 D (idx D t p : Int) = D.getD (idx D t p) z47 := by simp [rd_T47]
      rw [hrd]
      rw [if_pos e1, if_pos e2]
    · rw [if_neg (by omega), if_neg h]
  | d + 1, i, k, hi, hk => by
    obtain ⟨k, rfl⟩ : ∃ m, k = m + 1 := ⟨k - 1, by omega⟩
    simp only [quadrigalaw16_find.l0]
    have hle := idx_le t p D
    have hx := idx_ahead t p D i z47 (by omega)
    rw [if_pos (by omega), if_pos (by omega)]
    have hrd : rd_T47 D (i : Int) = D.getD i z47 := by simp [rd_T47]
    rw [hrd]
    have hw : wrap64 ((i : Int) + 1) = ((i + 1 : Nat) : Int) := by unfold wrap64; omega
    have ih := find_l D t p hD d (i + 1) k (by omega) (by omega)
    rw [hw, ih]
    by_cases e1 : (D.getD i z47).f0 = t
    · have e2 : ¬ (D.getD i z47).f1 = p := fun e2 => by
        rw [(hit_iff _ _ _).2 ⟨e1, e2⟩] at hx
        cases hx
      rw [if_pos e1, if_neg e2]
    · rw [if_neg e1]
theorem find_any (A : Option Addr) (c : Nat) (D : List Nd) (t p : Int) (w : World) (hr : Kd.C k47 w A D.length D) (hc : D.length ≤ c) (hD : (D.length : Int) ≤ 100000) :
    Calls Try.prog 30 #[.slice A D.length c, .int .i64 t, .int .i64 p] w fun e w' => e = .returned (.int .i64 (findV D t p)) ∧ Drawn0 w w' :=
  quadrigalaw16_find.calls (idx D t p + 1) A c D t p _ w hr hc (find_l D t p hD (idx D t p) 0 _ (by omega) (by omega))

end Go.Proofs.Ytlicobfjeajcfaa
