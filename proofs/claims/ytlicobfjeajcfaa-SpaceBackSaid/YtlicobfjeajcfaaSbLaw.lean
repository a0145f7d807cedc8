/-
  SpaceBack: the plain law: what four transactions do to a page, and taking it back.
-/
import Derived.Test.YtlicobfjeajcfaaQ17x0
import Derived.Test.YtlicobfjeajcfaaSpE
namespace Go.Proofs.Ytlicobfjeajcfaa
open Go.RowKit Go.Maps Go.Proofs.Ytlicobfjeajcfaa.Q17
set_option linter.unusedVariables false

/-- A need behind one move. -/
def stepN (b : Bool) (n : Int) : Int := if b then n + 1 else max (n - 1) 0
/-- What one move adds to the cells. -/
def dlt (b : Bool) : Int := if b then -1 else 1
/-- A transaction's need behind all moves. -/
def needs (t : Int) : List S30 → Int → Int
  | [], n => n
  | ⟨u, b⟩ :: r, n => needs t r (if u = t then stepN b n else n)
def delta : List S30 → Int
  | [] => 0
  | ⟨_, b⟩ :: r => dlt b + delta r
def needF (D : List S30) (t : Int) : Int := needs t D 0
/-- All four needs. -/
def sum4 (D : List S30) : Int := needF D 0 + needF D 1 + needF D 2 + needF D 3

theorem stepN_nonneg (b : Bool) (n : Int) (h : 0 ≤ n) : 0 ≤ stepN b n := by
  unfold stepN; split <;> omega
theorem step_dlt (b : Bool) (n : Int) (h : 0 ≤ n) : n ≤ stepN b n + dlt b := by
  unfold stepN dlt; cases b <;> simp <;> omega
theorem needs_append (t : Int) : ∀ (A B : List S30) (n : Int), needs t (A ++ B) n = needs t B (needs t A n)
  | [], _, _ => rfl
  | ⟨u, b⟩ :: r, B, n => by simp only [List.cons_append, needs]; exact needs_append t r B _
theorem needs_none (t : Int) : ∀ (B : List S30) (n : Int), (∀ x ∈ B, x.f0 ≠ t) → needs t B n = n
  | [], _, _ => rfl
  | ⟨u, b⟩ :: r, n, h => by
    simp only [needs]
    rw [if_neg (h ⟨u, b⟩ (by simp)), needs_none t r n (fun x hx => h x (by simp [hx]))]
theorem needs_nonneg (t : Int) : ∀ (B : List S30) (n : Int), 0 ≤ n → 0 ≤ needs t B n
  | [], _, h => h
  | ⟨u, b⟩ :: r, n, h => by
    simp only [needs]
    split
    · exact needs_nonneg t r _ (stepN_nonneg b n h)
    · exact needs_nonneg t r n h
theorem delta_append : ∀ (A B : List S30), delta (A ++ B) = delta A + delta B
  | [], _ => by simp [delta]
  | ⟨u, b⟩ :: r, B => by simp only [List.cons_append, delta, delta_append r B]; omega
/-- Taking back a transaction's last move: the other needs stay, its own goes back by the move. -/
theorem needF_back (A B : List S30) (t : Int) (b : Bool) (hB : ∀ x ∈ B, x.f0 ≠ t) (s : Int) :
    needF (A ++ ⟨t, b⟩ :: B) s = (if s = t then stepN b (needF (A ++ B) t) else needF (A ++ B) s) := by
  unfold needF
  rw [needs_append, needs]
  by_cases h : s = t
  · subst h
    rw [if_pos rfl, if_pos rfl, needs_none s B _ hB, needs_append, needs_none s B _ hB]
  · rw [if_neg (fun e => h e.symm), if_neg h, needs_append]
theorem back_le (A B : List S30) (t : Int) (b : Bool) (hB : ∀ x ∈ B, x.f0 ≠ t) (ht : t = 0 ∨ t = 1 ∨ t = 2 ∨ t = 3) :
    delta (A ++ B) + sum4 (A ++ B) ≤ delta (A ++ ⟨t, b⟩ :: B) + sum4 (A ++ ⟨t, b⟩ :: B) := by
  have hd : delta (A ++ ⟨t, b⟩ :: B) = delta (A ++ B) + dlt b := by
    rw [delta_append, delta_append]
    simp only [delta]
    omega
  have hs := needF_back A B t b hB
  have hn : 0 ≤ needF (A ++ B) t := needs_nonneg t _ 0 (Int.le_refl _)
  have h1 := step_dlt b _ hn
  unfold sum4
  rw [hd, hs 0, hs 1, hs 2, hs 3]
  rcases ht with rfl | rfl | rfl | rfl <;> simp <;> omega
theorem sum4_nonneg (D : List S30) : 0 ≤ sum4 D := by
  have h := fun t => needs_nonneg t D 0 (Int.le_refl _)
  have h0 := h 0; have h1 := h 1; have h2 := h 2; have h3 := h 3
  unfold sum4 needF
  omega

/-! ### the book beside it -/
theorem sum_four (g : Int → Int) : ∀ K : List Int, K.Nodup → (∀ t ∈ K, 0 ≤ t ∧ t ≤ 3) → (K.map g).sum = (if (0 : Int) ∈ K then g 0 else 0) + (if (1 : Int) ∈ K then g 1 else 0) + (if (2 : Int) ∈ K then g 2 else 0) + (if (3 : Int) ∈ K then g 3 else 0)
  | [], _, _ => by simp
  | a :: r, hn, hs => by
    have ih := sum_four g r (List.nodup_cons.1 hn).2 (fun t ht => hs t (by simp [ht]))
    have ha := (List.nodup_cons.1 hn).1
    have hb := hs a (by simp)
    have : a = 0 ∨ a = 1 ∨ a = 2 ∨ a = 3 := by omega
    simp only [List.map_cons, List.sum_cons, ih]
    rcases this with rfl | rfl | rfl | rfl <;> simp [ha] <;> omega

theorem needs_zero (t : Int) (D : List S30) (h : ∀ x ∈ D, x.f0 ≠ t) : needF D t = 0 := needs_none t D 0 h

structure BI (n0 n : Int) (D : List S30) (K : List Int) (F : Int → Int → Int) : Prop where
  n0r : 0 ≤ n0 ∧ n0 ≤ 8
  eq : n = n0 + delta D
  pos : 0 ≤ n
  room : n + sum4 D ≤ 8
  need : ∀ t, F t 3 = needF D t
  nd : K.Nodup
  sub : ∀ t ∈ K, 0 ≤ t ∧ t ≤ 3
  mem : ∀ x ∈ D, x.f0 ∈ K

variable {n0 n : Int} {D : List S30} {K : List Int} {F : Int → Int → Int}

theorem needF_nonneg (D : List S30) (t : Int) : 0 ≤ needF D t := needs_nonneg t D 0 (Int.le_refl _)
theorem needF_le (D : List S30) (t : Int) (ht : 0 ≤ t ∧ t ≤ 3) : needF D t ≤ sum4 D := by
  have h0 := needF_nonneg D 0; have h1 := needF_nonneg D 1; have h2 := needF_nonneg D 2; have h3 := needF_nonneg D 3
  unfold sum4
  have : t = 0 ∨ t = 1 ∨ t = 2 ∨ t = 3 := by omega
  rcases this with rfl | rfl | rfl | rfl <;> omega

theorem BI.all (h : BI n0 n D K F) : (K.map (fun t => F t 3)).sum = sum4 D := by
  rw [sum_four _ K h.nd h.sub]
  have z : ∀ t, ¬ t ∈ K → needF D t = 0 := fun t ht => needs_zero t D (fun x hx e => ht (e ▸ h.mem x hx))
  have e : ∀ t, (if t ∈ K then F t 3 else 0) = needF D t := by
    intro t
    split
    · exact h.need t
    · rename_i m
      exact (z t m).symm
  rw [e, e, e, e]
  rfl
theorem BI.allV (h : BI n0 n D K F) : allV K F 3 = sum4 D := by
  have hr := h.room
  have hp := h.pos
  have hs := sum4_nonneg D
  unfold Go.Proofs.Ytlicobfjeajcfaa.allV
  rw [h.all]
  unfold wrap64
  omega

theorem needF_snoc (D : List S30) (t : Int) (b : Bool) (s : Int) : needF (D ++ [⟨t, b⟩]) s = if s = t then stepN b (needF D t) else needF D s := by
  have h := needF_back D [] t b (by simp) s
  simpa using h
theorem delta_snoc (D : List S30) (t : Int) (b : Bool) : delta (D ++ [⟨t, b⟩]) = delta D + dlt b := by
  rw [delta_append]
  simp [delta]
theorem sum4_snoc (D : List S30) (t : Int) (b : Bool) (ht : 0 ≤ t ∧ t ≤ 3) : sum4 (D ++ [⟨t, b⟩]) = sum4 D - needF D t + stepN b (needF D t) := by
  unfold sum4
  rw [needF_snoc, needF_snoc, needF_snoc, needF_snoc]
  have : t = 0 ∨ t = 1 ∨ t = 2 ∨ t = 3 := by omega
  rcases this with rfl | rfl | rfl | rfl <;> simp <;> omega

theorem BI.start (n0 : Int) (h : 0 ≤ n0 ∧ n0 ≤ 8) : BI n0 n0 [] [] (fun _ _ => 0) :=
  ⟨h, by simp [delta], h.1, by simp [sum4, needF, needs]; omega, fun t => rfl, List.nodup_nil, by simp, by simp⟩

theorem BI.step (h : BI n0 n D K F) (t : Int) (b : Bool) (x n' : Int) (ht : 0 ≤ t ∧ t ≤ 3) (hx : turnV (needF D t) x = stepN b (needF D t)) (hn' : n' = n + dlt b) (hp : 0 ≤ n') (hr : n' + (sum4 D - needF D t + stepN b (needF D t)) ≤ 8) :
    BI n0 n' (D ++ [⟨t, b⟩]) (addK K t) (updF F t (turns (F t) x [3])) := by
  refine ⟨h.n0r, by rw [delta_snoc, hn', h.eq]; omega, hp, by rw [sum4_snoc D t b ht]; exact hr, ?_, ?_, ?_, ?_⟩
  · intro s
    rw [needF_snoc]
    unfold updF
    by_cases e : s = t
    · rw [if_pos e, if_pos e, ← hx, ← h.need t]
      simp [turns, upd]
    · rw [if_neg e, if_neg e]
      exact h.need s
  · unfold addK
    split
    · exact h.nd
    · rename_i m
      exact List.nodup_cons.2 ⟨m, h.nd⟩
  · intro s hs
    unfold addK at hs
    split at hs
    · exact h.sub s hs
    · rcases List.mem_cons.1 hs with rfl | z
      · exact ht
      · exact h.sub s z
  · intro y hy
    rcases List.mem_append.1 hy with z | z
    · have := h.mem y z
      unfold addK
      split
      · exact this
      · simp [this]
    · obtain rfl := List.mem_singleton.1 z
      unfold addK
      split
      · assumption
      · simp

theorem turn_up (v : Int) (h : 0 ≤ v ∧ v ≤ 100) : turnV v 1 = stepN true v := by
  unfold turnV stepN wrap64
  simp
  omega
theorem turn_down (v : Int) (h : 0 ≤ v ∧ v ≤ 100) : turnV v (-1) = stepN false v := by
  unfold turnV stepN wrap64
  simp
  omega

theorem BI.take (h : BI n0 n D K F) (t : Int) (ht : 0 ≤ t ∧ t ≤ 3) (hn : 0 < n) : BI n0 (n - 1) (D ++ [⟨t, true⟩]) (addK K t) (updF F t (turns (F t) 1 [3])) := by
  have h1 := needF_nonneg D t
  have h2 := needF_le D t ht
  have hr := h.room
  refine h.step t true 1 (n - 1) ht (turn_up _ (by omega)) (by simp [dlt]; omega) (by omega) ?_
  simp [stepN]
  omega
theorem BI.put (h : BI n0 n D K F) (t : Int) (ht : 0 ≤ t ∧ t ≤ 3) (hm : mayK K F t 3 n = true) : BI n0 (n + 1) (D ++ [⟨t, false⟩]) (addK K t) (updF F t (turns (F t) (-1) [3])) := by
  have h1 := needF_nonneg D t
  have h2 := needF_le D t ht
  have hr := h.room
  have hp := h.pos
  have hs := sum4_nonneg D
  refine h.step t false (-1) (n + 1) ht (turn_down _ (by omega)) (by simp [dlt]) (by omega) ?_
  unfold mayK leftK at hm
  rw [h.allV, h.need t] at hm
  have hm := of_decide_eq_true hm
  unfold wrap64 at hm
  simp only [stepN]
  simp only [Bool.false_eq_true, if_false]
  omega

/-- What is left for the second loop. -/
structure BJ (n0 n : Int) (D : List S30) : Prop where
  n0r : 0 ≤ n0 ∧ n0 ≤ 8
  eq : n = n0 + delta D
  room : n + sum4 D ≤ 8
  sub : ∀ x ∈ D, 0 ≤ x.f0 ∧ x.f0 ≤ 3
theorem BI.toJ (h : BI n0 n D K F) : BJ n0 n D := ⟨h.n0r, h.eq, h.room, fun x hx => h.sub _ (h.mem x hx)⟩
theorem delta_ge : ∀ D : List S30, -(D.length : Int) ≤ delta D ∧ delta D ≤ D.length
  | [] => by simp [delta]
  | ⟨_, b⟩ :: r => by
    have := delta_ge r
    simp only [delta, List.length_cons]
    cases b <;> simp [dlt] <;> omega
theorem BJ.low (h : BJ n0 n D) : -(D.length : Int) ≤ n ∧ n ≤ 8 := by
  have h1 := delta_ge D
  have h2 := h.eq
  have h3 := h.n0r
  have h4 := h.room
  have h5 := sum4_nonneg D
  omega
theorem BJ.back (h : BJ n0 n D) (k : Nat) (hk : k < D.length) (z : S30) (hlast : ∀ j, k < j → j < D.length → (D.getD j z).f0 ≠ (D.getD k z).f0) :
    BJ n0 (n - dlt (D.getD k z).f1) (D.take k ++ D.drop (k + 1)) := by
  have hx : D.getD k z = D[k] := by simp [List.getD, hk]
  have e : D = D.take k ++ D[k] :: D.drop (k + 1) := by
    rw [← List.drop_eq_getElem_cons hk, List.take_append_drop]
  have hB : ∀ x ∈ D.drop (k + 1), x.f0 ≠ D[k].f0 := by
    intro x hx
    obtain ⟨j, hj, rfl⟩ := List.mem_iff_getElem.1 hx
    rw [List.length_drop] at hj
    have hl := hlast (k + 1 + j) (by omega) (by omega)
    rw [List.getD, List.getD, List.getElem?_eq_getElem (by omega), List.getElem?_eq_getElem hk] at hl
    rw [List.getElem_drop]
    exact hl
  have hs := h.sub D[k] (List.getElem_mem hk)
  have hle := back_le (D.take k) (D.drop (k + 1)) D[k].f0 D[k].f1 hB (by omega)
  have e2 : D.take k ++ (⟨D[k].f0, D[k].f1⟩ : S30) :: D.drop (k + 1) = D := e.symm
  rw [e2] at hle
  have hd : delta D = delta (D.take k ++ D.drop (k + 1)) + dlt D[k].f1 := by
    conv => lhs; rw [← e2]
    rw [delta_append, delta_append]
    simp only [delta]
    omega
  rw [hx]
  have h1 := h.eq
  have h2 := h.room
  refine ⟨h.n0r, by omega, by omega, ?_⟩
  intro x hx
  rcases List.mem_append.1 hx with m | m
  · exact h.sub x (List.mem_of_mem_take m)
  · exact h.sub x (List.mem_of_mem_drop m)
theorem BJ.end_ (h : BJ n0 n []) : n = n0 := by
  have := h.eq
  simpa [delta] using this
end Go.Proofs.Ytlicobfjeajcfaa
