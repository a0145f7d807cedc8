/-
  client.right: has an operation a line?
-/
import Derived.Test.YtiidffblbpoijaaDoorQ33a0
import Derived.Test.YtiidffblbpoijaaDoorRcValue
import Derived.Lib.Hide
import Derived.WalkKit
import Derived.WalkSpells
import Derived.WalkLawsBesides
import Derived.Outline
import Derived.Deep.DrawnRows
namespace Go.Proofs.YtiidffblbpoijaaDoor
open Go.RowKit Go.Proofs.YtiidffblbpoijaaDoor.Q33 Go.Proofs.YtiidffblbpoijaaDoorW.PrintWords Go.Proofs.YtiidffblbpoijaaDoorW.PrintLast Go.Proofs.YtiidffblbpoijaaDoorW.PrintMore
set_option linter.unusedVariables false
set_option linter.unusedSimpArgs false
abbrev Op := S43
abbrev zOp : Op := z43
/-- What stands behind an operation's word. -/
def partsOf (k : Int) : Int := if k = 1 then 1 else if k = 2 then 2 else if k = 3 then 7 else if k = 4 then 7 else if k = 5 then 3 else if k = 6 then 1 else if k = 7 then 1 else 0
/-- An operation's word. -/
def wordB (k : Int) : ByteArray := if k = 1 then ⟨#[98, 101, 103, 105, 110]⟩ else if k = 2 then ⟨#[114, 101, 97, 100]⟩ else if k = 3 then ⟨#[119, 114, 105, 116, 101]⟩ else if k = 4 then ⟨#[105, 110, 115, 101, 114, 116]⟩ else if k = 5 then ⟨#[100, 101, 108, 101, 116, 101]⟩ else if k = 6 then ⟨#[115, 97, 118, 101]⟩ else if k = 7 then ⟨#[98, 97, 99, 107]⟩ else if k = 8 then ⟨#[99, 111, 109, 109, 105, 116]⟩ else ⟨#[97, 98, 111, 114, 116]⟩
def verbsL : List S68 := client_verbs.f.getD []
theorem kinds {k : Int} (h1 : 1 ≤ k) (h2 : k ≤ 9) : k = 1 ∨ k = 2 ∨ k = 3 ∨ k = 4 ∨ k = 5 ∨ k = 6 ∨ k = 7 ∨ k = 8 ∨ k = 9 := by omega
theorem verbs_word (k : Int) (h1 : 1 ≤ k) (h2 : k ≤ 9) : (rd_T68 verbsL (k - 1)).f0 = wordB k ∧ (rd_T68 verbsL (k - 1)).f1 = partsOf k := by
  rcases kinds h1 h2 with rfl | rfl | rfl | rfl | rfl | rfl | rfl | rfl | rfl <;> exact ⟨rfl, rfl⟩
theorem verbs_any (w : World) : Calls Tryd.prog 26 #[] w fun e w' => ∃ A c, e = .returned (.slice A 9 c) ∧ 9 ≤ c ∧ Kd.C k68 w' A 9 verbsL ∧ Below w.heap.size w w' := by
  refine (client_verbs.calls verbsL w rfl).mono ?_
  rintro e w' ⟨v, rfl, hR, hb⟩
  obtain ⟨A, c, rfl, hc, hC⟩ := Kd.R_reads hR
  exact ⟨A, c, rfl, hc, hC, hb⟩
theorem verbs_at (k : Int) (h1 : 1 ≤ k) (h2 : k ≤ 9) (w : World) : Calls Tryd.prog 26 #[] w fun e w' => ∃ ad c, e = .returned (.slice (some ad) 9 c) ∧ 9 ≤ c ∧ w'.cell? (ad.add ((k - 1).toNat * 2)) = some (.string (wordB k)) ∧ w'.cell? ⟨(ad.add ((k - 1).toNat * 2)).block, (ad.add ((k - 1).toNat * 2)).off + 1, none⟩ = some (.int .i64 (partsOf k)) ∧ Below w.heap.size w w' := by
  refine (verbs_any w).mono ?_
  rintro e w' ⟨A, c, rfl, hc, hC, hb⟩
  obtain ⟨ad, rfl, h3, h4⟩ := at_T68 hC (k - 1) (by omega) (by omega)
  rw [(verbs_word k h1 h2).1] at h3
  rw [(verbs_word k h1 h2).2] at h4
  exact ⟨ad, c, rfl, hc, h3, h4, hb⟩
theorem idx_at (ad : Addr) (c : Nat) (i : Int) (h0 : 0 ≤ i) (h9 : i < 9) (W : World) : (Instr.indexAt 66 (.slice (some ad) 9 c) (.int .i64 i)).run Tryd.prog W = .ok (.pointer (some (ad.add (i.toNat * 2)))) W := by
  rw [run_indexAt_slice (h := by kernel_rfl)]
  have h : 0 ≤ i ∧ i < ((9 : Nat) : Int) := ⟨h0, h9⟩
  have e : Tryd.prog.elem 66 = 68 := by kernel_rfl
  rw [if_pos h, e, Tryd.sizeOf68 W]
  rfl
theorem keyOne (W : World) (s : ByteArray) (g : Nat) (hg : W.heap[g]? = some (.cells #[.string s] 9 (0, 0))) : Calls Tryd.prog 44 #[.slice (some ⟨g, 0, none⟩) 1 1] W fun e w' => e = .returned (.bool (keyB s)) ∧ Below W.heap.size W w' := by
  have hC : Kd.C Kd.string W (some ⟨g, 0, none⟩) [s].length [s] := by
    refine ⟨rfl, by simp, fun _ => ⟨_, rfl, fun j p hj => ?_⟩⟩
    cases j with
    | zero =>
      obtain rfl := Option.some.inj hj
      refine ⟨[.string s], rfl, rfl, fun i u hu => ?_⟩
      have := blk_cell hg i
      rw [add_plain]
      simp only [Nat.zero_mul, Nat.zero_add]
      rw [this]
      rw [← Array.getElem?_toList]
      exact hu
    | succ j => simp at hj
  exact record_Key.calls _ 1 [s] (keyB s) _ hC (Nat.le_refl _) (by simp [record_Key.f])
theorem valOne (W : World) (s : ByteArray) (g : Nat) (hg : W.heap[g]? = some (.cells #[.bool true, .string s] 23 (0, 0))) : Calls Tryd.prog 45 #[.slice (some ⟨g, 0, none⟩) 1 1] W fun e w' => e = .returned (.bool (decide (s.size ≤ 16))) ∧ Below W.heap.size W w' := by
  have hC : Kd.C k23 W (some ⟨g, 0, none⟩) [(⟨true, s⟩ : S23)].length [⟨true, s⟩] := by
    refine ⟨rfl, by simp, fun _ => ⟨_, rfl, fun j p hj => ?_⟩⟩
    cases j with
    | zero =>
      obtain rfl := Option.some.inj hj
      refine ⟨_, rfl, k23_mk _ _, fun i u hu => ?_⟩
      have := blk_cell hg i
      rw [add_plain]
      simp only [Nat.zero_mul, Nat.zero_add]
      rw [this]
      rw [← Array.getElem?_toList]
      exact hu
    | succ j => simp at hj
  exact record_Value.calls _ 1 [⟨true, s⟩] (decide (s.size ≤ 16)) _ hC (Nat.le_refl _) (by simp [record_Value.f, valB])
theorem has_any (s : ByteArray) (W : World) : Calls Tryd.prog 46 #[.string s] W fun e w' => e = .returned (.agg #[.bool true, .string s]) ∧ Below W.heap.size W w' := by
  refine (record_Has.calls s true s W rfl).mono ?_
  rintro e w' ⟨rfl, h⟩
  exact ⟨rfl, h⟩
theorem empty_facts (s : ByteArray) : (s.size = 0 ∧ s.toList.isEmpty = true ∧ s.toList = []) ∨ (¬ s.size = 0 ∧ s.toList.isEmpty = false ∧ ¬ s.toList = []) := by
  by_cases h : s.size = 0
  · have h2 := toList_nil.2 h
    exact .inl ⟨h, by rw [h2]; rfl, h2⟩
  · have h2 : ¬ s.toList = [] := fun e => h (toList_nil.1 e)
    exact .inr ⟨h, by cases h3 : s.toList with | nil => exact absurd h3 h2 | cons a r => rfl, h2⟩
theorem vclass (s : ByteArray) : s.size ≤ 16 ∨ (¬ s.size ≤ 16 ∧ ¬ s.size = 0 ∧ s.toList.isEmpty = false ∧ ¬ s.toList = []) := by
  by_cases h : s.size ≤ 16
  · exact .inl h
  · rcases empty_facts s with ⟨h0, _⟩ | ⟨h0, h1, h2⟩
    · omega
    · exact .inr ⟨h, h0, h1, h2⟩
/-- Is its number, its key, its value right? -/
def numO (p n : Int) : Bool := (decide (p = 1 ∨ p = 3 ∨ p = 7) && decide (0 ≤ n) && decide (n ≤ 255)) || decide (n = 0)
def keyO (p : Int) (s : ByteArray) : Bool := if p = 2 ∨ p = 3 ∨ p = 7 then keyB s else decide (s.size = 0)
def valO (p : Int) (s : ByteArray) : Bool := (decide (p = 7) && decide (s.size ≤ 16)) || decide (s.size = 0)
/-- Has an operation a line? -/
def rightO (x : Op) : Bool :=
  decide (1 ≤ x.f0) && decide (x.f0 ≤ 9) && (numO (partsOf x.f0) x.f1 && (keyO (partsOf x.f0) x.f2 && valO (partsOf x.f0) x.f3))
set_option maxRecDepth 100000 in
set_option maxHeartbeats 8000000 in
theorem right_calls (x : Op) (w : World) : Calls Tryd.prog 30 #[.agg #[.int .i64 x.f0, .int .i64 x.f1, .string x.f2, .string x.f3]] w fun e w' => e = .returned (.bool (rightO x)) ∧ Below w.heap.size w w' := by
  obtain ⟨kd, n, key, val⟩ := x
  have hb0 : Below w.heap.size w (w.alloc (.cells #[.int .i64 kd, .int .i64 n, .string key, .string val] 43)) := (Below.refl _ _).alloc (Nat.le_refl _) _
  by_cases h1 : kd < 1
  · have hr : rightO ⟨kd, n, key, val⟩ = false := by
      unfold rightO
      rw [show decide (1 ≤ kd) = false from decide_eq_false (by omega)]
      rfl
    rw [hr]
    clear hr
    go_enter Tryd.func30, Tryd.ntmps30
    go_wp2
    go_ret
    exact ⟨rfl, by repeat (first | exact hb0 | apply below_alloc | apply pw_below_drewN | apply below_drew1)⟩
  · by_cases h2 : 9 < kd
    · have hr : rightO ⟨kd, n, key, val⟩ = false := by
        unfold rightO
        rw [show decide (kd ≤ 9) = false from decide_eq_false (by omega), Bool.and_false]
        rfl
      rw [hr]
      clear hr
      go_enter Tryd.func30, Tryd.ntmps30
      go_wp2
      go_ret
      exact ⟨rfl, by repeat (first | exact hb0 | apply below_alloc | apply pw_below_drewN | apply below_drew1)⟩
    · have hv := fun W => verbs_at kd (by omega) (by omega) W
      obtain ⟨p, hp⟩ : ∃ p, p = partsOf kd := ⟨_, rfl⟩
      have hpc : p = 0 ∨ p = 1 ∨ p = 2 ∨ p = 3 ∨ p = 7 := by
        rw [hp]
        rcases kinds (k := kd) (by omega) (by omega) with rfl | rfl | rfl | rfl | rfl | rfl | rfl | rfl | rfl <;> decide
      have hr : rightO ⟨kd, n, key, val⟩ = (numO p n && (keyO p key && valO p val)) := by
        unfold rightO
        rw [show decide (1 ≤ kd) = true from decide_eq_true (by omega), show decide (kd ≤ 9) = true from decide_eq_true (by omega), hp]
        rfl
      rw [hr]
      obtain ⟨r, hr3⟩ : ∃ r, r = (numO p n && (keyO p key && valO p val)) := ⟨_, rfl⟩
      rw [← hr3]
      have Hr := Lib.hid hr3
      clear hr3
      rw [← hp] at hv
      obtain ⟨i, hi⟩ : ∃ i, kd - 1 = i := ⟨_, rfl⟩
      rw [hi] at hv
      have HV := Lib.hid hv
      have hw : IntKind.i64.wrap (kd - 1) = i := by rw [IntKind.wrap_i64]; omega
      have hw2 : wrap64 i = i := by unfold wrap64; omega
      have hk0 : 0 ≤ i := by omega
      have hk9 : i < 9 := by omega
      have h1' : ¬ kd < 1 := h1
      have HBX := Lib.hid (heap_alloc_new w (.cells #[.int .i64 kd, .int .i64 n, .string key, .string val] 43))
      have HBel := Lib.hid hb0
      clear hr hv hp hb0
      go_enter Tryd.func30, Tryd.ntmps30
      go_wp2
      trace_state
      refine start_ (n := 8) (S := fun w' => w'.heap[w.heap.size]? = some (.cells #[.int .i64 kd, .int .i64 n, .string key, .string val] 43 (0, 0))) (ds := []) #[false, false, false, false, false, false, false, false] (by kernel_rfl) rfl rfl HBX.out ?_
      intro hHeld
      have HB0 : Hid (Below w.heap.size w (w.alloc (.cells #[.int .i64 kd, .int .i64 n, .string key, .string val] 43)).drew) := Lib.hid (pw_below_drewN HBel.out 1)
      generalize (w.alloc (.cells #[.int .i64 kd, .int .i64 n, .string key, .string val] 43)).drew = wd at *
      refine pure_ (i := 1) (N := some 16) (v := ?_) (a' := ?_) #[false, true, false, false, false, false, false, false] rfl rfl (by as_aux_lemma => kernel_rfl) (fun _ _ _ h => h) (Or.inl ⟨by rfl, ?_⟩) ?_ ?_
      rotate_left
      · intro w'
        (go_simp; with_reducible rfl)
      (rotate_left; focus (simp only [Act.put, List.setIfInBounds_toArray, List.set_cons_zero, List.set_cons_succ, i64_w, i32_w]; rfl))
      refine take_ (i := 2) (N := some 17) (v := ?_) (a' := ?_) #[false, true, true, false, false, false, false, false] rfl rfl (by as_aux_lemma => kernel_rfl) (fun _ _ _ h => h) (Or.inl ⟨by rfl, ?_⟩) hHeld ?_ ?_
      rotate_left
      · intro w' hS
        have x0 : w'.cell? ⟨w.heap.size, 0, none⟩ = some (.int .i64 kd) := (blk_cell hS 0).trans rfl
        (go_simp; with_reducible rfl)
      (rotate_left; focus (simp only [Act.put, List.setIfInBounds_toArray, List.set_cons_zero, List.set_cons_succ, i64_w, i32_w]; rfl))
      refine pure_ (i := 3) (N := some 18) (v := ?_) (a' := ?_) #[false, true, true, true, false, false, false, false] rfl rfl (by as_aux_lemma => kernel_rfl) (fun _ _ _ h => h) (Or.inl ⟨by rfl, ?_⟩) ?_ ?_
      rotate_left
      · intro w'
        (go_simp; with_reducible rfl)
      (rotate_left; focus (simp only [Act.put, List.setIfInBounds_toArray, List.set_cons_zero, List.set_cons_succ, i64_w, i32_w]; rfl))
      refine one_ (i := 0) (N := some 15) #[true, true, true, true, false, false, false, false] rfl rfl (by as_aux_lemma => kernel_rfl) (by decide) (fun K hK => ?_)
      refine goes_ Tryd.func26 (by kernel_rfl) rfl #[] (by rfl) rfl rfl (by (try simp only [List.map_toArray, List.map_cons, List.map_nil]); first | done | rfl) ?_
      refine (HV.out _).mono ?_
      rintro e w1 ⟨ad, c, rfl, hc9, hw1, hw2, hb1⟩
      refine ⟨_, rfl, ?_⟩
      obtain ⟨pa, hpa⟩ : ∃ pa, pa = ad.add (i.toNat * 2) := ⟨_, rfl⟩
      rw [← hpa] at hw1 hw2
      have hia := idx_at ad c i hk0 hk9
      rw [← hpa] at hia
      clear hpa
      have HB1 := Lib.hid (below_step HB0.out hb1)
      refine hK.out _ _ (blk_below hHeld hb1) ?_
      intro hHeld
      clear hK K hb1
      refine norm_ (a' := ?_) ?_ ?_
      (rotate_left; focus (simp only [Act.put, List.setIfInBounds_toArray, List.set_cons_zero, List.set_cons_succ, i64_w, i32_w]; rfl))
      refine pure_ (i := 4) (N := some 19) (v := ?_) (a' := ?_) #[true, true, true, true, true, false, false, false] rfl rfl (by as_aux_lemma => kernel_rfl) (fun _ _ _ h => h) (Or.inl ⟨by rfl, ?_⟩) ?_ ?_
      rotate_left
      · intro w'
        (go_simp; with_reducible rfl)
      (rotate_left; focus (simp only [Act.put, List.setIfInBounds_toArray, List.set_cons_zero, List.set_cons_succ, i64_w, i32_w]; rfl))
      refine pure_ (i := 5) (N := some 20) (v := ?_) (a' := ?_) #[true, true, true, true, true, true, false, false] rfl rfl (by as_aux_lemma => kernel_rfl) (fun _ _ _ h => h) (Or.inl ⟨by rfl, ?_⟩) ?_ ?_
      rotate_left
      · intro w'
        (go_simp; with_reducible rfl)
      (rotate_left; focus (simp only [Act.put, List.setIfInBounds_toArray, List.set_cons_zero, List.set_cons_succ, i64_w, i32_w]; rfl))
      refine one_ (i := 6) (N := some 21) #[true, true, true, true, true, true, true, false] rfl rfl (by as_aux_lemma => kernel_rfl) (by decide) (fun K hK => ?_)
      refine value_ (v := .int .i64 p) (by rfl) rfl (by go_simp; with_reducible rfl) ?_
      refine hK.out _ _ hHeld ?_
      intro hHeld
      clear hK K
      refine norm_ (a' := ?_) ?_ ?_
      (rotate_left; focus (simp only [Act.put, List.setIfInBounds_toArray, List.set_cons_zero, List.set_cons_succ, i64_w, i32_w]; rfl))
      refine one_ (i := 7) (N := some 3) #[true, true, true, true, true, true, true, true] rfl rfl (by as_aux_lemma => kernel_rfl) (by decide) (fun K hK => ?_)
      refine value_ (v := .int .i64 p) (by rfl) rfl (by first | rfl | (go_simp; done) | (go_simp; rfl)) ?_
      refine hK.out _ _ hHeld ?_
      intro hHeld
      clear hK K
      refine norm_ (a' := ?_) ?_ ?_
      (rotate_left; focus (simp only [Act.put, List.setIfInBounds_toArray, List.set_cons_zero, List.set_cons_succ, i64_w, i32_w]; rfl))
      refine done_ (by as_aux_lemma => kernel_rfl) ?_
      clear hw hw2
      have x1 : w1.cell? ⟨w.heap.size, 1, none⟩ = some (.int .i64 n) := (blk_cell hHeld 1).trans rfl
      have x2 : w1.cell? ⟨w.heap.size, 2, none⟩ = some (.string key) := (blk_cell hHeld 2).trans rfl
      have x3 : w1.cell? ⟨w.heap.size, 3, none⟩ = some (.string val) := (blk_cell hHeld 3).trans rfl
      have HH := Lib.hid hHeld
      clear hHeld hia hw1 hw2 HV HBX HBel hk0 hk9 hi h1 h1' h2 HB0
      have hke := empty_facts key
      have hve := empty_facts val
      rcases hpc with rfl | rfl | rfl | rfl | rfl
      · rcases (by omega : n = 0 ∨ ¬ n = 0) with rfl | a1
        all_goals rcases hve with ⟨v0, v1, v2⟩ | ⟨v0, v1, v2⟩
        all_goals rcases hke with ⟨k0, k1, k2⟩ | ⟨k0, k1, k2⟩
        all_goals go_wp2
        all_goals go_ret
        all_goals refine ⟨?_, by repeat (first | exact HB4.out | exact HB3.out | exact HB2.out | exact HB1.out | apply below_alloc | apply pw_below_drewN | apply below_drew1)⟩
        all_goals rw [Hr.out]
        all_goals first | rfl | (simp [numO, keyO, valO, a1, k0, v0]; done) | (simp [numO, keyO, valO, *]; done) | (simp [numO, keyO, valO, *]; omega) | (simp [numO, keyO, valO, a1, k0, v0]; omega) | (simp [numO, keyO, valO, a1, k0, v0, show ¬ n < 0 by omega, show ¬ 255 < n by omega]; done)
      · rcases (by omega : (0 ≤ n ∧ n ≤ 255) ∨ n < 0 ∨ 255 < n) with ⟨a1, a2⟩ | a1 | a1
        all_goals rcases hve with ⟨v0, v1, v2⟩ | ⟨v0, v1, v2⟩
        all_goals rcases hke with ⟨k0, k1, k2⟩ | ⟨k0, k1, k2⟩
        all_goals go_wp2
        all_goals go_ret
        all_goals refine ⟨?_, by repeat (first | exact HB4.out | exact HB3.out | exact HB2.out | exact HB1.out | apply below_alloc | apply pw_below_drewN | apply below_drew1)⟩
        all_goals rw [Hr.out]
        all_goals first | rfl | (simp [numO, keyO, valO, a1, k0, v0]; done) | (simp [numO, keyO, valO, *]; done) | (simp [numO, keyO, valO, *]; omega) | (simp [numO, keyO, valO, a1, k0, v0]; omega) | (simp [numO, keyO, valO, a1, k0, v0, show ¬ n < 0 by omega, show ¬ 255 < n by omega]; done)
      · rcases (by omega : n = 0 ∨ ¬ n = 0) with rfl | a1
        all_goals rcases hve with ⟨v0, v1, v2⟩ | ⟨v0, v1, v2⟩
        all_goals clear hke
        all_goals cases hkb : keyB key
        all_goals go_wp2_with (first | (go_at_call 44; refine (keyOne _ key _ (heap_alloc_new _ _)).mono ?_; rintro e w2 ⟨rfl, hb2⟩; have HB2 := Lib.hid (below_step (by repeat (first | exact HB1.out | apply below_alloc | apply pw_below_drewN | apply below_drew1)) hb2); have hg2 := blk_below (g := w.heap.size) (blk_alloc HH.out _) hb2; have y3 : w2.cell? ⟨w.heap.size, 3, none⟩ = some (.string val) := (blk_cell hg2 3).trans rfl; have HG2 := Lib.hid hg2; clear hb2 hg2))
        all_goals go_ret
        all_goals refine ⟨?_, by repeat (first | exact HB4.out | exact HB3.out | exact HB2.out | exact HB1.out | apply below_alloc | apply pw_below_drewN | apply below_drew1)⟩
        all_goals rw [Hr.out]
        all_goals first | rfl | (simp [numO, keyO, valO, a1, hkb, v0]; done) | (simp [numO, keyO, valO, *]; done) | (simp [numO, keyO, valO, *]; omega) | (simp [numO, keyO, valO, a1, hkb, v0]; omega) | (simp [numO, keyO, valO, a1, hkb, v0, show ¬ n < 0 by omega, show ¬ 255 < n by omega]; done)
      · rcases (by omega : (0 ≤ n ∧ n ≤ 255) ∨ n < 0 ∨ 255 < n) with ⟨a1, a2⟩ | a1 | a1
        all_goals rcases hve with ⟨v0, v1, v2⟩ | ⟨v0, v1, v2⟩
        all_goals clear hke
        all_goals cases hkb : keyB key
        all_goals go_wp2_with (first | (go_at_call 44; refine (keyOne _ key _ (heap_alloc_new _ _)).mono ?_; rintro e w2 ⟨rfl, hb2⟩; have HB2 := Lib.hid (below_step (by repeat (first | exact HB1.out | apply below_alloc | apply pw_below_drewN | apply below_drew1)) hb2); have hg2 := blk_below (g := w.heap.size) (blk_alloc HH.out _) hb2; have y3 : w2.cell? ⟨w.heap.size, 3, none⟩ = some (.string val) := (blk_cell hg2 3).trans rfl; have HG2 := Lib.hid hg2; clear hb2 hg2))
        all_goals go_ret
        all_goals refine ⟨?_, by repeat (first | exact HB4.out | exact HB3.out | exact HB2.out | exact HB1.out | apply below_alloc | apply pw_below_drewN | apply below_drew1)⟩
        all_goals rw [Hr.out]
        all_goals first | rfl | (simp [numO, keyO, valO, a1, hkb, v0]; done) | (simp [numO, keyO, valO, *]; done) | (simp [numO, keyO, valO, *]; omega) | (simp [numO, keyO, valO, a1, hkb, v0]; omega) | (simp [numO, keyO, valO, a1, hkb, v0, show ¬ n < 0 by omega, show ¬ 255 < n by omega]; done)
      · rcases (by omega : (0 ≤ n ∧ n ≤ 255) ∨ n < 0 ∨ 255 < n) with ⟨a1, a2⟩ | a1 | a1
        all_goals clear hve
        all_goals rcases (vclass val) with v16 | ⟨v16, v0, v1, v2⟩
        all_goals clear hke
        all_goals cases hkb : keyB key
        all_goals go_wp2_with (first | (go_at_call 44; refine (keyOne _ key _ (heap_alloc_new _ _)).mono ?_; rintro e w2 ⟨rfl, hb2⟩; have HB2 := Lib.hid (below_step (by repeat (first | exact HB1.out | apply below_alloc | apply pw_below_drewN | apply below_drew1)) hb2); have hg2 := blk_below (g := w.heap.size) (blk_alloc HH.out _) hb2; have y3 : w2.cell? ⟨w.heap.size, 3, none⟩ = some (.string val) := (blk_cell hg2 3).trans rfl; have HG2 := Lib.hid hg2; clear hb2 hg2) | (go_at_call 46; refine (has_any val _).mono ?_; rintro e w3 ⟨rfl, hb3⟩; have HB3 := Lib.hid (below_step (by repeat (first | exact HB2.out | apply below_alloc | apply pw_below_drewN | apply below_drew1)) hb3); have hg3 := blk_below (g := w.heap.size) HG2.out hb3; have HG3 := Lib.hid hg3; clear hb3 hg3) | (go_at_call 45; refine (valOne _ val _ (heap_alloc_new _ _)).mono ?_; rintro e w4 ⟨rfl, hb4⟩; have HB4 := Lib.hid (below_step (by repeat (first | exact HB3.out | apply below_alloc | apply pw_below_drewN | apply below_drew1)) hb4); have hg4 := blk_below (g := w.heap.size) (blk_alloc HG3.out _) hb4; have z3 : w4.cell? ⟨w.heap.size, 3, none⟩ = some (.string val) := (blk_cell hg4 3).trans rfl; clear hb4 hg4))
        all_goals go_ret
        all_goals refine ⟨?_, by repeat (first | exact HB4.out | exact HB3.out | exact HB2.out | exact HB1.out | apply below_alloc | apply pw_below_drewN | apply below_drew1)⟩
        all_goals rw [Hr.out]
        all_goals first | rfl | (simp [numO, keyO, valO, a1, hkb, v16]; done) | (simp [numO, keyO, valO, *]; done) | (simp [numO, keyO, valO, *]; omega) | (simp [numO, keyO, valO, a1, hkb, v16]; omega) | (simp [numO, keyO, valO, a1, hkb, v16, show ¬ n < 0 by omega, show ¬ 255 < n by omega]; done)
end Go.Proofs.YtiidffblbpoijaaDoor
