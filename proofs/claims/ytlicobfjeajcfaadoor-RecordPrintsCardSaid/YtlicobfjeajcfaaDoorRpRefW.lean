/-
  RecordPrints: the walk of the document's Print.
-/
import Derived.Test.YtlicobfjeajcfaaDoorRpRef
import Derived.Lib.Hide
import Derived.WalkKit
import Derived.WalkSpells
import Derived.WalkLawsBesides
import Derived.Outline
import Derived.Deep.DrawnRows
namespace Go.Proofs.YtlicobfjeajcfaaDoor
open Go.RowKit Go.Proofs.YtlicobfjeajcfaaDoor.Q04 Go.Proofs.YtlicobfjeajcfaaDoorW.PrintWords Go.Proofs.YtlicobfjeajcfaaDoorW.PrintLast
set_option linter.unusedVariables false
set_option linter.unusedSimpArgs false


abbrev Rc := S25
theorem bel_go {w x y : World} (h : Below w.heap.size w x) (hb : Below x.heap.size x y) : Below w.heap.size w y := h.trans (hb.mono h.size)
def RecB (w : World) (g : Nat) (x : Rc) : Prop := w.heap[g]? = some (Obj.cells #[.int .i64 x.f0, .int .i64 x.f1, .int .i64 x.f2, .int .i64 x.f3, .int .i64 x.f4, .string x.f5, .bool x.f6.f0, .string x.f6.f1, .bool x.f7.f0, .string x.f7.f1, .int .i64 x.f8] 25 (0, 0))
def RowB (w : World) (g : Nat) : Prop := w.heap[g]? = some (Obj.cells #[.string { data := #[] }, .string { data := #[98, 101, 103, 105, 110] }, .string { data := #[117, 112, 100, 97, 116, 101] }, .string { data := #[99, 108, 114] }, .string { data := #[115, 97, 118, 101] }, .string { data := #[99, 111, 109, 109, 105, 116] }, .string { data := #[101, 110, 100] }] 9 (0, 0))
structure PB (w : World) (g : Nat) (x : Rc) : Prop where
  a : RecB w g x
  b : RowB w (g + 1)
theorem PB.below {w w' : World} {g : Nat} {x : Rc} (h : PB w g x) (hb : Below w.heap.size w w') : PB w' g x := ⟨blk_below h.a hb, blk_below h.b hb⟩
theorem PB.drew {w : World} {g : Nat} {x : Rc} (h : PB w g x) : PB w.drew g x := ⟨h.a, h.b⟩
theorem RecB.cells {w : World} {g : Nat} {x : Rc} (h : RecB w g x) : w.cell? ⟨g, 0, none⟩ = some (.int .i64 x.f0) ∧ w.cell? ⟨g, 1, none⟩ = some (.int .i64 x.f1) ∧ w.cell? ⟨g, 2, none⟩ = some (.int .i64 x.f2) ∧ w.cell? ⟨g, 3, none⟩ = some (.int .i64 x.f3) ∧ w.cell? ⟨g, 4, none⟩ = some (.int .i64 x.f4) ∧ w.cell? ⟨g, 5, none⟩ = some (.string x.f5) ∧ w.cell? ⟨g, 6, none⟩ = some (.bool x.f6.f0) ∧ w.cell? ⟨g, 7, none⟩ = some (.string x.f6.f1) ∧ w.cell? ⟨g, 8, none⟩ = some (.bool x.f7.f0) ∧ w.cell? ⟨g, 9, none⟩ = some (.string x.f7.f1) ∧ w.cell? ⟨g, 10, none⟩ = some (.int .i64 x.f8) := ⟨blk_cell h 0, blk_cell h 1, blk_cell h 2, blk_cell h 3, blk_cell h 4, blk_cell h 5, blk_cell h 6, blk_cell h 7, blk_cell h 8, blk_cell h 9, blk_cell h 10⟩
theorem RowB.cell {w : World} {g : Nat} (h : RowB w g) (k : Int) (h1 : 1 ≤ k) (h2 : k ≤ 6) : w.cell? ⟨g, k.toNat, none⟩ = some (.string (mk (wordL k))) := by
  rcases kinds h1 h2 with rfl | rfl | rfl | rfl | rfl | rfl
  · exact blk_cell h 1
  · exact blk_cell h 2
  · exact blk_cell h 3
  · exact blk_cell h 4
  · exact blk_cell h 5
  · exact blk_cell h 6
theorem add_ok {a b s : List UInt8} {w' : World} {h : Result Next} (hs : s = a ++ b) (hl : s.length ≤ 100000) : (if 9223372036854775807 < (mk a).size + (mk b).size then h else Result.ok (Next.value (.string (mk a ++ mk b))) w') = Result.ok (Next.value (.string (mk s))) w' := by
  rw [if_neg (by rw [mk_size, mk_size]; rw [hs, List.length_append] at hl; omega), mk_append, hs]
theorem add_sp {a s : List UInt8} {w' : World} {h : Result Next} (hs : s = a ++ [32]) (hl : s.length ≤ 100000) : (if 9223372036854775807 < (mk a).size + 1 then h else Result.ok (Next.value (.string (mk a ++ ⟨#[32]⟩))) w') = Result.ok (Next.value (.string (mk s))) w' := by
  rw [if_neg (by rw [mk_size]; rw [hs, List.length_append] at hl; simp only [List.length_cons, List.length_nil] at hl; omega)]
  rw [hs, ← mk_append]
  rfl
set_option maxRecDepth 100000 in
set_option maxHeartbeats 4000000 in
theorem refprint (x : Rc) (w : World) (hx : RightP x) : Calls Tryd.prog 12 #[.agg #[.int .i64 x.f0, .int .i64 x.f1, .int .i64 x.f2, .int .i64 x.f3, .int .i64 x.f4, .string x.f5, .bool x.f6.f0, .string x.f6.f1, .bool x.f7.f0, .string x.f7.f1, .int .i64 x.f8]] w fun e w' => e = .returned (.string (mk (lineOf x))) ∧ Below w.heap.size w w' := by
  have hbxs : PB ((w.alloc (.cells #[.int .i64 x.f0, .int .i64 x.f1, .int .i64 x.f2, .int .i64 x.f3, .int .i64 x.f4, .string x.f5, .bool x.f6.f0, .string x.f6.f1, .bool x.f7.f0, .string x.f7.f1, .int .i64 x.f8] 25)).alloc (.cells #[.string { data := #[] }, .string { data := #[98, 101, 103, 105, 110] }, .string { data := #[117, 112, 100, 97, 116, 101] }, .string { data := #[99, 108, 114] }, .string { data := #[115, 97, 118, 101] }, .string { data := #[99, 111, 109, 109, 105, 116] }, .string { data := #[101, 110, 100] }] 9)) w.heap.size x := by
    refine ⟨blk_below (blk_new w _) ((Below.refl _ _).alloc (Nat.le_refl _) _), ?_⟩
    have h := blk_new (w.alloc (.cells #[.int .i64 x.f0, .int .i64 x.f1, .int .i64 x.f2, .int .i64 x.f3, .int .i64 x.f4, .string x.f5, .bool x.f6.f0, .string x.f6.f1, .bool x.f7.f0, .string x.f7.f1, .int .i64 x.f8] 25)) (.cells #[.string { data := #[] }, .string { data := #[98, 101, 103, 105, 110] }, .string { data := #[117, 112, 100, 97, 116, 101] }, .string { data := #[99, 108, 114] }, .string { data := #[115, 97, 118, 101] }, .string { data := #[99, 111, 109, 109, 105, 116] }, .string { data := #[101, 110, 100] }] 9)
    rw [World.size_alloc] at h
    exact h
  have HBX := Lib.hid hbxs
  have HB0 : Hid (Below w.heap.size w ((w.alloc (.cells #[.int .i64 x.f0, .int .i64 x.f1, .int .i64 x.f2, .int .i64 x.f3, .int .i64 x.f4, .string x.f5, .bool x.f6.f0, .string x.f6.f1, .bool x.f7.f0, .string x.f7.f1, .int .i64 x.f8] 25)).alloc (.cells #[.string { data := #[] }, .string { data := #[98, 101, 103, 105, 110] }, .string { data := #[117, 112, 100, 97, 116, 101] }, .string { data := #[99, 108, 114] }, .string { data := #[115, 97, 118, 101] }, .string { data := #[99, 111, 109, 109, 105, 116] }, .string { data := #[101, 110, 100] }] 9))) := Lib.hid (((Below.refl _ _).alloc (Nat.le_refl _) _).alloc (by simp) _)
  have hk1 := hx.k1
  have hk2 := hx.k2
  have HN2 := Lib.hid (fun V => num_calls x.f2 (by have := hx.t1; omega) (by have := hx.t2; omega) V)
  have HN1 := Lib.hid (fun V => num_calls x.f1 (by have := hx.g1; omega) hx.g2 V)
  have HN3 := Lib.hid (fun V => num_calls x.f3 hx.p1 (by have := hx.p2; have := hx.g2; omega) V)
  obtain ⟨s1, h_s1⟩ : ∃ s, s = wordL x.f0 ++ [32] := ⟨_, rfl⟩
  obtain ⟨s2, h_s2⟩ : ∃ s, s = s1 ++ dl x.f2 := ⟨_, rfl⟩
  obtain ⟨s3, h_s3⟩ : ∃ s, s = s2 ++ [32] := ⟨_, rfl⟩
  obtain ⟨s4, h_s4⟩ : ∃ s, s = s3 ++ dl x.f1 := ⟨_, rfl⟩
  obtain ⟨s5, h_s5⟩ : ∃ s, s = s4 ++ [32] := ⟨_, rfl⟩
  obtain ⟨s6, h_s6⟩ : ∃ s, s = s5 ++ dl x.f3 := ⟨_, rfl⟩
  have q0 := word_len x.f0
  have q2 := dl_len x.f2 (by have := hx.t1; omega) (by have := hx.t2; omega)
  have q1 := dl_len x.f1 (by have := hx.g1; omega) hx.g2
  have q3 := dl_len x.f3 hx.p1 (by have := hx.p2; have := hx.g2; omega)
  have l_s1 : s1.length ≤ 100 := by rw [h_s1]; simp only [List.length_append, List.length_cons, List.length_nil]; omega
  have l_s2 : s2.length ≤ 200 := by rw [h_s2]; simp only [List.length_append, List.length_cons, List.length_nil]; omega
  have l_s3 : s3.length ≤ 300 := by rw [h_s3]; simp only [List.length_append, List.length_cons, List.length_nil]; omega
  have l_s4 : s4.length ≤ 400 := by rw [h_s4]; simp only [List.length_append, List.length_cons, List.length_nil]; omega
  have l_s5 : s5.length ≤ 500 := by rw [h_s5]; simp only [List.length_append, List.length_cons, List.length_nil]; omega
  have l_s6 : s6.length ≤ 600 := by rw [h_s6]; simp only [List.length_append, List.length_cons, List.length_nil]; omega
  have hl6_ := l_s6
  replace l_s1 : s1.length ≤ 100000 := by omega
  replace l_s2 : s2.length ≤ 100000 := by omega
  replace l_s3 : s3.length ≤ 100000 := by omega
  replace l_s4 : s4.length ≤ 100000 := by omega
  replace l_s5 : s5.length ≤ 100000 := by omega
  replace l_s6 : s6.length ≤ 100000 := by omega
  have k0 : (0 ≤ x.f0) = True := by simp; omega
  have k7 : (x.f0 < 7) = True := by simp; omega
  clear q0 q1 q2 q3
  have H_s1 := Lib.hid h_s1
  have H_s2 := Lib.hid h_s2
  have H_s3 := Lib.hid h_s3
  have H_s4 := Lib.hid h_s4
  have H_s5 := Lib.hid h_s5
  have H_s6 := Lib.hid h_s6
  clear h_s1 h_s2 h_s3 h_s4 h_s5 h_s6
  clear hbxs
  go_enter Tryd.func12, Tryd.ntmps12
  go_wp2
  generalize ((w.alloc (.cells #[.int .i64 x.f0, .int .i64 x.f1, .int .i64 x.f2, .int .i64 x.f3, .int .i64 x.f4, .string x.f5, .bool x.f6.f0, .string x.f6.f1, .bool x.f7.f0, .string x.f7.f1, .int .i64 x.f8] 25)).alloc (.cells #[.string { data := #[] }, .string { data := #[98, 101, 103, 105, 110] }, .string { data := #[117, 112, 100, 97, 116, 101] }, .string { data := #[99, 108, 114] }, .string { data := #[115, 97, 118, 101] }, .string { data := #[99, 111, 109, 109, 105, 116] }, .string { data := #[101, 110, 100] }] 9)) = w1 at *
  refine start_ (n := 21) (S := fun w' => PB w' w.heap.size x) (ds := []) #[false, false, false, false, false, false, false, false, false, false, false, false, false, false, false, false, false, false, false, false, false] (by kernel_rfl) rfl rfl HBX.out.drew ?_
  intro hHeld
  have HBwd : Hid (Below w.heap.size w w1.drew) := Lib.hid (pw_below_drewN HB0.out 1)
  generalize w1.drew = wd at *
  refine pure_ (i := 0) (N := some 6) (v := ?_) (a' := ?_) #[true, false, false, false, false, false, false, false, false, false, false, false, false, false, false, false, false, false, false, false, false] rfl rfl (by as_aux_lemma => kernel_rfl) (fun _ _ _ h => h) (Or.inl ⟨by rfl, ?_⟩) ?_ ?_
  rotate_left
  · intro w'
    (go_simp; with_reducible rfl)
  (rotate_left; focus (simp only [Act.put, List.setIfInBounds_toArray, List.set_cons_zero, List.set_cons_succ, i64_w, i32_w]; rfl))
  refine pure_ (i := 1) (N := some 7) (v := ?_) (a' := ?_) #[true, true, false, false, false, false, false, false, false, false, false, false, false, false, false, false, false, false, false, false, false] rfl rfl (by as_aux_lemma => kernel_rfl) (fun _ _ _ h => h) (Or.inl ⟨by rfl, ?_⟩) ?_ ?_
  rotate_left
  · intro w'
    (go_simp; with_reducible rfl)
  (rotate_left; focus (simp only [Act.put, List.setIfInBounds_toArray, List.set_cons_zero, List.set_cons_succ, i64_w, i32_w]; rfl))
  refine pure_ (i := 6) (N := some 12) (v := ?_) (a' := ?_) #[true, true, false, false, false, false, true, false, false, false, false, false, false, false, false, false, false, false, false, false, false] rfl rfl (by as_aux_lemma => kernel_rfl) (fun _ _ _ h => h) (Or.inl ⟨by rfl, ?_⟩) ?_ ?_
  rotate_left
  · intro w'
    (go_simp; with_reducible rfl)
  (rotate_left; focus (simp only [Act.put, List.setIfInBounds_toArray, List.set_cons_zero, List.set_cons_succ, i64_w, i32_w]; rfl))
  refine pure_ (i := 11) (N := some 17) (v := ?_) (a' := ?_) #[true, true, false, false, false, false, true, false, false, false, false, true, false, false, false, false, false, false, false, false, false] rfl rfl (by as_aux_lemma => kernel_rfl) (fun _ _ _ h => h) (Or.inl ⟨by rfl, ?_⟩) ?_ ?_
  rotate_left
  · intro w'
    (go_simp; with_reducible rfl)
  (rotate_left; focus (simp only [Act.put, List.setIfInBounds_toArray, List.set_cons_zero, List.set_cons_succ, i64_w, i32_w]; rfl))
  refine pure_ (i := 16) (N := some 22) (v := ?_) (a' := ?_) #[true, true, false, false, false, false, true, false, false, false, false, true, false, false, false, false, true, false, false, false, false] rfl rfl (by as_aux_lemma => kernel_rfl) (fun _ _ _ h => h) (Or.inl ⟨by rfl, ?_⟩) ?_ ?_
  rotate_left
  · intro w'
    (go_simp; with_reducible rfl)
  (rotate_left; focus (simp only [Act.put, List.setIfInBounds_toArray, List.set_cons_zero, List.set_cons_succ, i64_w, i32_w]; rfl))
  refine take_ (i := 2) (N := some 8) (v := ?_) (a' := ?_) #[true, true, true, false, false, false, true, false, false, false, false, true, false, false, false, false, true, false, false, false, false] rfl rfl (by as_aux_lemma => kernel_rfl) (fun _ _ _ h => h) (Or.inl ⟨by rfl, ?_⟩) hHeld ?_ ?_
  rotate_left
  · intro w' hS
    have hbx : PB w' w.heap.size x := hS
    obtain ⟨a0, a1, a2, a3, a4, a5, a6, a7, a8, a9, a10⟩ := hbx.a.cells
    have hrow := hbx.b.cell x.f0 hk1 hk2
    (go_simp; with_reducible rfl)
  (rotate_left; focus (simp only [Act.put, List.setIfInBounds_toArray, List.set_cons_zero, List.set_cons_succ, i64_w, i32_w]; rfl))
  refine pure_ (i := 3) (N := some 9) (v := ?_) (a' := ?_) #[true, true, true, true, false, false, true, false, false, false, false, true, false, false, false, false, true, false, false, false, false] rfl rfl (by as_aux_lemma => kernel_rfl) (fun _ _ _ h => h) (Or.inl ⟨by rfl, ?_⟩) ?_ ?_
  rotate_left
  · intro w'
    (go_simp; with_reducible rfl)
  (rotate_left; focus (simp only [Act.put, List.setIfInBounds_toArray, List.set_cons_zero, List.set_cons_succ, i64_w, i32_w]; rfl))
  refine take_ (i := 4) (N := some 10) (v := ?_) (a' := ?_) #[true, true, true, true, true, false, true, false, false, false, false, true, false, false, false, false, true, false, false, false, false] rfl rfl (by as_aux_lemma => kernel_rfl) (fun _ _ _ h => h) (Or.inl ⟨by rfl, ?_⟩) hHeld ?_ ?_
  rotate_left
  · intro w' hS
    have hbx : PB w' w.heap.size x := hS
    obtain ⟨a0, a1, a2, a3, a4, a5, a6, a7, a8, a9, a10⟩ := hbx.a.cells
    have hrow := hbx.b.cell x.f0 hk1 hk2
    (go_simp; with_reducible rfl)
  (rotate_left; focus (simp only [Act.put, List.setIfInBounds_toArray, List.set_cons_zero, List.set_cons_succ, i64_w, i32_w]; rfl))
  refine pure_ (i := 5) (N := some 11) (v := .string (mk s1)) (a' := ?_) #[true, true, true, true, true, true, true, false, false, false, false, true, false, false, false, false, true, false, false, false, false] rfl rfl (by as_aux_lemma => kernel_rfl) (fun _ _ _ h => h) (Or.inl ⟨by rfl, ?_⟩) ?_ ?_
  · intro w'
    go_simp
    exact add_sp H_s1.out l_s1
  (rotate_left; focus (simp only [Act.put, List.setIfInBounds_toArray, List.set_cons_zero, List.set_cons_succ, i64_w, i32_w]; rfl))
  refine take_ (i := 7) (N := some 13) (v := ?_) (a' := ?_) #[true, true, true, true, true, true, true, true, false, false, false, true, false, false, false, false, true, false, false, false, false] rfl rfl (by as_aux_lemma => kernel_rfl) (fun _ _ _ h => h) (Or.inl ⟨by rfl, ?_⟩) hHeld ?_ ?_
  rotate_left
  · intro w' hS
    have hbx : PB w' w.heap.size x := hS
    obtain ⟨a0, a1, a2, a3, a4, a5, a6, a7, a8, a9, a10⟩ := hbx.a.cells
    have hrow := hbx.b.cell x.f0 hk1 hk2
    (go_simp; with_reducible rfl)
  (rotate_left; focus (simp only [Act.put, List.setIfInBounds_toArray, List.set_cons_zero, List.set_cons_succ, i64_w, i32_w]; rfl))
  refine take_ (i := 12) (N := some 18) (v := ?_) (a' := ?_) #[true, true, true, true, true, true, true, true, false, false, false, true, true, false, false, false, true, false, false, false, false] rfl rfl (by as_aux_lemma => kernel_rfl) (fun _ _ _ h => h) (Or.inl ⟨by rfl, ?_⟩) hHeld ?_ ?_
  rotate_left
  · intro w' hS
    have hbx : PB w' w.heap.size x := hS
    obtain ⟨a0, a1, a2, a3, a4, a5, a6, a7, a8, a9, a10⟩ := hbx.a.cells
    have hrow := hbx.b.cell x.f0 hk1 hk2
    (go_simp; with_reducible rfl)
  (rotate_left; focus (simp only [Act.put, List.setIfInBounds_toArray, List.set_cons_zero, List.set_cons_succ, i64_w, i32_w]; rfl))
  refine take_ (i := 17) (N := some 23) (v := ?_) (a' := ?_) #[true, true, true, true, true, true, true, true, false, false, false, true, true, false, false, false, true, true, false, false, false] rfl rfl (by as_aux_lemma => kernel_rfl) (fun _ _ _ h => h) (Or.inl ⟨by rfl, ?_⟩) hHeld ?_ ?_
  rotate_left
  · intro w' hS
    have hbx : PB w' w.heap.size x := hS
    obtain ⟨a0, a1, a2, a3, a4, a5, a6, a7, a8, a9, a10⟩ := hbx.a.cells
    have hrow := hbx.b.cell x.f0 hk1 hk2
    (go_simp; with_reducible rfl)
  (rotate_left; focus (simp only [Act.put, List.setIfInBounds_toArray, List.set_cons_zero, List.set_cons_succ, i64_w, i32_w]; rfl))
  refine one_ (i := 8) (N := some 14) #[true, true, true, true, true, true, true, true, true, false, false, true, true, false, false, false, true, true, false, false, false] rfl rfl (by as_aux_lemma => kernel_rfl) (by decide) (fun K hK => ?_)
  refine goes_ Tryd.func31 (by kernel_rfl) rfl #[.int .i64 x.f2] (by rfl) rfl rfl (by (try simp only [List.map_toArray, List.map_cons, List.map_nil]); first | done | rfl) ?_
  refine (HN2.out _).mono ?_
  rintro e u1 ⟨rfl, hb2⟩
  refine ⟨_, rfl, ?_⟩
  have HBu1 := Lib.hid (bel_go HBwd.out hb2)
  refine hK.out _ _ (PB.below hHeld hb2) ?_
  intro hHeld
  clear hK K hb2
  refine norm_ (a' := ?_) ?_ ?_
  (rotate_left; focus (simp only [Act.put, List.setIfInBounds_toArray, List.set_cons_zero, List.set_cons_succ, i64_w, i32_w]; rfl))
  refine pure_ (i := 9) (N := some 15) (v := .string (mk s2)) (a' := ?_) #[true, true, true, true, true, true, true, true, true, true, false, true, true, false, false, false, true, true, false, false, false] rfl rfl (by as_aux_lemma => kernel_rfl) (fun _ _ _ h => h) (Or.inl ⟨by rfl, ?_⟩) ?_ ?_
  · intro w'
    go_simp
    exact add_ok H_s2.out l_s2
  (rotate_left; focus (simp only [Act.put, List.setIfInBounds_toArray, List.set_cons_zero, List.set_cons_succ, i64_w, i32_w]; rfl))
  refine pure_ (i := 10) (N := some 16) (v := .string (mk s3)) (a' := ?_) #[true, true, true, true, true, true, true, true, true, true, true, true, true, false, false, false, true, true, false, false, false] rfl rfl (by as_aux_lemma => kernel_rfl) (fun _ _ _ h => h) (Or.inl ⟨by rfl, ?_⟩) ?_ ?_
  · intro w'
    go_simp
    exact add_sp H_s3.out l_s3
  (rotate_left; focus (simp only [Act.put, List.setIfInBounds_toArray, List.set_cons_zero, List.set_cons_succ, i64_w, i32_w]; rfl))
  refine one_ (i := 13) (N := some 19) #[true, true, true, true, true, true, true, true, true, true, true, true, true, true, false, false, true, true, false, false, false] rfl rfl (by as_aux_lemma => kernel_rfl) (by decide) (fun K hK => ?_)
  refine goes_ Tryd.func31 (by kernel_rfl) rfl #[.int .i64 x.f1] (by rfl) rfl rfl (by (try simp only [List.map_toArray, List.map_cons, List.map_nil]); first | done | rfl) ?_
  refine (HN1.out _).mono ?_
  rintro e u2 ⟨rfl, hb2⟩
  refine ⟨_, rfl, ?_⟩
  have HBu2 := Lib.hid (bel_go HBu1.out hb2)
  refine hK.out _ _ (PB.below hHeld hb2) ?_
  intro hHeld
  clear hK K hb2
  refine norm_ (a' := ?_) ?_ ?_
  (rotate_left; focus (simp only [Act.put, List.setIfInBounds_toArray, List.set_cons_zero, List.set_cons_succ, i64_w, i32_w]; rfl))
  refine pure_ (i := 14) (N := some 20) (v := .string (mk s4)) (a' := ?_) #[true, true, true, true, true, true, true, true, true, true, true, true, true, true, true, false, true, true, false, false, false] rfl rfl (by as_aux_lemma => kernel_rfl) (fun _ _ _ h => h) (Or.inl ⟨by rfl, ?_⟩) ?_ ?_
  · intro w'
    go_simp
    exact add_ok H_s4.out l_s4
  (rotate_left; focus (simp only [Act.put, List.setIfInBounds_toArray, List.set_cons_zero, List.set_cons_succ, i64_w, i32_w]; rfl))
  refine pure_ (i := 15) (N := some 21) (v := .string (mk s5)) (a' := ?_) #[true, true, true, true, true, true, true, true, true, true, true, true, true, true, true, true, true, true, false, false, false] rfl rfl (by as_aux_lemma => kernel_rfl) (fun _ _ _ h => h) (Or.inl ⟨by rfl, ?_⟩) ?_ ?_
  · intro w'
    go_simp
    exact add_sp H_s5.out l_s5
  (rotate_left; focus (simp only [Act.put, List.setIfInBounds_toArray, List.set_cons_zero, List.set_cons_succ, i64_w, i32_w]; rfl))
  refine one_ (i := 18) (N := some 24) #[true, true, true, true, true, true, true, true, true, true, true, true, true, true, true, true, true, true, true, false, false] rfl rfl (by as_aux_lemma => kernel_rfl) (by decide) (fun K hK => ?_)
  refine goes_ Tryd.func31 (by kernel_rfl) rfl #[.int .i64 x.f3] (by rfl) rfl rfl (by (try simp only [List.map_toArray, List.map_cons, List.map_nil]); first | done | rfl) ?_
  refine (HN3.out _).mono ?_
  rintro e u3 ⟨rfl, hb2⟩
  refine ⟨_, rfl, ?_⟩
  have HBu3 := Lib.hid (bel_go HBu2.out hb2)
  refine hK.out _ _ (PB.below hHeld hb2) ?_
  intro hHeld
  clear hK K hb2
  refine norm_ (a' := ?_) ?_ ?_
  (rotate_left; focus (simp only [Act.put, List.setIfInBounds_toArray, List.set_cons_zero, List.set_cons_succ, i64_w, i32_w]; rfl))
  refine pure_ (i := 19) (N := some 25) (v := .string (mk s6)) (a' := ?_) #[true, true, true, true, true, true, true, true, true, true, true, true, true, true, true, true, true, true, true, true, false] rfl rfl (by as_aux_lemma => kernel_rfl) (fun _ _ _ h => h) (Or.inl ⟨by rfl, ?_⟩) ?_ ?_
  · intro w'
    go_simp
    exact add_ok H_s6.out l_s6
  (rotate_left; focus (simp only [Act.put, List.setIfInBounds_toArray, List.set_cons_zero, List.set_cons_succ, i64_w, i32_w]; rfl))
  refine one_ (i := 20) (N := some 4) #[true, true, true, true, true, true, true, true, true, true, true, true, true, true, true, true, true, true, true, true, true] rfl rfl (by as_aux_lemma => kernel_rfl) (by decide) (fun K hK => ?_)
  refine value_ (v := .string (mk s6)) (by rfl) rfl (by first | rfl | (go_simp; done) | (go_simp; rfl)) ?_
  refine hK.out _ _ hHeld ?_
  intro hHeld
  clear hK K
  refine norm_ (a' := ?_) ?_ ?_
  (rotate_left; focus (simp only [Act.put, List.setIfInBounds_toArray, List.set_cons_zero, List.set_cons_succ, i64_w, i32_w]; rfl))
  refine done_ (by as_aux_lemma => kernel_rfl) ?_
  obtain ⟨a0, a1, a2, a3, a4, a5, a6, a7, a8, a9, a10⟩ := hHeld.a.cells
  have hpg := page_calls x.f0
  cases hc : chB x.f0
  · rw [hc] at hpg
    have HPG := Lib.hid hpg
    clear hpg
    have n3 : ¬ x.f0 = 3 := fun e => by rw [e] at hc; exact absurd hc (by decide)
    have e3 : (x.f0 == 3) = false := by simpa using n3
    by_cases h4 : x.f0 = 4
    · have e4 : (x.f0 == 4) = true := by simpa using h4
      have hpg := HPG.out
      rw [h4] at hpg
      clear HPG
      have HPG := Lib.hid hpg
      clear hpg
      have hu1 : 0 ≤ x.f8 := (hx.u4 h4).1
      have hu2 : x.f8 ≤ 4611686018427387903 := by have := (hx.u4 h4).2; omega
      have HN8 := Lib.hid (fun V => num_calls x.f8 hu1 hu2 V)
      have qu := dl_len x.f8 hu1 hu2
      have z7 : (9223372036854775807 < (mk s6).size + 1) = False := by rw [mk_size]; simp only [eq_iff_iff, iff_false]; omega
      have z8 : (9223372036854775807 < (mk s6).size + 1 + (mk (dl x.f8)).size) = False := by rw [mk_size, mk_size]; simp only [eq_iff_iff, iff_false]; omega
      clear qu
      go_wp2_with (go_at_call 30; with_reducible refine (HPG.out _).mono ?_; rintro e v1 ⟨rfl, hb4⟩; replace hHeld := PB.below hHeld hb4; have HBv1 := Lib.hid (bel_go HBu3.out hb4); clear hb4 a0 a1 a2 a3 a4 a5 a6 a7 a8 a9 a10; obtain ⟨a0, a1, a2, a3, a4, a5, a6, a7, a8, a9, a10⟩ := hHeld.a.cells)
      go_wp2_with (go_at_call 31; with_reducible refine (HN8.out _).mono ?_; rintro e v2 ⟨rfl, hb5⟩; have HBv2 := Lib.hid (bel_go HBv1.out hb5); clear hb5)
      go_ret
      refine ⟨?_, HBv2.out⟩
      have hend : mk (lineOf x) = mk s6 ++ ⟨#[32]⟩ ++ mk (dl x.f8) := by rw [line_nu x hc (.inr h4)]; simp only [six, H_s6.out, H_s5.out, H_s4.out, H_s3.out, H_s2.out, H_s1.out, ← mk_append, show (⟨#[32]⟩ : ByteArray) = mk [32] from rfl]
      rw [hend]
      rfl
    · have e4 : (x.f0 == 4) = false := by simpa using h4
      go_wp2_with (go_at_call 30; with_reducible refine (HPG.out _).mono ?_; rintro e v1 ⟨rfl, hb4⟩; replace hHeld := PB.below hHeld hb4; have HBv1 := Lib.hid (bel_go HBu3.out hb4); clear hb4 a0 a1 a2 a3 a4 a5 a6 a7 a8 a9 a10; obtain ⟨a0, a1, a2, a3, a4, a5, a6, a7, a8, a9, a10⟩ := hHeld.a.cells)
      go_ret
      refine ⟨?_, HBv1.out⟩
      have hend : lineOf x = s6 := by rw [line_np x hc (by omega)]; simp only [six, H_s6.out, H_s5.out, H_s4.out, H_s3.out, H_s2.out, H_s1.out]
      rw [hend]
      rfl
  · have hl6 : s6.length ≤ 600 := hl6_
    have hb1 := hx.b1 hc
    obtain ⟨f40, f41, hkey, hv6, hv7, _⟩ := hb1
    have z5 : x.f5.size ≤ 8 := by simp only [keyB, Bool.and_eq_true, decide_eq_true_eq] at hkey; exact hkey.2
    have z6 : x.f6.f1.size ≤ 16 := by simp only [valB, Bool.and_eq_true, decide_eq_true_eq] at hv6; exact hv6.1
    have z7_ : x.f7.f1.size ≤ 16 := by simp only [valB, Bool.and_eq_true, decide_eq_true_eq] at hv7; exact hv7.1
    have HN4 := Lib.hid (fun V => num_calls x.f4 f40 (by omega) V)
    have HX5 := Lib.hid (fun V => hex_calls x.f5 (by omega) V)
    have HT6 := Lib.hid (fun V => told_calls x.f6 (by omega) V)
    have HT7 := Lib.hid (fun V => told_calls x.f7 (by omega) V)
    have q4 := dl_len x.f4 f40 (by omega)
    have q5 : (hexL x.f5.data.toList).length ≤ 16 := by rw [hexL_len, Array.length_toList]; have : x.f5.data.size = x.f5.size := rfl; omega
    have q6 := told_len x.f6 (by omega)
    have q7 := told_len x.f7 (by omega)
    obtain ⟨s7, h_s7⟩ : ∃ s, s = s6 ++ [32] := ⟨_, rfl⟩
    have m7 : s7.length ≤ 700 := by rw [h_s7]; simp only [List.length_append, List.length_cons, List.length_nil]; omega
    have H_s7 := Lib.hid h_s7
    clear h_s7
    have l_s7 : s7.length ≤ 100000 := by omega
    obtain ⟨s8, h_s8⟩ : ∃ s, s = s7 ++ dl x.f4 := ⟨_, rfl⟩
    have m8 : s8.length ≤ 800 := by rw [h_s8]; simp only [List.length_append, List.length_cons, List.length_nil]; omega
    have H_s8 := Lib.hid h_s8
    clear h_s8
    have l_s8 : s8.length ≤ 100000 := by omega
    obtain ⟨s9, h_s9⟩ : ∃ s, s = s8 ++ [32] := ⟨_, rfl⟩
    have m9 : s9.length ≤ 900 := by rw [h_s9]; simp only [List.length_append, List.length_cons, List.length_nil]; omega
    have H_s9 := Lib.hid h_s9
    clear h_s9
    have l_s9 : s9.length ≤ 100000 := by omega
    obtain ⟨s10, h_s10⟩ : ∃ s, s = s9 ++ hexL x.f5.data.toList := ⟨_, rfl⟩
    have m10 : s10.length ≤ 1000 := by rw [h_s10]; simp only [List.length_append, List.length_cons, List.length_nil]; omega
    have H_s10 := Lib.hid h_s10
    clear h_s10
    have l_s10 : s10.length ≤ 100000 := by omega
    obtain ⟨s11, h_s11⟩ : ∃ s, s = s10 ++ [32] := ⟨_, rfl⟩
    have m11 : s11.length ≤ 1100 := by rw [h_s11]; simp only [List.length_append, List.length_cons, List.length_nil]; omega
    have H_s11 := Lib.hid h_s11
    clear h_s11
    have l_s11 : s11.length ≤ 100000 := by omega
    obtain ⟨s12, h_s12⟩ : ∃ s, s = s11 ++ toldL x.f6 := ⟨_, rfl⟩
    have m12 : s12.length ≤ 4000 := by rw [h_s12]; simp only [List.length_append, List.length_cons, List.length_nil]; omega
    have H_s12 := Lib.hid h_s12
    clear h_s12
    have l_s12 : s12.length ≤ 100000 := by omega
    obtain ⟨s13, h_s13⟩ : ∃ s, s = s12 ++ [32] := ⟨_, rfl⟩
    have m13 : s13.length ≤ 4100 := by rw [h_s13]; simp only [List.length_append, List.length_cons, List.length_nil]; omega
    have H_s13 := Lib.hid h_s13
    clear h_s13
    have l_s13 : s13.length ≤ 100000 := by omega
    obtain ⟨s14, h_s14⟩ : ∃ s, s = s13 ++ toldL x.f7 := ⟨_, rfl⟩
    have m14 : s14.length ≤ 7000 := by rw [h_s14]; simp only [List.length_append, List.length_cons, List.length_nil]; omega
    have H_s14 := Lib.hid h_s14
    clear h_s14
    have l_s14 : s14.length ≤ 100000 := by omega
    clear q4 q5 q6 q7 m7 m8 m9 m10 m11 m12 m13 f40 f41 hkey hv6 hv7 z5 z6 z7_
    rw [hc] at hpg
    have HPG := Lib.hid hpg
    clear hpg
    go_wp2_with (go_at_call 30; with_reducible refine (HPG.out _).mono ?_; rintro e v1 ⟨rfl, hb4⟩; replace hHeld := PB.below hHeld hb4; have HBv1 := Lib.hid (bel_go HBu3.out hb4); clear hb4 a0 a1 a2 a3 a4 a5 a6 a7 a8 a9 a10; obtain ⟨a0, a1, a2, a3, a4, a5, a6, a7, a8, a9, a10⟩ := hHeld.a.cells)
    clear a0 a1 a2 a3 a4 a5 a6 a7 a8 a9 a10
    refine start_ (n := 22) (S := fun w' => PB w' w.heap.size x) (ds := []) #[false, false, false, false, false, false, false, false, false, false, false, false, false, false, false, false, false, false, false, false, false, false] (by kernel_rfl) rfl rfl hHeld.drew ?_
    intro hHeld
    have HBwd2 : Hid (Below w.heap.size w v1.drew) := Lib.hid (pw_below_drewN HBv1.out 1)
    generalize v1.drew = wd2 at *
    refine pure_ (i := 0) (N := some 29) (v := ?_) (a' := ?_) #[true, false, false, false, false, false, false, false, false, false, false, false, false, false, false, false, false, false, false, false, false, false] rfl rfl (by as_aux_lemma => kernel_rfl) (fun _ _ _ h => h) (Or.inl ⟨by rfl, ?_⟩) ?_ ?_
    rotate_left
    · intro w'
      (go_simp; with_reducible rfl)
    (rotate_left; focus (simp only [Act.put, List.setIfInBounds_toArray, List.set_cons_zero, List.set_cons_succ, i64_w, i32_w]; rfl))
    refine pure_ (i := 1) (N := some 30) (v := .string (mk s7)) (a' := ?_) #[true, true, false, false, false, false, false, false, false, false, false, false, false, false, false, false, false, false, false, false, false, false] rfl rfl (by as_aux_lemma => kernel_rfl) (fun _ _ _ h => h) (Or.inl ⟨by rfl, ?_⟩) ?_ ?_
    · intro w'
      go_simp
      exact add_sp H_s7.out l_s7
    (rotate_left; focus (simp only [Act.put, List.setIfInBounds_toArray, List.set_cons_zero, List.set_cons_succ, i64_w, i32_w]; rfl))
    refine pure_ (i := 2) (N := some 31) (v := ?_) (a' := ?_) #[true, true, true, false, false, false, false, false, false, false, false, false, false, false, false, false, false, false, false, false, false, false] rfl rfl (by as_aux_lemma => kernel_rfl) (fun _ _ _ h => h) (Or.inl ⟨by rfl, ?_⟩) ?_ ?_
    rotate_left
    · intro w'
      (go_simp; with_reducible rfl)
    (rotate_left; focus (simp only [Act.put, List.setIfInBounds_toArray, List.set_cons_zero, List.set_cons_succ, i64_w, i32_w]; rfl))
    refine pure_ (i := 7) (N := some 36) (v := ?_) (a' := ?_) #[true, true, true, false, false, false, false, true, false, false, false, false, false, false, false, false, false, false, false, false, false, false] rfl rfl (by as_aux_lemma => kernel_rfl) (fun _ _ _ h => h) (Or.inl ⟨by rfl, ?_⟩) ?_ ?_
    rotate_left
    · intro w'
      (go_simp; with_reducible rfl)
    (rotate_left; focus (simp only [Act.put, List.setIfInBounds_toArray, List.set_cons_zero, List.set_cons_succ, i64_w, i32_w]; rfl))
    refine pure_ (i := 12) (N := some 41) (v := ?_) (a' := ?_) #[true, true, true, false, false, false, false, true, false, false, false, false, true, false, false, false, false, false, false, false, false, false] rfl rfl (by as_aux_lemma => kernel_rfl) (fun _ _ _ h => h) (Or.inl ⟨by rfl, ?_⟩) ?_ ?_
    rotate_left
    · intro w'
      (go_simp; with_reducible rfl)
    (rotate_left; focus (simp only [Act.put, List.setIfInBounds_toArray, List.set_cons_zero, List.set_cons_succ, i64_w, i32_w]; rfl))
    refine pure_ (i := 17) (N := some 46) (v := ?_) (a' := ?_) #[true, true, true, false, false, false, false, true, false, false, false, false, true, false, false, false, false, true, false, false, false, false] rfl rfl (by as_aux_lemma => kernel_rfl) (fun _ _ _ h => h) (Or.inl ⟨by rfl, ?_⟩) ?_ ?_
    rotate_left
    · intro w'
      (go_simp; with_reducible rfl)
    (rotate_left; focus (simp only [Act.put, List.setIfInBounds_toArray, List.set_cons_zero, List.set_cons_succ, i64_w, i32_w]; rfl))
    refine take_ (i := 3) (N := some 32) (v := ?_) (a' := ?_) #[true, true, true, true, false, false, false, true, false, false, false, false, true, false, false, false, false, true, false, false, false, false] rfl rfl (by as_aux_lemma => kernel_rfl) (fun _ _ _ h => h) (Or.inl ⟨by rfl, ?_⟩) hHeld ?_ ?_
    rotate_left
    · intro w' hS
      have hbx : PB w' w.heap.size x := hS
      obtain ⟨a0, a1, a2, a3, a4, a5, a6, a7, a8, a9, a10⟩ := hbx.a.cells
      have hrow := hbx.b.cell x.f0 hk1 hk2
      (go_simp; with_reducible rfl)
    (rotate_left; focus (simp only [Act.put, List.setIfInBounds_toArray, List.set_cons_zero, List.set_cons_succ, i64_w, i32_w]; rfl))
    refine take_ (i := 8) (N := some 37) (v := ?_) (a' := ?_) #[true, true, true, true, false, false, false, true, true, false, false, false, true, false, false, false, false, true, false, false, false, false] rfl rfl (by as_aux_lemma => kernel_rfl) (fun _ _ _ h => h) (Or.inl ⟨by rfl, ?_⟩) hHeld ?_ ?_
    rotate_left
    · intro w' hS
      have hbx : PB w' w.heap.size x := hS
      obtain ⟨a0, a1, a2, a3, a4, a5, a6, a7, a8, a9, a10⟩ := hbx.a.cells
      have hrow := hbx.b.cell x.f0 hk1 hk2
      (go_simp; with_reducible rfl)
    (rotate_left; focus (simp only [Act.put, List.setIfInBounds_toArray, List.set_cons_zero, List.set_cons_succ, i64_w, i32_w]; rfl))
    refine take_ (i := 13) (N := some 42) (v := ?_) (a' := ?_) #[true, true, true, true, false, false, false, true, true, false, false, false, true, true, false, false, false, true, false, false, false, false] rfl rfl (by as_aux_lemma => kernel_rfl) (fun _ _ _ h => h) (Or.inl ⟨by rfl, ?_⟩) hHeld ?_ ?_
    rotate_left
    · intro w' hS
      have hbx : PB w' w.heap.size x := hS
      obtain ⟨a0, a1, a2, a3, a4, a5, a6, a7, a8, a9, a10⟩ := hbx.a.cells
      have hrow := hbx.b.cell x.f0 hk1 hk2
      (go_simp; with_reducible rfl)
    (rotate_left; focus (simp only [Act.put, List.setIfInBounds_toArray, List.set_cons_zero, List.set_cons_succ, i64_w, i32_w]; rfl))
    refine take_ (i := 18) (N := some 47) (v := ?_) (a' := ?_) #[true, true, true, true, false, false, false, true, true, false, false, false, true, true, false, false, false, true, true, false, false, false] rfl rfl (by as_aux_lemma => kernel_rfl) (fun _ _ _ h => h) (Or.inl ⟨by rfl, ?_⟩) hHeld ?_ ?_
    rotate_left
    · intro w' hS
      have hbx : PB w' w.heap.size x := hS
      obtain ⟨a0, a1, a2, a3, a4, a5, a6, a7, a8, a9, a10⟩ := hbx.a.cells
      have hrow := hbx.b.cell x.f0 hk1 hk2
      (go_simp; with_reducible rfl)
    (rotate_left; focus (simp only [Act.put, List.setIfInBounds_toArray, List.set_cons_zero, List.set_cons_succ, i64_w, i32_w]; rfl))
    refine one_ (i := 4) (N := some 33) #[true, true, true, true, true, false, false, true, true, false, false, false, true, true, false, false, false, true, true, false, false, false] rfl rfl (by as_aux_lemma => kernel_rfl) (by decide) (fun K hK => ?_)
    refine goes_ Tryd.func31 (by kernel_rfl) rfl #[.int .i64 x.f4] (by rfl) rfl rfl (by (try simp only [List.map_toArray, List.map_cons, List.map_nil]); first | done | rfl) ?_
    refine (HN4.out _).mono ?_
    rintro e y1 ⟨rfl, hb2⟩
    refine ⟨_, rfl, ?_⟩
    have HBy1 := Lib.hid (bel_go HBwd2.out hb2)
    refine hK.out _ _ (PB.below hHeld hb2) ?_
    intro hHeld
    clear hK K hb2
    refine norm_ (a' := ?_) ?_ ?_
    (rotate_left; focus (simp only [Act.put, List.setIfInBounds_toArray, List.set_cons_zero, List.set_cons_succ, i64_w, i32_w]; rfl))
    refine pure_ (i := 5) (N := some 34) (v := .string (mk s8)) (a' := ?_) #[true, true, true, true, true, true, false, true, true, false, false, false, true, true, false, false, false, true, true, false, false, false] rfl rfl (by as_aux_lemma => kernel_rfl) (fun _ _ _ h => h) (Or.inl ⟨by rfl, ?_⟩) ?_ ?_
    · intro w'
      go_simp
      exact add_ok H_s8.out l_s8
    (rotate_left; focus (simp only [Act.put, List.setIfInBounds_toArray, List.set_cons_zero, List.set_cons_succ, i64_w, i32_w]; rfl))
    refine pure_ (i := 6) (N := some 35) (v := .string (mk s9)) (a' := ?_) #[true, true, true, true, true, true, true, true, true, false, false, false, true, true, false, false, false, true, true, false, false, false] rfl rfl (by as_aux_lemma => kernel_rfl) (fun _ _ _ h => h) (Or.inl ⟨by rfl, ?_⟩) ?_ ?_
    · intro w'
      go_simp
      exact add_sp H_s9.out l_s9
    (rotate_left; focus (simp only [Act.put, List.setIfInBounds_toArray, List.set_cons_zero, List.set_cons_succ, i64_w, i32_w]; rfl))
    refine one_ (i := 9) (N := some 38) #[true, true, true, true, true, true, true, true, true, true, false, false, true, true, false, false, false, true, true, false, false, false] rfl rfl (by as_aux_lemma => kernel_rfl) (by decide) (fun K hK => ?_)
    refine goes_ Tryd.func32 (by kernel_rfl) rfl #[.string x.f5] (by rfl) rfl rfl (by (try simp only [List.map_toArray, List.map_cons, List.map_nil]); first | done | rfl) ?_
    refine (HX5.out _).mono ?_
    rintro e y2 ⟨rfl, hb2⟩
    refine ⟨_, rfl, ?_⟩
    have HBy2 := Lib.hid (bel_go HBy1.out hb2)
    refine hK.out _ _ (PB.below hHeld hb2) ?_
    intro hHeld
    clear hK K hb2
    refine norm_ (a' := ?_) ?_ ?_
    (rotate_left; focus (simp only [Act.put, List.setIfInBounds_toArray, List.set_cons_zero, List.set_cons_succ, i64_w, i32_w]; rfl))
    refine pure_ (i := 10) (N := some 39) (v := .string (mk s10)) (a' := ?_) #[true, true, true, true, true, true, true, true, true, true, true, false, true, true, false, false, false, true, true, false, false, false] rfl rfl (by as_aux_lemma => kernel_rfl) (fun _ _ _ h => h) (Or.inl ⟨by rfl, ?_⟩) ?_ ?_
    · intro w'
      go_simp
      exact add_ok H_s10.out l_s10
    (rotate_left; focus (simp only [Act.put, List.setIfInBounds_toArray, List.set_cons_zero, List.set_cons_succ, i64_w, i32_w]; rfl))
    refine pure_ (i := 11) (N := some 40) (v := .string (mk s11)) (a' := ?_) #[true, true, true, true, true, true, true, true, true, true, true, true, true, true, false, false, false, true, true, false, false, false] rfl rfl (by as_aux_lemma => kernel_rfl) (fun _ _ _ h => h) (Or.inl ⟨by rfl, ?_⟩) ?_ ?_
    · intro w'
      go_simp
      exact add_sp H_s11.out l_s11
    (rotate_left; focus (simp only [Act.put, List.setIfInBounds_toArray, List.set_cons_zero, List.set_cons_succ, i64_w, i32_w]; rfl))
    refine one_ (i := 14) (N := some 43) #[true, true, true, true, true, true, true, true, true, true, true, true, true, true, true, false, false, true, true, false, false, false] rfl rfl (by as_aux_lemma => kernel_rfl) (by decide) (fun K hK => ?_)
    refine goes_ Tryd.func33 (by kernel_rfl) rfl #[.agg #[.bool x.f6.f0, .string x.f6.f1]] (by rfl) rfl rfl (by (try simp only [List.map_toArray, List.map_cons, List.map_nil]); first | done | rfl) ?_
    refine (HT6.out _).mono ?_
    rintro e y3 ⟨rfl, hb2⟩
    refine ⟨_, rfl, ?_⟩
    have HBy3 := Lib.hid (bel_go HBy2.out hb2)
    refine hK.out _ _ (PB.below hHeld hb2) ?_
    intro hHeld
    clear hK K hb2
    refine norm_ (a' := ?_) ?_ ?_
    (rotate_left; focus (simp only [Act.put, List.setIfInBounds_toArray, List.set_cons_zero, List.set_cons_succ, i64_w, i32_w]; rfl))
    refine pure_ (i := 15) (N := some 44) (v := .string (mk s12)) (a' := ?_) #[true, true, true, true, true, true, true, true, true, true, true, true, true, true, true, true, false, true, true, false, false, false] rfl rfl (by as_aux_lemma => kernel_rfl) (fun _ _ _ h => h) (Or.inl ⟨by rfl, ?_⟩) ?_ ?_
    · intro w'
      go_simp
      exact add_ok H_s12.out l_s12
    (rotate_left; focus (simp only [Act.put, List.setIfInBounds_toArray, List.set_cons_zero, List.set_cons_succ, i64_w, i32_w]; rfl))
    refine pure_ (i := 16) (N := some 45) (v := .string (mk s13)) (a' := ?_) #[true, true, true, true, true, true, true, true, true, true, true, true, true, true, true, true, true, true, true, false, false, false] rfl rfl (by as_aux_lemma => kernel_rfl) (fun _ _ _ h => h) (Or.inl ⟨by rfl, ?_⟩) ?_ ?_
    · intro w'
      go_simp
      exact add_sp H_s13.out l_s13
    (rotate_left; focus (simp only [Act.put, List.setIfInBounds_toArray, List.set_cons_zero, List.set_cons_succ, i64_w, i32_w]; rfl))
    refine one_ (i := 19) (N := some 48) #[true, true, true, true, true, true, true, true, true, true, true, true, true, true, true, true, true, true, true, true, false, false] rfl rfl (by as_aux_lemma => kernel_rfl) (by decide) (fun K hK => ?_)
    refine goes_ Tryd.func33 (by kernel_rfl) rfl #[.agg #[.bool x.f7.f0, .string x.f7.f1]] (by rfl) rfl rfl (by (try simp only [List.map_toArray, List.map_cons, List.map_nil]); first | done | rfl) ?_
    refine (HT7.out _).mono ?_
    rintro e y4 ⟨rfl, hb2⟩
    refine ⟨_, rfl, ?_⟩
    have HBy4 := Lib.hid (bel_go HBy3.out hb2)
    refine hK.out _ _ (PB.below hHeld hb2) ?_
    intro hHeld
    clear hK K hb2
    refine norm_ (a' := ?_) ?_ ?_
    (rotate_left; focus (simp only [Act.put, List.setIfInBounds_toArray, List.set_cons_zero, List.set_cons_succ, i64_w, i32_w]; rfl))
    refine pure_ (i := 20) (N := some 49) (v := .string (mk s14)) (a' := ?_) #[true, true, true, true, true, true, true, true, true, true, true, true, true, true, true, true, true, true, true, true, true, false] rfl rfl (by as_aux_lemma => kernel_rfl) (fun _ _ _ h => h) (Or.inl ⟨by rfl, ?_⟩) ?_ ?_
    · intro w'
      go_simp
      exact add_ok H_s14.out l_s14
    (rotate_left; focus (simp only [Act.put, List.setIfInBounds_toArray, List.set_cons_zero, List.set_cons_succ, i64_w, i32_w]; rfl))
    refine one_ (i := 21) (N := some 4) #[true, true, true, true, true, true, true, true, true, true, true, true, true, true, true, true, true, true, true, true, true, true] rfl rfl (by as_aux_lemma => kernel_rfl) (by decide) (fun K hK => ?_)
    refine value_ (v := .string (mk s14)) (by rfl) rfl (by first | rfl | (go_simp; done) | (go_simp; rfl)) ?_
    refine hK.out _ _ hHeld ?_
    intro hHeld
    clear hK K
    refine norm_ (a' := ?_) ?_ ?_
    (rotate_left; focus (simp only [Act.put, List.setIfInBounds_toArray, List.set_cons_zero, List.set_cons_succ, i64_w, i32_w]; rfl))
    refine done_ (by as_aux_lemma => kernel_rfl) ?_
    obtain ⟨a0, a1, a2, a3, a4, a5, a6, a7, a8, a9, a10⟩ := hHeld.a.cells
    by_cases h3 : x.f0 = 3
    · have e3 : (x.f0 == 3) = true := by simpa using h3
      have hu1 : 0 ≤ x.f8 := by have := hx.u3 h3; omega
      have hu2 : x.f8 ≤ 4611686018427387903 := by have := hx.u3 h3; have := hx.p2; have := hx.g2; omega
      have hl : lineOf x = s14 ++ [32] ++ dl x.f8 := by rw [line_pu x hc (.inl h3)]; simp only [six, pageL, H_s14.out, H_s13.out, H_s12.out, H_s11.out, H_s10.out, H_s9.out, H_s8.out, H_s7.out, H_s6.out, H_s5.out, H_s4.out, H_s3.out, H_s2.out, H_s1.out, List.append_assoc]
      have HL := Lib.hid hl
      clear hl h3
      have HN8 := Lib.hid (fun V => num_calls x.f8 hu1 hu2 V)
      have qu := dl_len x.f8 hu1 hu2
      have z7 : (9223372036854775807 < (mk s14).size + 1) = False := by rw [mk_size]; simp only [eq_iff_iff, iff_false]; omega
      have z8 : (9223372036854775807 < (mk s14).size + 1 + (mk (dl x.f8)).size) = False := by rw [mk_size, mk_size]; simp only [eq_iff_iff, iff_false]; omega
      clear qu
      go_wp2_with (go_at_call 31; with_reducible refine (HN8.out _).mono ?_; rintro e v2 ⟨rfl, hb5⟩; have HBv2 := Lib.hid (bel_go HBy4.out hb5); clear hb5)
      go_ret
      refine ⟨?_, HBv2.out⟩
      rw [HL.out, ← mk_append, ← mk_append]
      rfl
    · have e3 : (x.f0 == 3) = false := by simpa using h3
      have h2 : ¬ x.f0 = 4 := fun e => by rw [e] at hc; exact absurd hc (by decide)
      have e4 : (x.f0 == 4) = false := by simpa using h2
      have hl : lineOf x = s14 := by rw [line_pp x hc (by omega)]; simp only [six, pageL, H_s14.out, H_s13.out, H_s12.out, H_s11.out, H_s10.out, H_s9.out, H_s8.out, H_s7.out, H_s6.out, H_s5.out, H_s4.out, H_s3.out, H_s2.out, H_s1.out, List.append_assoc]
      have HL := Lib.hid hl
      clear hl
      go_wp2
      go_ret
      refine ⟨?_, HBy4.out⟩
      rw [HL.out]
      rfl
end Go.Proofs.YtlicobfjeajcfaaDoor
