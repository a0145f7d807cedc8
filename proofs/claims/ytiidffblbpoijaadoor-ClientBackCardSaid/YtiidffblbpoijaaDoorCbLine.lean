/-
  client.Line: an operation's line.
-/
import Derived.Test.YtiidffblbpoijaaDoorCbR1
import Derived.Test.YtiidffblbpoijaaDoorCbStubs
import Derived.Test.YtiidffblbpoijaaDoorCbItoa
import Derived.Test.YtiidffblbpoijaaDoorClText
import Derived.Deep.RegionWith
import Derived.Lib.Join
import Derived.Lib.ItoaNum
namespace Go.Proofs.YtiidffblbpoijaaDoor
open Go.RowKit Go.Proofs.YtiidffblbpoijaaDoor.Q33 Go.Proofs.YtiidffblbpoijaaDoorW.PrintWords Go.Proofs.YtiidffblbpoijaaDoorW.PrintLast Go.Proofs.YtiidffblbpoijaaDoorW.PrintMore
set_option linter.unusedVariables false
set_option linter.unusedSimpArgs false
theorem infoStr : (Tryd.prog.info? 9).map (fun i => (i.zero, i.size, i.bytes)) = some (some (.string ⟨#[]⟩), 1, 16) := by kernel_rfl
/-- A line's words. -/
def wordsB (x : Op) : List ByteArray :=
  wordB x.f0 :: ((if partsOf x.f0 = 1 ∨ partsOf x.f0 = 3 ∨ partsOf x.f0 = 7 then [itoaB x.f1] else []) ++ ((if partsOf x.f0 = 2 ∨ partsOf x.f0 = 3 ∨ partsOf x.f0 = 7 then [tellS x.f2] else []) ++ (if partsOf x.f0 = 7 then [tellS x.f3] else [])))
def blank : ByteArray := ⟨#[32]⟩
/-- An operation's line. -/
def lineB (x : Op) : ByteArray := mk (joinL (wordsB x) blank)
theorem join_cons' (a b : List UInt8) (r : List (List UInt8)) : Lib.join (a :: b :: r) [32] = a ++ 32 :: Lib.join (b :: r) [32] := by
  simp [Lib.join, List.intercalate, List.intersperse]
theorem join_one' (a : List UInt8) : Lib.join [a] [32] = a := by simp [Lib.join, List.intercalate, List.intersperse]
theorem join_len : ∀ ws : List (List UInt8), (Lib.join ws [32]).length ≤ (ws.map List.length).sum + ws.length
  | [] => by simp [Lib.join, List.intercalate]
  | [a] => by rw [join_one']; simp
  | a :: b :: r => by
    have ih := join_len (b :: r)
    rw [join_cons', List.length_append, List.length_cons]
    simp only [List.map_cons, List.sum_cons, List.length_cons] at ih ⊢
    omega
theorem word_size (k : Int) : (wordB k).size ≤ 6 := by
  unfold wordB
  repeat' split
  all_goals decide
theorem dec_len (n : Nat) (h : n < 1000) : (Lib.decDigits n).length ≤ 3 := by
  by_cases h1 : n < 10
  · rw [Lib.decDigits_one h1]; simp
  · by_cases h2 : n < 100
    · rw [Lib.decDigits_two h1 h2]; simp
    · rw [Lib.decDigits, dif_neg h1, Lib.decDigits_two (by omega) (by omega)]; simp
theorem itoa_size3 (n : Int) (h0 : 0 ≤ n) (h1 : n ≤ 255) : (itoaB n).size ≤ 3 := by
  unfold itoaB Lib.itoa
  rw [if_neg (by omega)]
  have := dec_len n.toNat (by omega)
  simpa [ByteArray.size] using this
theorem tell_size (s : ByteArray) (h : s.size ≤ 16) : (tellS s).size ≤ 48 := by
  unfold tellS
  split
  · decide
  · have := tellL_length s.data.toList
    have h2 : s.data.toList.length = s.size := by simp
    show (tellL s.data.toList).toArray.size ≤ 48
    simp only [List.size_toArray]
    omega
theorem joinB_len (l : List ByteArray) (h : l.length ≤ 4) (hs : ∀ s ∈ l, s.size ≤ 48) : (joinL l blank).length ≤ 1000 := by
  unfold joinL
  refine Nat.le_trans (join_len _) ?_
  have : ∀ (l : List ByteArray) (n : Nat), l.length ≤ n → (∀ s ∈ l, s.size ≤ 48) → ((l.map (·.data.toList)).map List.length).sum ≤ 48 * n := by
    intro l
    induction l with
    | nil => intro n _ _; simp
    | cons a r ih =>
      intro n hn hs
      cases n with
      | zero => simp at hn
      | succ n =>
        have h1 := ih n (by simpa using hn) (fun s hm => hs s (by simp [hm]))
        have h2 := hs a (by simp)
        have h3 : a.data.toList.length = a.size := by simp
        simp only [List.map_cons, List.sum_cons, h3]
        omega
  have h1 := this l 4 h hs
  simp only [List.length_map] at h1 ⊢
  omega
theorem text17' (s : ByteArray) (h : s.size ≤ 16) : client_text.f s = some (tellS s) := by
  unfold client_text.f
  rw [if_pos (by omega)]
theorem itoa18' (n : Int) (h0 : 0 ≤ n) (h1 : n ≤ 255) : strconv_Itoa_18.f n = some (itoaB n) := by
  unfold strconv_Itoa_18.f
  rw [if_pos ⟨by omega, by omega⟩]
theorem join_any (l : List ByteArray) (hne : l ≠ []) (h : l.length ≤ 4) (hs : ∀ s ∈ l, s.size ≤ 48) : strings_Join.f l blank = some (mk (joinL l blank)) := by
  unfold strings_Join.f
  have := joinB_len l h hs
  rw [if_pos ⟨hne, by omega, by omega⟩]
/-- What a right operation's parts are. -/
theorem right_facts {x : Op} (h : rightO x = true) : 1 ≤ x.f0 ∧ x.f0 ≤ 9 ∧ 0 ≤ x.f1 ∧ x.f1 ≤ 255 ∧ x.f2.size ≤ 16 ∧ x.f3.size ≤ 16 := by
  unfold rightO numO keyO valO keyB at h
  simp only [Bool.and_eq_true, Bool.or_eq_true, decide_eq_true_eq] at h
  obtain ⟨⟨h1, h2⟩, h3, h4, h5⟩ := h
  refine ⟨h1, h2, by omega, by omega, ?_, by omega⟩
  split at h4
  · simp only [Bool.and_eq_true, decide_eq_true_eq] at h4; omega
  · simp only [decide_eq_true_eq] at h4; omega
def OnN (q : Act → World → Prop) : Exit → Act → World → Prop
  | .normal, a, w => q a w
  | _, _, _ => False
theorem set2_new {W : World} {gv : Nat} {u v x y : Value} {T : TypeId} (h : W.heap[gv]? = some (.cells #[u, v] T (0, 0))) : ((W.setCell ⟨gv, 0, none⟩ x).setCell ⟨gv, 1, none⟩ y).heap[gv]? = some (.cells #[x, y] T (0, 0)) := by
  rw [heap_setCell_same _ gv 1 #[x, v] T y (by rw [heap_setCell_same W gv 0 #[u, v] T x h]; rfl)]
  rfl
theorem set2_keep {W : World} {gv g : Nat} {x y : Value} {o o' : Obj} (hne : gv ≠ g) (h0 : W.heap[gv]? = some o') (h : W.heap[g]? = some o) : ((W.setCell ⟨gv, 0, none⟩ x).setCell ⟨gv, 1, none⟩ y).heap[g]? = some o := by
  rw [Below.heap_setCell _ ⟨gv, 1, none⟩ y g (fun e => hne e.symm), Below.heap_setCell _ ⟨gv, 0, none⟩ x g (fun e => hne e.symm)]
  exact h
theorem set2_below {w W : World} {gv : Nat} {x y : Value} (hle : w.heap.size ≤ gv) (h : Below w.heap.size w W) : Below w.heap.size w ((W.setCell ⟨gv, 0, none⟩ x).setCell ⟨gv, 1, none⟩ y) :=
  (h.setCell (p := ⟨gv, 0, none⟩) hle x).setCell (p := ⟨gv, 1, none⟩) hle y
/-- What is known of the memory behind the call of verbs. -/
structure Ln (w W : World) (gv : Nat) (kd n p : Int) (wd key val : ByteArray) : Prop where
  b : Below w.heap.size w W
  V : W.heap[gv]? = some (.cells #[.string wd, .int .i64 p] 68 (0, 0))
  G : W.heap[w.heap.size]? = some (.cells #[.int .i64 kd, .int .i64 n, .string key, .string val] 43 (0, 0))
section
variable {w W W' : World} {gv base : Nat} {kd n p : Int} {wd key val : ByteArray} {v : Value} {xs : List ByteArray} {ok : Nat → Prop}
theorem Ln.below (h : Ln w W gv kd n p wd key val) (hb : Below W.heap.size W W') : Ln w W' gv kd n p wd key val := ⟨below_step h.b hb, blk_below h.V hb, blk_below h.G hb⟩
theorem Ln.lit (h : Ln w W gv kd n p wd key val) (hb : Below w.heap.size w W') (hg : W.grownBy W' none) : Ln w W' gv kd n p wd key val := ⟨hb, blk_grown h.V hg (by simp), blk_grown h.G hg (by simp)⟩
theorem Ln.grown (h : Ln w W gv kd n p wd key val) (hR : Kd.string.R 9 W base ok v xs) (hb : Below w.heap.size w W') (hg : W.grownBy W' v.ownBlock) : Ln w W' gv kd n p wd key val := ⟨hb, blk_grown h.V hg (Kd.R_ne hR h.V (by decide)), blk_grown h.G hg (Kd.R_ne hR h.G (by decide))⟩
theorem Ln.y1 (h : Ln w W gv kd n p wd key val) : W.cell? ⟨gv, 1, none⟩ = some (.int .i64 p) := (blk_cell h.V 1).trans rfl
theorem Ln.x1 (h : Ln w W gv kd n p wd key val) : W.cell? ⟨w.heap.size, 1, none⟩ = some (.int .i64 n) := (blk_cell h.G 1).trans rfl
theorem Ln.x2 (h : Ln w W gv kd n p wd key val) : W.cell? ⟨w.heap.size, 2, none⟩ = some (.string key) := (blk_cell h.G 2).trans rfl
theorem Ln.x3 (h : Ln w W gv kd n p wd key val) : W.cell? ⟨w.heap.size, 3, none⟩ = some (.string val) := (blk_cell h.G 3).trans rfl
theorem join_own {sep res : ByteArray} (hR : Kd.string.R 9 W base ok v xs) (hj : strings_Join.f xs sep = some res) : Calls Tryd.prog 31 #[v, .string sep] W fun e w' => e = .returned (.string res) ∧ Below W.heap.size W w' := by
  obtain ⟨A, c, rfl, hc, hr⟩ := Kd.R_reads hR
  exact strings_Join.calls A c xs sep res W hr hc hj
end
set_option maxRecDepth 100000 in
set_option maxHeartbeats 8000000 in
theorem line_wrong (x : Op) (hr : rightO x = false) (w : World) : Calls Tryd.prog 14 #[.agg #[.int .i64 x.f0, .int .i64 x.f1, .string x.f2, .string x.f3]] w fun e w' => e = .returned (.tuple #[.string ⟨#[]⟩, .int .i64 1]) ∧ Below w.heap.size w w' := by
  have hc := right_calls x
  rw [hr] at hc
  obtain ⟨kd, n, key, val⟩ := x
  have hb0 : Below w.heap.size w (w.alloc (.cells #[.int .i64 kd, .int .i64 n, .string key, .string val] 43)) := (Below.refl _ _).alloc (Nat.le_refl _) _
  have HB := Lib.hid hb0
  have HC := Lib.hid hc
  clear hr hc hb0
  go_enter Tryd.func14, Tryd.ntmps14
  go_wp2_with (go_at_call 30; refine (HC.out _).mono ?_; rintro e w1 ⟨rfl, hb1⟩)
  go_ret2
  exact ⟨rfl, below_step HB.out hb1⟩
set_option maxRecDepth 100000 in
set_option maxHeartbeats 8000000 in
theorem line_right (x : Op) (hr : rightO x = true) (w : World) (ht : Tabs w) : Calls Tryd.prog 14 #[.agg #[.int .i64 x.f0, .int .i64 x.f1, .string x.f2, .string x.f3]] w fun e w' => e = .returned (.tuple #[.string (lineB x), .int .i64 0]) ∧ Below w.heap.size w w' := by
  have hc := right_calls x
  have hf := right_facts hr
  rw [hr] at hc
  have HL : Hid (lineB x = mk (joinL (wordsB x) blank)) := Lib.hid rfl
  generalize lineB x = res at HL ⊢
  obtain ⟨kd, n, key, val⟩ := x
  obtain ⟨h1, h2, hn0, hn1, hk16, hv16⟩ := hf
  dsimp only at h1 h2 hn0 hn1 hk16 hv16
  have hb0 : Below w.heap.size w (w.alloc (.cells #[.int .i64 kd, .int .i64 n, .string key, .string val] 43)) := (Below.refl _ _).alloc (Nat.le_refl _) _
  have hv := fun W => verbs_at kd (by omega) (by omega) W
  obtain ⟨p, hp⟩ : ∃ p, p = partsOf kd := ⟨_, rfl⟩
  have hpc : p = 0 ∨ p = 1 ∨ p = 2 ∨ p = 3 ∨ p = 7 := by
    rw [hp]
    rcases kinds (k := kd) (by omega) (by omega) with rfl | rfl | rfl | rfl | rfl | rfl | rfl | rfl | rfl <;> decide
  obtain ⟨wd, hwd⟩ : ∃ wd, wd = wordB kd := ⟨_, rfl⟩
  have hws := word_size kd
  rw [← hwd] at hws
  have HW : Hid (wordsB ⟨kd, n, key, val⟩ = wd :: ((if p = 1 ∨ p = 3 ∨ p = 7 then [itoaB n] else []) ++ ((if p = 2 ∨ p = 3 ∨ p = 7 then [tellS key] else []) ++ (if p = 7 then [tellS val] else [])))) := Lib.hid (by rw [hwd, hp]; rfl)
  rw [← hp, ← hwd] at hv
  obtain ⟨i, hi⟩ : ∃ i, kd - 1 = i := ⟨_, rfl⟩
  rw [hi] at hv
  have HV := Lib.hid hv
  have hw : IntKind.i64.wrap (kd - 1) = i := by rw [IntKind.wrap_i64]; omega
  have hwA : wrap64 i = i := by unfold wrap64; omega
  have hk0 : 0 ≤ i := by omega
  have hkT : (0 ≤ i) = True := eq_true (by omega)
  have hkU : (i < 9) = True := eq_true (by omega)
  have hk9 : i < 9 := by omega
  have HBX := Lib.hid (heap_alloc_new w (.cells #[.int .i64 kd, .int .i64 n, .string key, .string val] 43))
  have HT := Lib.hid (fun (W : World) (hb : Below w.heap.size w W) => ht.below hb)
  have HBel := Lib.hid hb0
  have HC := Lib.hid hc
  clear hc hr hv hp hb0 ht hwd
  go_enter Tryd.func14, Tryd.ntmps14
  go_wp2_with (go_at_call 30; refine (HC.out _).mono ?_; rintro e w0 ⟨rfl, hb0⟩; have hg0 := blk_below (g := w.heap.size) HBX.out hb0; have HB0 := Lib.hid (below_step HBel.out hb0); clear hb0; have x0 : w0.cell? ⟨w.heap.size, 0, none⟩ = some (.int .i64 kd) := (blk_cell hg0 0).trans rfl; have HG0 := Lib.hid hg0; clear hg0)
  refine Code.wp_mono (Q := OnN fun a' w' => ∃ (v9 v10 v11 v12 v13 v14 : Value) (gv : Nat), a' = { tmps := #[.agg #[.int .i64 kd, .int .i64 n, .string key, .string val], .pointer (some ⟨w.heap.size, 0, none⟩), .string ⟨#[]⟩, .int .i64 0, .pointer (some ⟨gv, 0, none⟩), undef, .agg #[.int .i64 kd, .int .i64 n, .string key, .string val], .bool true, .bool false, v9, v10, v11, v12, v13, v14, undef, undef, undef, undef, undef, undef, undef, undef, undef, undef, undef, undef, undef, undef, undef, undef, undef, undef, undef, undef, undef, undef, undef, undef, undef, undef, undef, undef, undef, undef, undef, undef, undef, undef, undef], defers := [] } ∧ w'.heap[gv]? = some (.cells #[.string wd, .int .i64 p] 68 (0, 0)) ∧ w'.heap[w.heap.size]? = some (.cells #[.int .i64 kd, .int .i64 n, .string key, .string val] 43 (0, 0)) ∧ gv ≠ w.heap.size ∧ Below w.heap.size w w') ?_ ?_
  rotate_left
  · skip
    refine start_ (n := 8) (S := fun w' => w'.heap[w.heap.size]? = some (.cells #[.int .i64 kd, .int .i64 n, .string key, .string val] 43 (0, 0))) (ds := []) #[false, false, false, false, false, false, false, false] (by kernel_rfl) rfl rfl HG0.out ?_
    intro hHeld
    have HB3 : Hid (Below w.heap.size w w0.drew) := Lib.hid (pw_below_drewN HB0.out 1)
    generalize w0.drew = w3 at *
    refine pure_ (i := 1) (N := some 10) (v := ?_) (a' := ?_) #[false, true, false, false, false, false, false, false] rfl rfl (by as_aux_lemma => kernel_rfl) (fun _ _ _ h => h) (Or.inl ⟨by rfl, ?_⟩) ?_ ?_
    rotate_left
    · intro w'
      (go_simp; with_reducible rfl)
    (rotate_left; focus (simp only [Act.put, List.setIfInBounds_toArray, List.set_cons_zero, List.set_cons_succ, i64_w, i32_w]; rfl))
    refine take_ (i := 2) (N := some 11) (v := ?_) (a' := ?_) #[false, true, true, false, false, false, false, false] rfl rfl (by as_aux_lemma => kernel_rfl) (fun _ _ _ h => h) (Or.inl ⟨by rfl, ?_⟩) hHeld ?_ ?_
    rotate_left
    · intro w' hS
      have x0 : w'.cell? ⟨w.heap.size, 0, none⟩ = some (.int .i64 kd) := (blk_cell hS 0).trans rfl
      (go_simp; with_reducible rfl)
    (rotate_left; focus (simp only [Act.put, List.setIfInBounds_toArray, List.set_cons_zero, List.set_cons_succ, i64_w, i32_w]; rfl))
    refine pure_ (i := 3) (N := some 12) (v := ?_) (a' := ?_) #[false, true, true, true, false, false, false, false] rfl rfl (by as_aux_lemma => kernel_rfl) (fun _ _ _ h => h) (Or.inl ⟨by rfl, ?_⟩) ?_ ?_
    rotate_left
    · intro w'
      (go_simp; with_reducible rfl)
    (rotate_left; focus (simp only [Act.put, List.setIfInBounds_toArray, List.set_cons_zero, List.set_cons_succ, i64_w, i32_w]; rfl))
    refine two_ (i := 0) (j := 6) (Ni := some 9) (Nj := some 4) #[true, true, true, true, false, false, false, false] #[false, true, true, true, false, false, true, false] rfl rfl rfl rfl (by as_aux_lemma => kernel_rfl) (by decide) (by decide) (fun K hK => ?_) (fun K hK => ?_)
    · refine goes_ Tryd.func26 (by kernel_rfl) rfl #[] (by rfl) rfl rfl (by (try simp only [List.map_toArray, List.map_cons, List.map_nil]); first | done | rfl) ?_
      refine (HV.out _).mono ?_
      rintro e w11 ⟨ad, c, rfl, hc9, hw1, hw2, hb1⟩
      refine ⟨_, rfl, ?_⟩
      obtain ⟨pa, hpa⟩ : ∃ pa, pa = ad.add (i.toNat * 2) := ⟨_, rfl⟩
      rw [← hpa] at hw1 hw2
      have hia := idx_at ad c i hk0 hk9
      rw [← hpa] at hia
      clear hpa
      have HB11 := Lib.hid (below_step HB3.out hb1)
      refine hK.out _ _ (blk_below hHeld hb1) ?_
      intro hHeld
      clear hK K hb1
      refine norm_ (a' := ?_) ?_ ?_
      (rotate_left; focus (simp only [Act.put, List.setIfInBounds_toArray, List.set_cons_zero, List.set_cons_succ, i64_w, i32_w]; rfl))
      refine pure_ (i := 4) (N := some 13) (v := ?_) (a' := ?_) #[true, true, true, true, true, false, false, false] rfl rfl (by as_aux_lemma => kernel_rfl) (fun _ _ _ h => h) (Or.inl ⟨by rfl, ?_⟩) ?_ ?_
      rotate_left
      · intro w'
        (go_simp; with_reducible rfl)
      (rotate_left; focus (simp only [Act.put, List.setIfInBounds_toArray, List.set_cons_zero, List.set_cons_succ, i64_w, i32_w]; rfl))
      refine two_ (i := 5) (j := 6) (Ni := some 14) (Nj := some 4) #[true, true, true, true, true, true, false, false] #[true, true, true, true, true, false, true, false] rfl rfl rfl rfl (by as_aux_lemma => kernel_rfl) (by decide) (by decide) (fun K hK => ?_) (fun K hK => ?_)
      · refine value_ (v := .agg #[.string wd, .int .i64 p]) (by rfl) rfl (by first | rfl | (go_simp; done) | (go_simp; rfl)) ?_
        refine hK.out _ _ hHeld ?_
        intro hHeld
        clear hK K
        refine norm_ (a' := ?_) ?_ ?_
        (rotate_left; focus (simp only [Act.put, List.setIfInBounds_toArray, List.set_cons_zero, List.set_cons_succ, i64_w, i32_w]; rfl))
        refine one_ (i := 6) (N := some 4) #[true, true, true, true, true, true, true, false] rfl rfl (by as_aux_lemma => kernel_rfl) (by decide) (fun K hK => ?_)
        refine value_ (v := .pointer (some ⟨w11.heap.size, 0, none⟩)) (w1 := (w11.alloc (.cells #[.string ⟨#[]⟩, .int .i64 0] 68))) (by rfl) rfl (by first | rfl | (go_simp; done) | (go_simp; rfl)) ?_
        have HB13 := Lib.hid (below_alloc HB11.out (.cells #[.string ⟨#[]⟩, .int .i64 0] 68))
        have HV103 := Lib.hid (heap_alloc_new w11 (.cells #[.string ⟨#[]⟩, .int .i64 0] 68))
        have hle : w.heap.size ≤ w11.heap.size := HB11.out.size
        have hne : w11.heap.size ≠ w.heap.size := fun e => by have := blk_lt hHeld; omega
        have hw1 := ((below_alloc (Below.refl _ _) (.cells #[.string ⟨#[]⟩, .int .i64 0] 68)).cell (World.block_lt_of_cell? _ _ hw1)).trans hw1
        have hw2 := ((below_alloc (Below.refl _ _) (.cells #[.string ⟨#[]⟩, .int .i64 0] 68)).cell (World.block_lt_of_cell? _ _ hw2)).trans hw2
        refine hK.out _ _ (blk_alloc hHeld _) ?_
        intro hHeld
        clear hK K
        generalize hgv : w11.heap.size = gv at *
        generalize (w11.alloc (.cells #[.string ⟨#[]⟩, .int .i64 0] 68)) = w13 at *
        refine norm_ (a' := ?_) ?_ ?_
        (rotate_left; focus (simp only [Act.put, List.setIfInBounds_toArray, List.set_cons_zero, List.set_cons_succ, i64_w, i32_w]; rfl))
        refine one_ (i := 7) (N := none) #[true, true, true, true, true, true, true, true] rfl rfl (by as_aux_lemma => kernel_rfl) (by decide) (fun K hK => ?_)
        have hz0 : w13.cell? ⟨gv, 0, none⟩ = some (.string ⟨#[]⟩) := (blk_cell HV103.out 0).trans rfl
        have hz1 : w13.cell? ⟨gv, 1, none⟩ = some (.int .i64 0) := (blk_cell HV103.out 1).trans rfl
        have hz2 := blk_frozen HV103.out 0
        have hz3 := blk_frozen HV103.out 1
        refine skip_ (w1 := ((w13.setCell ⟨gv, 0, none⟩ (.string wd)).setCell ⟨gv, 1, none⟩ (.int .i64 p))) (by rfl) rfl (by first | rfl | (go_simp; done) | (go_simp; rfl)) ?_
        refine hK.out _ _ (set2_keep hne HV103.out hHeld) ?_
        intro hHeld
        clear hK K
        refine done_ (by as_aux_lemma => kernel_rfl) ?_
        exact ⟨_, _, _, _, _, _, gv, rfl, set2_new HV103.out, hHeld, hne, set2_below hle HB13.out⟩
      · refine value_ (v := .pointer (some ⟨w11.heap.size, 0, none⟩)) (w1 := (w11.alloc (.cells #[.string ⟨#[]⟩, .int .i64 0] 68))) (by rfl) rfl (by first | rfl | (go_simp; done) | (go_simp; rfl)) ?_
        have HB15 := Lib.hid (below_alloc HB11.out (.cells #[.string ⟨#[]⟩, .int .i64 0] 68))
        have HV105 := Lib.hid (heap_alloc_new w11 (.cells #[.string ⟨#[]⟩, .int .i64 0] 68))
        have hle : w.heap.size ≤ w11.heap.size := HB11.out.size
        have hne : w11.heap.size ≠ w.heap.size := fun e => by have := blk_lt hHeld; omega
        have hw1 := ((below_alloc (Below.refl _ _) (.cells #[.string ⟨#[]⟩, .int .i64 0] 68)).cell (World.block_lt_of_cell? _ _ hw1)).trans hw1
        have hw2 := ((below_alloc (Below.refl _ _) (.cells #[.string ⟨#[]⟩, .int .i64 0] 68)).cell (World.block_lt_of_cell? _ _ hw2)).trans hw2
        refine hK.out _ _ (blk_alloc hHeld _) ?_
        intro hHeld
        clear hK K
        generalize hgv : w11.heap.size = gv at *
        generalize (w11.alloc (.cells #[.string ⟨#[]⟩, .int .i64 0] 68)) = w15 at *
        refine norm_ (a' := ?_) ?_ ?_
        (rotate_left; focus (simp only [Act.put, List.setIfInBounds_toArray, List.set_cons_zero, List.set_cons_succ, i64_w, i32_w]; rfl))
        refine one_ (i := 5) (N := some 14) #[true, true, true, true, true, true, true, false] rfl rfl (by as_aux_lemma => kernel_rfl) (by decide) (fun K hK => ?_)
        refine value_ (v := .agg #[.string wd, .int .i64 p]) (by rfl) rfl (by first | rfl | (go_simp; done) | (go_simp; rfl)) ?_
        refine hK.out _ _ hHeld ?_
        intro hHeld
        clear hK K
        refine norm_ (a' := ?_) ?_ ?_
        (rotate_left; focus (simp only [Act.put, List.setIfInBounds_toArray, List.set_cons_zero, List.set_cons_succ, i64_w, i32_w]; rfl))
        refine one_ (i := 7) (N := none) #[true, true, true, true, true, true, true, true] rfl rfl (by as_aux_lemma => kernel_rfl) (by decide) (fun K hK => ?_)
        have hz0 : w15.cell? ⟨gv, 0, none⟩ = some (.string ⟨#[]⟩) := (blk_cell HV105.out 0).trans rfl
        have hz1 : w15.cell? ⟨gv, 1, none⟩ = some (.int .i64 0) := (blk_cell HV105.out 1).trans rfl
        have hz2 := blk_frozen HV105.out 0
        have hz3 := blk_frozen HV105.out 1
        refine skip_ (w1 := ((w15.setCell ⟨gv, 0, none⟩ (.string wd)).setCell ⟨gv, 1, none⟩ (.int .i64 p))) (by rfl) rfl (by first | rfl | (go_simp; done) | (go_simp; rfl)) ?_
        refine hK.out _ _ (set2_keep hne HV105.out hHeld) ?_
        intro hHeld
        clear hK K
        refine done_ (by as_aux_lemma => kernel_rfl) ?_
        exact ⟨_, _, _, _, _, _, gv, rfl, set2_new HV105.out, hHeld, hne, set2_below hle HB15.out⟩
    · refine value_ (v := .pointer (some ⟨w3.heap.size, 0, none⟩)) (w1 := (w3.alloc (.cells #[.string ⟨#[]⟩, .int .i64 0] 68))) (by rfl) rfl (by first | rfl | (go_simp; done) | (go_simp; rfl)) ?_
      have HB18 := Lib.hid (below_alloc HB3.out (.cells #[.string ⟨#[]⟩, .int .i64 0] 68))
      have HV108 := Lib.hid (heap_alloc_new w3 (.cells #[.string ⟨#[]⟩, .int .i64 0] 68))
      have hle : w.heap.size ≤ w3.heap.size := HB3.out.size
      have hne : w3.heap.size ≠ w.heap.size := fun e => by have := blk_lt hHeld; omega
      refine hK.out _ _ (blk_alloc hHeld _) ?_
      intro hHeld
      clear hK K
      generalize hgv : w3.heap.size = gv at *
      generalize (w3.alloc (.cells #[.string ⟨#[]⟩, .int .i64 0] 68)) = w18 at *
      refine norm_ (a' := ?_) ?_ ?_
      (rotate_left; focus (simp only [Act.put, List.setIfInBounds_toArray, List.set_cons_zero, List.set_cons_succ, i64_w, i32_w]; rfl))
      refine one_ (i := 0) (N := some 9) #[true, true, true, true, false, false, true, false] rfl rfl (by as_aux_lemma => kernel_rfl) (by decide) (fun K hK => ?_)
      refine goes_ Tryd.func26 (by kernel_rfl) rfl #[] (by rfl) rfl rfl (by (try simp only [List.map_toArray, List.map_cons, List.map_nil]); first | done | rfl) ?_
      refine (HV.out _).mono ?_
      rintro e w19 ⟨ad, c, rfl, hc9, hw1, hw2, hb1⟩
      refine ⟨_, rfl, ?_⟩
      obtain ⟨pa, hpa⟩ : ∃ pa, pa = ad.add (i.toNat * 2) := ⟨_, rfl⟩
      rw [← hpa] at hw1 hw2
      have hia := idx_at ad c i hk0 hk9
      rw [← hpa] at hia
      clear hpa
      have HB19 := Lib.hid (below_step HB18.out hb1)
      have HV109 := Lib.hid (blk_below HV108.out hb1)
      refine hK.out _ _ (blk_below hHeld hb1) ?_
      intro hHeld
      clear hK K hb1
      refine norm_ (a' := ?_) ?_ ?_
      (rotate_left; focus (simp only [Act.put, List.setIfInBounds_toArray, List.set_cons_zero, List.set_cons_succ, i64_w, i32_w]; rfl))
      refine pure_ (i := 4) (N := some 13) (v := ?_) (a' := ?_) #[true, true, true, true, true, false, true, false] rfl rfl (by as_aux_lemma => kernel_rfl) (fun _ _ _ h => h) (Or.inl ⟨by rfl, ?_⟩) ?_ ?_
      rotate_left
      · intro w'
        (go_simp; with_reducible rfl)
      (rotate_left; focus (simp only [Act.put, List.setIfInBounds_toArray, List.set_cons_zero, List.set_cons_succ, i64_w, i32_w]; rfl))
      refine one_ (i := 5) (N := some 14) #[true, true, true, true, true, true, true, false] rfl rfl (by as_aux_lemma => kernel_rfl) (by decide) (fun K hK => ?_)
      refine value_ (v := .agg #[.string wd, .int .i64 p]) (by rfl) rfl (by first | rfl | (go_simp; done) | (go_simp; rfl)) ?_
      refine hK.out _ _ hHeld ?_
      intro hHeld
      clear hK K
      refine norm_ (a' := ?_) ?_ ?_
      (rotate_left; focus (simp only [Act.put, List.setIfInBounds_toArray, List.set_cons_zero, List.set_cons_succ, i64_w, i32_w]; rfl))
      refine one_ (i := 7) (N := none) #[true, true, true, true, true, true, true, true] rfl rfl (by as_aux_lemma => kernel_rfl) (by decide) (fun K hK => ?_)
      have hz0 : w19.cell? ⟨gv, 0, none⟩ = some (.string ⟨#[]⟩) := (blk_cell HV109.out 0).trans rfl
      have hz1 : w19.cell? ⟨gv, 1, none⟩ = some (.int .i64 0) := (blk_cell HV109.out 1).trans rfl
      have hz2 := blk_frozen HV109.out 0
      have hz3 := blk_frozen HV109.out 1
      refine skip_ (w1 := ((w19.setCell ⟨gv, 0, none⟩ (.string wd)).setCell ⟨gv, 1, none⟩ (.int .i64 p))) (by rfl) rfl (by first | rfl | (go_simp; done) | (go_simp; rfl)) ?_
      refine hK.out _ _ (set2_keep hne HV109.out hHeld) ?_
      intro hHeld
      clear hK K
      refine done_ (by as_aux_lemma => kernel_rfl) ?_
      exact ⟨_, _, _, _, _, _, gv, rfl, set2_new HV109.out, hHeld, hne, set2_below hle HB19.out⟩
  intro e a' w4 hq
  cases e
  case normal =>
    obtain ⟨v9, v10, v11, v12, v13, v14, gv, rfl, hV4, hG4, hne4, hB4⟩ := hq
    have y0 : w4.cell? ⟨gv, 0, none⟩ = some (.string wd) := (blk_cell hV4 0).trans rfl
    have L4 := Lib.hid (Ln.mk hB4 hV4 hG4)
    clear hV4 hG4 hne4 hB4 HV HBX HBel HB0 HG0 HC hw hwA hk0 hkT hkU hk9 hi x0
    rcases hpc with rfl | rfl | rfl | rfl | rfl
    · go_wp2_with (first | ((with_reducible refine gate_dst (N := 17) rfl ?_); refine Kd.R_lit Kd.string (w0 := w) w.heap.size 9 ?hg (N := 17) ?hd (xs := ([wd] : List ByteArray)) (inner := [.string wd]) (ok := fun _ => True) (okp := fun _ => True) ?hr ?hp (fun _ hk => hk) trivial L4.out.b L4.out.b.size (by simp) ?_; (case hd => rfl); (case hg => rfl); (case hr => first | (go_simp; done) | (go_simp; rfl)); (case hp => exact (Reps.one (show Kd.M Kd.string _ _ _ wd [.string wd] from rfl) (Reps.none _ _))); intro v5 w5 hR hb hg_ hat_; have L5 := Lib.hid (L4.out.lit hb hg_); have R5 := Lib.hid hR; clear hR hb hg_ hat_; have y5 := L5.out.y1; have xa5 := L5.out.x1; have xb5 := L5.out.x2; have xc5 := L5.out.x3) | (go_at_call 31; have HJ := Lib.hid (join_own (sep := blank) R5.out (join_any [wd] (by simp) (by simp) (by intro s hs; simp only [List.mem_cons, List.not_mem_nil, or_false] at hs; rcases hs with rfl; all_goals first | omega | (have := itoa_size3 n hn0 hn1; omega) | exact tell_size _ hk16 | exact tell_size _ hv16))); have HE : Hid (mk (joinL [wd] blank) = res) := Lib.hid (by rw [HL.out, HW.out]; first | rfl | simp); rw [HE.out] at HJ; refine HJ.out.mono ?_; rintro e w6 ⟨rfl, hb⟩; have HBE := Lib.hid (below_step L5.out.b hb); clear hb))
      go_ret2
      exact ⟨rfl, HBE.out⟩
    · go_wp2_with (first | ((with_reducible refine gate_dst (N := 17) rfl ?_); refine Kd.R_lit Kd.string (w0 := w) w.heap.size 9 ?hg (N := 17) ?hd (xs := ([wd] : List ByteArray)) (inner := [.string wd]) (ok := fun _ => True) (okp := fun _ => True) ?hr ?hp (fun _ hk => hk) trivial L4.out.b L4.out.b.size (by simp) ?_; (case hd => rfl); (case hg => rfl); (case hr => first | (go_simp; done) | (go_simp; rfl)); (case hp => exact (Reps.one (show Kd.M Kd.string _ _ _ wd [.string wd] from rfl) (Reps.none _ _))); intro v5 w5 hR hb hg_ hat_; have L5 := Lib.hid (L4.out.lit hb hg_); have R5 := Lib.hid hR; clear hR hb hg_ hat_; have y5 := L5.out.y1; have xa5 := L5.out.x1; have xb5 := L5.out.x2; have xc5 := L5.out.x3) | (go_at_call 18; with_reducible refine (strconv_Itoa_18.calls n (itoaB n) _ (itoa18' n hn0 hn1) (HT.out _ L5.out.b)).mono ?_; rintro e w6 ⟨rfl, hb⟩; have L6 := Lib.hid (L5.out.below hb); have R6 := Lib.hid (Kd.R_below R5.out hb); clear hb) | ((with_reducible refine gate_builtin (b := .append) (xs := #[.tmp 22, .tmp 26]) rfl ?_); at_builtin; refine Kd.R_append Kd.string (w0 := w) w.heap.size rfl (.tmp 22) (.tmp 26) 25 9 (.string ⟨#[]⟩) 16 rfl Tryd.underlying25 infoStr rfl (by decide) (by omega) _ [wd] (itoaB n) [.string (itoaB n)] (fun _ => True) (fun _ => False) rfl rfl rfl (fun _ hk => hk.elim) (fun _ _ => trivial) R6.out L6.out.b L6.out.b.size (by simp) ?_; intro v7 w7 hR hb hg_ hat_; have L7 := Lib.hid (L6.out.grown R6.out hb hg_); have R7 := Lib.hid hR; clear hR hb hg_ hat_; have y7 := L7.out.y1; have xa7 := L7.out.x1; have xb7 := L7.out.x2; have xc7 := L7.out.x3) | (go_at_call 31; have HJ := Lib.hid (join_own (sep := blank) R7.out (join_any [wd, (itoaB n)] (by simp) (by simp) (by intro s hs; simp only [List.mem_cons, List.not_mem_nil, or_false] at hs; rcases hs with rfl | rfl; all_goals first | omega | (have := itoa_size3 n hn0 hn1; omega) | exact tell_size _ hk16 | exact tell_size _ hv16))); have HE : Hid (mk (joinL [wd, (itoaB n)] blank) = res) := Lib.hid (by rw [HL.out, HW.out]; first | rfl | simp); rw [HE.out] at HJ; refine HJ.out.mono ?_; rintro e w8 ⟨rfl, hb⟩; have HBE := Lib.hid (below_step L7.out.b hb); clear hb))
      go_ret2
      exact ⟨rfl, HBE.out⟩
    · go_wp2_with (first | ((with_reducible refine gate_dst (N := 17) rfl ?_); refine Kd.R_lit Kd.string (w0 := w) w.heap.size 9 ?hg (N := 17) ?hd (xs := ([wd] : List ByteArray)) (inner := [.string wd]) (ok := fun _ => True) (okp := fun _ => True) ?hr ?hp (fun _ hk => hk) trivial L4.out.b L4.out.b.size (by simp) ?_; (case hd => rfl); (case hg => rfl); (case hr => first | (go_simp; done) | (go_simp; rfl)); (case hp => exact (Reps.one (show Kd.M Kd.string _ _ _ wd [.string wd] from rfl) (Reps.none _ _))); intro v5 w5 hR hb hg_ hat_; have L5 := Lib.hid (L4.out.lit hb hg_); have R5 := Lib.hid hR; clear hR hb hg_ hat_; have y5 := L5.out.y1; have xa5 := L5.out.x1; have xb5 := L5.out.x2; have xc5 := L5.out.x3) | (go_at_call 17; with_reducible refine (client_text.calls key (tellS key) _ (text17' key hk16)).mono ?_; rintro e w6 ⟨rfl, hb⟩; have L6 := Lib.hid (L5.out.below hb); have R6 := Lib.hid (Kd.R_below R5.out hb); clear hb) | ((with_reducible refine gate_builtin (b := .append) (xs := #[.tmp 32, .tmp 36]) rfl ?_); at_builtin; refine Kd.R_append Kd.string (w0 := w) w.heap.size rfl (.tmp 32) (.tmp 36) 25 9 (.string ⟨#[]⟩) 16 rfl Tryd.underlying25 infoStr rfl (by decide) (by omega) _ [wd] (tellS key) [.string (tellS key)] (fun _ => True) (fun _ => False) rfl rfl rfl (fun _ hk => hk.elim) (fun _ _ => trivial) R6.out L6.out.b L6.out.b.size (by simp) ?_; intro v7 w7 hR hb hg_ hat_; have L7 := Lib.hid (L6.out.grown R6.out hb hg_); have R7 := Lib.hid hR; clear hR hb hg_ hat_; have y7 := L7.out.y1; have xa7 := L7.out.x1; have xb7 := L7.out.x2; have xc7 := L7.out.x3) | (go_at_call 31; have HJ := Lib.hid (join_own (sep := blank) R7.out (join_any [wd, (tellS key)] (by simp) (by simp) (by intro s hs; simp only [List.mem_cons, List.not_mem_nil, or_false] at hs; rcases hs with rfl | rfl; all_goals first | omega | (have := itoa_size3 n hn0 hn1; omega) | exact tell_size _ hk16 | exact tell_size _ hv16))); have HE : Hid (mk (joinL [wd, (tellS key)] blank) = res) := Lib.hid (by rw [HL.out, HW.out]; first | rfl | simp); rw [HE.out] at HJ; refine HJ.out.mono ?_; rintro e w8 ⟨rfl, hb⟩; have HBE := Lib.hid (below_step L7.out.b hb); clear hb))
      go_ret2
      exact ⟨rfl, HBE.out⟩
    · go_wp2_with (first | ((with_reducible refine gate_dst (N := 17) rfl ?_); refine Kd.R_lit Kd.string (w0 := w) w.heap.size 9 ?hg (N := 17) ?hd (xs := ([wd] : List ByteArray)) (inner := [.string wd]) (ok := fun _ => True) (okp := fun _ => True) ?hr ?hp (fun _ hk => hk) trivial L4.out.b L4.out.b.size (by simp) ?_; (case hd => rfl); (case hg => rfl); (case hr => first | (go_simp; done) | (go_simp; rfl)); (case hp => exact (Reps.one (show Kd.M Kd.string _ _ _ wd [.string wd] from rfl) (Reps.none _ _))); intro v5 w5 hR hb hg_ hat_; have L5 := Lib.hid (L4.out.lit hb hg_); have R5 := Lib.hid hR; clear hR hb hg_ hat_; have y5 := L5.out.y1; have xa5 := L5.out.x1; have xb5 := L5.out.x2; have xc5 := L5.out.x3) | (go_at_call 18; with_reducible refine (strconv_Itoa_18.calls n (itoaB n) _ (itoa18' n hn0 hn1) (HT.out _ L5.out.b)).mono ?_; rintro e w6 ⟨rfl, hb⟩; have L6 := Lib.hid (L5.out.below hb); have R6 := Lib.hid (Kd.R_below R5.out hb); clear hb) | ((with_reducible refine gate_builtin (b := .append) (xs := #[.tmp 22, .tmp 26]) rfl ?_); at_builtin; refine Kd.R_append Kd.string (w0 := w) w.heap.size rfl (.tmp 22) (.tmp 26) 25 9 (.string ⟨#[]⟩) 16 rfl Tryd.underlying25 infoStr rfl (by decide) (by omega) _ [wd] (itoaB n) [.string (itoaB n)] (fun _ => True) (fun _ => False) rfl rfl rfl (fun _ hk => hk.elim) (fun _ _ => trivial) R6.out L6.out.b L6.out.b.size (by simp) ?_; intro v7 w7 hR hb hg_ hat_; have L7 := Lib.hid (L6.out.grown R6.out hb hg_); have R7 := Lib.hid hR; clear hR hb hg_ hat_; have y7 := L7.out.y1; have xa7 := L7.out.x1; have xb7 := L7.out.x2; have xc7 := L7.out.x3) | (go_at_call 17; with_reducible refine (client_text.calls key (tellS key) _ (text17' key hk16)).mono ?_; rintro e w8 ⟨rfl, hb⟩; have L8 := Lib.hid (L7.out.below hb); have R8 := Lib.hid (Kd.R_below R7.out hb); clear hb) | ((with_reducible refine gate_builtin (b := .append) (xs := #[.tmp 32, .tmp 36]) rfl ?_); at_builtin; refine Kd.R_append Kd.string (w0 := w) w.heap.size rfl (.tmp 32) (.tmp 36) 25 9 (.string ⟨#[]⟩) 16 rfl Tryd.underlying25 infoStr rfl (by decide) (by omega) _ [wd, (itoaB n)] (tellS key) [.string (tellS key)] (fun _ => True) (fun _ => False) rfl rfl rfl (fun _ hk => hk.elim) (fun _ _ => trivial) R8.out L8.out.b L8.out.b.size (by simp) ?_; intro v9 w9 hR hb hg_ hat_; have L9 := Lib.hid (L8.out.grown R8.out hb hg_); have R9 := Lib.hid hR; clear hR hb hg_ hat_; have y9 := L9.out.y1; have xa9 := L9.out.x1; have xb9 := L9.out.x2; have xc9 := L9.out.x3) | (go_at_call 31; have HJ := Lib.hid (join_own (sep := blank) R9.out (join_any [wd, (itoaB n), (tellS key)] (by simp) (by simp) (by intro s hs; simp only [List.mem_cons, List.not_mem_nil, or_false] at hs; rcases hs with rfl | rfl | rfl; all_goals first | omega | (have := itoa_size3 n hn0 hn1; omega) | exact tell_size _ hk16 | exact tell_size _ hv16))); have HE : Hid (mk (joinL [wd, (itoaB n), (tellS key)] blank) = res) := Lib.hid (by rw [HL.out, HW.out]; first | rfl | simp); rw [HE.out] at HJ; refine HJ.out.mono ?_; rintro e w10 ⟨rfl, hb⟩; have HBE := Lib.hid (below_step L9.out.b hb); clear hb))
      go_ret2
      exact ⟨rfl, HBE.out⟩
    · go_wp2_with (first | ((with_reducible refine gate_dst (N := 17) rfl ?_); refine Kd.R_lit Kd.string (w0 := w) w.heap.size 9 ?hg (N := 17) ?hd (xs := ([wd] : List ByteArray)) (inner := [.string wd]) (ok := fun _ => True) (okp := fun _ => True) ?hr ?hp (fun _ hk => hk) trivial L4.out.b L4.out.b.size (by simp) ?_; (case hd => rfl); (case hg => rfl); (case hr => first | (go_simp; done) | (go_simp; rfl)); (case hp => exact (Reps.one (show Kd.M Kd.string _ _ _ wd [.string wd] from rfl) (Reps.none _ _))); intro v5 w5 hR hb hg_ hat_; have L5 := Lib.hid (L4.out.lit hb hg_); have R5 := Lib.hid hR; clear hR hb hg_ hat_; have y5 := L5.out.y1; have xa5 := L5.out.x1; have xb5 := L5.out.x2; have xc5 := L5.out.x3) | (go_at_call 18; with_reducible refine (strconv_Itoa_18.calls n (itoaB n) _ (itoa18' n hn0 hn1) (HT.out _ L5.out.b)).mono ?_; rintro e w6 ⟨rfl, hb⟩; have L6 := Lib.hid (L5.out.below hb); have R6 := Lib.hid (Kd.R_below R5.out hb); clear hb) | ((with_reducible refine gate_builtin (b := .append) (xs := #[.tmp 22, .tmp 26]) rfl ?_); at_builtin; refine Kd.R_append Kd.string (w0 := w) w.heap.size rfl (.tmp 22) (.tmp 26) 25 9 (.string ⟨#[]⟩) 16 rfl Tryd.underlying25 infoStr rfl (by decide) (by omega) _ [wd] (itoaB n) [.string (itoaB n)] (fun _ => True) (fun _ => False) rfl rfl rfl (fun _ hk => hk.elim) (fun _ _ => trivial) R6.out L6.out.b L6.out.b.size (by simp) ?_; intro v7 w7 hR hb hg_ hat_; have L7 := Lib.hid (L6.out.grown R6.out hb hg_); have R7 := Lib.hid hR; clear hR hb hg_ hat_; have y7 := L7.out.y1; have xa7 := L7.out.x1; have xb7 := L7.out.x2; have xc7 := L7.out.x3) | (go_at_call 17; with_reducible refine (client_text.calls key (tellS key) _ (text17' key hk16)).mono ?_; rintro e w8 ⟨rfl, hb⟩; have L8 := Lib.hid (L7.out.below hb); have R8 := Lib.hid (Kd.R_below R7.out hb); clear hb) | ((with_reducible refine gate_builtin (b := .append) (xs := #[.tmp 32, .tmp 36]) rfl ?_); at_builtin; refine Kd.R_append Kd.string (w0 := w) w.heap.size rfl (.tmp 32) (.tmp 36) 25 9 (.string ⟨#[]⟩) 16 rfl Tryd.underlying25 infoStr rfl (by decide) (by omega) _ [wd, (itoaB n)] (tellS key) [.string (tellS key)] (fun _ => True) (fun _ => False) rfl rfl rfl (fun _ hk => hk.elim) (fun _ _ => trivial) R8.out L8.out.b L8.out.b.size (by simp) ?_; intro v9 w9 hR hb hg_ hat_; have L9 := Lib.hid (L8.out.grown R8.out hb hg_); have R9 := Lib.hid hR; clear hR hb hg_ hat_; have y9 := L9.out.y1; have xa9 := L9.out.x1; have xb9 := L9.out.x2; have xc9 := L9.out.x3) | (go_at_call 17; with_reducible refine (client_text.calls val (tellS val) _ (text17' val hv16)).mono ?_; rintro e w10 ⟨rfl, hb⟩; have L10 := Lib.hid (L9.out.below hb); have R10 := Lib.hid (Kd.R_below R9.out hb); clear hb) | ((with_reducible refine gate_builtin (b := .append) (xs := #[.tmp 42, .tmp 46]) rfl ?_); at_builtin; refine Kd.R_append Kd.string (w0 := w) w.heap.size rfl (.tmp 42) (.tmp 46) 25 9 (.string ⟨#[]⟩) 16 rfl Tryd.underlying25 infoStr rfl (by decide) (by omega) _ [wd, (itoaB n), (tellS key)] (tellS val) [.string (tellS val)] (fun _ => True) (fun _ => False) rfl rfl rfl (fun _ hk => hk.elim) (fun _ _ => trivial) R10.out L10.out.b L10.out.b.size (by simp) ?_; intro v11 w11 hR hb hg_ hat_; have L11 := Lib.hid (L10.out.grown R10.out hb hg_); have R11 := Lib.hid hR; clear hR hb hg_ hat_; have y11 := L11.out.y1; have xa11 := L11.out.x1; have xb11 := L11.out.x2; have xc11 := L11.out.x3) | (go_at_call 31; have HJ := Lib.hid (join_own (sep := blank) R11.out (join_any [wd, (itoaB n), (tellS key), (tellS val)] (by simp) (by simp) (by intro s hs; simp only [List.mem_cons, List.not_mem_nil, or_false] at hs; rcases hs with rfl | rfl | rfl | rfl; all_goals first | omega | (have := itoa_size3 n hn0 hn1; omega) | exact tell_size _ hk16 | exact tell_size _ hv16))); have HE : Hid (mk (joinL [wd, (itoaB n), (tellS key), (tellS val)] blank) = res) := Lib.hid (by rw [HL.out, HW.out]; first | rfl | simp); rw [HE.out] at HJ; refine HJ.out.mono ?_; rintro e w12 ⟨rfl, hb⟩; have HBE := Lib.hid (below_step L11.out.b hb); clear hb))
      go_ret2
      exact ⟨rfl, HBE.out⟩
  all_goals exact hq.elim
end Go.Proofs.YtiidffblbpoijaaDoor
