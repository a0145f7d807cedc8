/-
  client.Parse: a line's operation.
-/
import Derived.Test.YtiidffblbpoijaaDoorCbPrint
import Derived.Test.YtiidffblbpoijaaDoorCbWords
import Derived.Test.YtiidffblbpoijaaDoorCbPureW
namespace Go.Proofs.YtiidffblbpoijaaDoor
open Go.RowKit Go.Proofs.YtiidffblbpoijaaDoor.Q33 Go.Proofs.YtiidffblbpoijaaDoorW.PrintWords Go.Proofs.YtiidffblbpoijaaDoorW.PrintLast Go.Proofs.YtiidffblbpoijaaDoorW.PrintMore
set_option linter.unnecessarySimpa false
set_option linter.unusedVariables false
set_option linter.unusedSimpArgs false
/-- A line's words. -/
def wsOf (line : ByteArray) : List ByteArray := Lib.splitB blank 0 (Lib.countB line blank) line
def wdAt (line : ByteArray) (j : Nat) : ByteArray := (wsOf line).getD j ByteArray.empty
/-- The kind that a word names; 0, if none. -/
def kindOf (s : ByteArray) : Int := if s = wordB 1 then 1 else if s = wordB 2 then 2 else if s = wordB 3 then 3 else if s = wordB 4 then 4 else if s = wordB 5 then 5 else if s = wordB 6 then 6 else if s = wordB 7 then 7 else if s = wordB 8 then 8 else if s = wordB 9 then 9 else 0
def candO (k : Int) (line : ByteArray) : Op := ⟨k, if partsOf k = 1 ∨ partsOf k = 3 ∨ partsOf k = 7 then atoiN (wdAt line 1) else 0, if partsOf k = 2 then untS (wdAt line 1) else if partsOf k = 3 ∨ partsOf k = 7 then untS (wdAt line 2) else ⟨#[]⟩, if partsOf k = 7 then untS (wdAt line 3) else ⟨#[]⟩⟩
def parseR (line : ByteArray) : Op × Int :=
  if kindOf (wdAt line 0) = 0 then (zOp, 2)
  else if rightO (candO (kindOf (wdAt line 0)) line) = true ∧ lineB (candO (kindOf (wdAt line 0)) line) = line then (candO (kindOf (wdAt line 0)) line, 0) else (zOp, 2)
theorem index_cases (s : ByteArray) : Lib.indexB s blank = -1 ∨ ∃ i : Nat, Lib.indexB s blank = i := by
  by_cases h : Lib.indexB s blank = -1
  · exact .inl h
  · have : ∀ a : List UInt8, Lib.index a [32] = -1 ∨ 0 ≤ Lib.index a [32] := by
      intro a
      by_cases hm : (32 : UInt8) ∈ a
      · obtain ⟨x, r, rfl, hx⟩ := mid_of_mem 32 a hm
        rw [index_mid 32 r x hx]
        exact .inr (by omega)
      · exact .inl (index_none 32 a hm)
    rcases this s.data.toList with h1 | h1
    · exact absurd h1 h
    · exact .inr ⟨(Lib.indexB s blank).toNat, by have : 0 ≤ Lib.indexB s blank := h1; omega⟩
theorem split_len : ∀ (n : Nat) (s : ByteArray), Lib.countB s blank = n → (Lib.splitB blank 0 n s).length = n + 1 ∧ ∀ x ∈ Lib.splitB blank 0 n s, x.size ≤ s.size
  | 0, s, _ => ⟨rfl, fun x hx => by rw [Lib.splitB_zero, List.mem_singleton] at hx; rw [hx]; exact Nat.le_refl _⟩
  | n + 1, s, h => by
    rcases index_cases s with h1 | ⟨i, h1⟩
    · rw [Lib.countB_miss s blank h1] at h; omega
    · rw [Lib.countB_hit s blank i (by decide) h1] at h
      have ih := split_len n _ (by omega : Lib.countB (s.extract (i + blank.size) s.size) blank = n)
      rw [Lib.splitB_hit _ _ _ _ _ h1]
      refine ⟨by rw [List.length_cons, ih.1], fun x hx => ?_⟩
      rcases List.mem_cons.1 hx with rfl | hx
      · rw [ByteArray.size_extract]; omega
      · have := ih.2 x hx
        rw [ByteArray.size_extract] at this
        omega
theorem wsOf_len (line : ByteArray) : (wsOf line).length = Lib.countB line blank + 1 := (split_len _ line rfl).1
theorem count_le (line : ByteArray) : Lib.countB line blank ≤ line.size + 1 := by
  have := Lib.count_le line.data.toList blank.data.toList
  have h : line.data.toList.length = line.size := by simp
  have h2 : Lib.countB line blank = Lib.count line.data.toList blank.data.toList := rfl
  omega
theorem wd_size (line : ByteArray) (j : Nat) : (wdAt line j).size ≤ line.size := by
  unfold wdAt
  rw [List.getD_eq_getElem?_getD]
  cases h : (wsOf line)[j]? with
  | none => exact Nat.zero_le _
  | some x => exact (split_len _ line rfl).2 x (List.mem_of_getElem? h)
theorem wd_min (line : ByteArray) (j : Nat) : (wsOf line).getD (min j (wsOf line).length) ByteArray.empty = wdAt line j := by
  unfold wdAt
  by_cases h : j ≤ (wsOf line).length
  · rw [Nat.min_eq_left h]
  · rw [Nat.min_eq_right (by omega), List.getD_eq_getElem?_getD, List.getD_eq_getElem?_getD, List.getElem?_eq_none (Nat.le_refl _), List.getElem?_eq_none (by omega)]
theorem isV_eq {s : ByteArray} {x : Vb} : isV s x = true ↔ s = x.f0 := by
  unfold isV
  rw [beq_iff_eq, ByteArray.toList_eq, ByteArray.toList_eq]
  constructor
  · intro h
    cases s with | mk a =>
    cases hx : x.f0 with | mk b =>
    rw [hx] at h
    congr 1
    exact (Array.toList_inj.1 h).symm
  · rintro rfl; rfl
theorem kind_some (s : ByteArray) (i : Nat) (hi : i < 9) (h : isV s (verbsL.getD i zVb) = true) : kindOf s = (i : Int) + 1 := by
  have h1 : s = (verbsL.getD i zVb).f0 := isV_eq.1 h
  subst h1
  rcases (by omega : i = 0 ∨ i = 1 ∨ i = 2 ∨ i = 3 ∨ i = 4 ∨ i = 5 ∨ i = 6 ∨ i = 7 ∨ i = 8) with rfl | rfl | rfl | rfl | rfl | rfl | rfl | rfl | rfl <;> decide
theorem kind_none (s : ByteArray) (h : ∀ j, j < 9 → isV s (verbsL.getD j zVb) = false) : kindOf s = 0 := by
  have f : ∀ j : Nat, j < 9 → s ≠ wordB (j + 1) := by
    intro j hj he
    have h1 := h j hj
    have h2 : isV s (verbsL.getD j zVb) = true := by
      rw [isV_eq, he]
      rcases (by omega : j = 0 ∨ j = 1 ∨ j = 2 ∨ j = 3 ∨ j = 4 ∨ j = 5 ∨ j = 6 ∨ j = 7 ∨ j = 8) with rfl | rfl | rfl | rfl | rfl | rfl | rfl | rfl | rfl <;> rfl
    rw [h1] at h2
    cases h2
  have f1 : s ≠ wordB 1 := f 0 (by decide)
  have f2 : s ≠ wordB 2 := f 1 (by decide)
  have f3 : s ≠ wordB 3 := f 2 (by decide)
  have f4 : s ≠ wordB 4 := f 3 (by decide)
  have f5 : s ≠ wordB 5 := f 4 (by decide)
  have f6 : s ≠ wordB 6 := f 5 (by decide)
  have f7 : s ≠ wordB 7 := f 6 (by decide)
  have f8 : s ≠ wordB 8 := f 7 (by decide)
  have f9 : s ≠ wordB 9 := f 8 (by decide)
  unfold kindOf
  rw [if_neg f1, if_neg f2, if_neg f3, if_neg f4, if_neg f5, if_neg f6, if_neg f7, if_neg f8, if_neg f9]
def SplitPost (line : ByteArray) (W : World) (e : Ending) (w' : World) : Prop := ∃ B, e = .returned (.slice (some ⟨B, 0, none⟩) (wsOf line).length (wsOf line).length) ∧ w'.heap[B]? = some (.cells ((wsOf line).map Value.string).toArray 9 (0, 0)) ∧ Below W.heap.size W w' ∧ W.heap.size ≤ B
theorem split_any (line : ByteArray) (hl : line.size ≤ 900000) (W : World) (ht : Tabs W) : Calls Tryd.prog 23 #[.string line, .string blank] W (SplitPost line W) := by
  obtain ⟨m, hm⟩ := ht.maxLen
  refine (Tryd.strings_Split line blank m W (by omega) hm (by decide)).mono ?_
  rintro e w' ⟨rfl, rfl⟩
  refine ⟨W.heap.size, by rw [wsOf_len], heap_alloc_new _ _, below_alloc (Below.refl _ _) _, Nat.le_refl _⟩
theorem verbsL_len : verbsL.length = 9 := rfl
theorem idx_any (A : Option Addr) (c : Nat) (first : ByteArray) (F : Nat) (W : World) (hF : W.cell? ⟨F, 0, none⟩ = some (.string first)) (hr : Kd.C k68 W A 9 verbsL) :
    Calls Tryd.prog 25 #[.slice A 9 c, .func (.func 27) #[] #[.pointer (some ⟨F, 0, none⟩)]] W fun e w' => e = .returned (.int .i64 (kindOf first - 1)) ∧ Below W.heap.size W w' := by
  have h := idxVerb A c verbsL first F W hF (by rw [verbsL_len]; exact hr)
  rw [verbsL_len] at h
  refine h.mono ?_
  rintro e w' ⟨r, rfl, h1 | h1, hb⟩
  · obtain ⟨i, hi, rfl, hv⟩ := h1
    rw [verbsL_len] at hi
    rw [kind_some first i hi hv]
    exact ⟨by congr 2; omega, hb⟩
  · obtain ⟨rfl, hv⟩ := h1
    rw [verbsL_len] at hv
    rw [kind_none first hv]
    exact ⟨rfl, hb⟩
def zc : Array Value := #[.int .i64 0, .int .i64 0, .string ⟨#[]⟩, .string ⟨#[]⟩]
/-- What is known of the memory behind a word that was taken: the result's cell, the words. -/
structure P0 (w W : World) (G B : Nat) (ws : List ByteArray) (j : Nat) : Prop where
  b : Below w.heap.size w W
  d : Wds W G B ws j
  r : W.heap[w.heap.size]? = some (.cells #[.int .i64 0, .int .i64 0, .string ⟨#[]⟩, .string ⟨#[]⟩] 43 (0, 0))
  g : w.heap.size < G
theorem P0.below {w W W' : World} {G B : Nat} {ws : List ByteArray} {j : Nat} (h : P0 w W G B ws j) (hb : Below W.heap.size W W') : P0 w W' G B ws j := ⟨below_step h.b hb, h.d.below hb, blk_below h.r hb, h.g⟩
theorem P0.but {w W W' : World} {G B : Nat} {ws : List ByteArray} {j k : Nat} (h : P0 w W G B ws j) (hd : Wds W' G B ws k) (bt : But G W W') (hb : Below G W W') : P0 w W' G B ws k :=
  ⟨h.b.trans (hb.mono (by have := h.g; omega)), hd, (bt.at_ _ (blk_lt h.r) (by have := h.g; omega)).trans h.r, h.g⟩
section
variable {W : World} {g : Nat} {T : TypeId} {a b c d a' b' c' d' : Value}
theorem set4 (h : W.heap[g]? = some (.cells #[a, b, c, d] T (0, 0))) : ((((W.setCell ⟨g, 0, none⟩ a').setCell ⟨g, 1, none⟩ b').setCell ⟨g, 2, none⟩ c').setCell ⟨g, 3, none⟩ d').heap[g]? = some (.cells #[a', b', c', d'] T (0, 0)) :=
  blk_put (blk_put (blk_put (blk_put h 0 a' rfl) 1 b' rfl) 2 c' rfl) 3 d' rfl
theorem set4_below : Below g W ((((W.setCell ⟨g, 0, none⟩ a').setCell ⟨g, 1, none⟩ b').setCell ⟨g, 2, none⟩ c').setCell ⟨g, 3, none⟩ d') :=
  (((((⟨rfl, rfl, rfl, Nat.le_refl _, fun _ _ => rfl⟩ : Below g W W)).setCell (p := ⟨g, 0, none⟩) (Nat.le_refl _) a').setCell (p := ⟨g, 1, none⟩) (Nat.le_refl _) b').setCell (p := ⟨g, 2, none⟩) (Nat.le_refl _) c').setCell (p := ⟨g, 3, none⟩) (Nat.le_refl _) d'
theorem set4_far {k : Nat} (hne : k ≠ g) : ((((W.setCell ⟨g, 0, none⟩ a').setCell ⟨g, 1, none⟩ b').setCell ⟨g, 2, none⟩ c').setCell ⟨g, 3, none⟩ d').heap[k]? = W.heap[k]? := by
  rw [Below.heap_setCell _ ⟨g, 3, none⟩ d' k hne, Below.heap_setCell _ ⟨g, 2, none⟩ c' k hne, Below.heap_setCell _ ⟨g, 1, none⟩ b' k hne, Below.heap_setCell _ ⟨g, 0, none⟩ a' k hne]
theorem set4_size : ((((W.setCell ⟨g, 0, none⟩ a').setCell ⟨g, 1, none⟩ b').setCell ⟨g, 2, none⟩ c').setCell ⟨g, 3, none⟩ d').heap.size = W.heap.size := by simp [World.setCell]
end
theorem P0.r0 {w W : World} {G B : Nat} {ws : List ByteArray} {j : Nat} (h : P0 w W G B ws j) : W.cell? ⟨w.heap.size, 0, none⟩ = some (.int .i64 0) := (blk_cell h.r 0).trans rfl
theorem P0.r1 {w W : World} {G B : Nat} {ws : List ByteArray} {j : Nat} (h : P0 w W G B ws j) : W.cell? ⟨w.heap.size, 1, none⟩ = some (.int .i64 0) := (blk_cell h.r 1).trans rfl
theorem P0.r2 {w W : World} {G B : Nat} {ws : List ByteArray} {j : Nat} (h : P0 w W G B ws j) : W.cell? ⟨w.heap.size, 2, none⟩ = some (.string ⟨#[]⟩) := (blk_cell h.r 2).trans rfl
theorem P0.r3 {w W : World} {G B : Nat} {ws : List ByteArray} {j : Nat} (h : P0 w W G B ws j) : W.cell? ⟨w.heap.size, 3, none⟩ = some (.string ⟨#[]⟩) := (blk_cell h.r 3).trans rfl
theorem P0.fr {w W : World} {G B : Nat} {ws : List ByteArray} {j : Nat} (h : P0 w W G B ws j) (i : Nat) : W.frozen? ⟨w.heap.size, i, none⟩ = false := blk_frozen h.r i
/-- The same beside the operation that is built. -/
structure P1 (w W : World) (G B O : Nat) (ws : List ByteArray) (j : Nat) (k n : Int) (ke va : ByteArray) : Prop where
  p0 : P0 w W G B ws j
  o : W.heap[O]? = some (.cells #[.int .i64 k, .int .i64 n, .string ke, .string va] 43 (0, 0))
  go : G ≠ O
  bo : B ≠ O
  ro : w.heap.size < O
section
variable {w W W' : World} {G B O : Nat} {ws : List ByteArray} {j : Nat} {k n : Int} {ke va : ByteArray}
theorem P1.below (h : P1 w W G B O ws j k n ke va) (hb : Below W.heap.size W W') : P1 w W' G B O ws j k n ke va := ⟨h.p0.below hb, blk_below h.o hb, h.go, h.bo, h.ro⟩
theorem P1.but {j' j'' : Nat} (h : P1 w W G B O ws j k n ke va) (hd : Wds W' G B ws j') (hj : j' = j'') (bt : But G W W') (hb : Below G W W') : P1 w W' G B O ws j'' k n ke va :=
  ⟨h.p0.but (hj ▸ hd) bt hb, (bt.at_ _ (blk_lt h.o) (fun e => h.go e.symm)).trans h.o, h.go, h.bo, h.ro⟩
theorem P0.set (h : P0 w W G B ws j) (go : G ≠ O) (bo : B ≠ O) (ro : w.heap.size < O) (i : Nat) (v : Value) : P0 w (W.setCell ⟨O, i, none⟩ v) G B ws j := by
  have far : ∀ q, q ≠ O → (W.setCell ⟨O, i, none⟩ v).heap[q]? = W.heap[q]? := fun q hq => Below.heap_setCell W ⟨O, i, none⟩ v q hq
  obtain ⟨A, h3, h4⟩ := h.d.cell
  exact ⟨h.b.setCell (p := ⟨O, i, none⟩) (by show w.heap.size ≤ O; omega) v, ⟨h.d.ne, h.d.le, ⟨A, (far G go).trans h3, h4⟩, (far B bo).trans h.d.row⟩, (far _ (by omega)).trans h.r, h.g⟩
theorem P1.s1 (h : P1 w W G B O ws j k n ke va) (x : Int) : P1 w (W.setCell ⟨O, 1, none⟩ (.int .i64 x)) G B O ws j k x ke va := ⟨h.p0.set h.go h.bo h.ro 1 _, blk_put h.o 1 _ rfl, h.go, h.bo, h.ro⟩
theorem P1.s2 (h : P1 w W G B O ws j k n ke va) (x : ByteArray) : P1 w (W.setCell ⟨O, 2, none⟩ (.string x)) G B O ws j k n x va := ⟨h.p0.set h.go h.bo h.ro 2 _, blk_put h.o 2 _ rfl, h.go, h.bo, h.ro⟩
theorem P1.s3 (h : P1 w W G B O ws j k n ke va) (x : ByteArray) : P1 w (W.setCell ⟨O, 3, none⟩ (.string x)) G B O ws j k n ke x := ⟨h.p0.set h.go h.bo h.ro 3 _, blk_put h.o 3 _ rfl, h.go, h.bo, h.ro⟩
theorem P1.c0 (h : P1 w W G B O ws j k n ke va) : W.cell? ⟨O, 0, none⟩ = some (.int .i64 k) := (blk_cell h.o 0).trans rfl
theorem P1.c1 (h : P1 w W G B O ws j k n ke va) : W.cell? ⟨O, 1, none⟩ = some (.int .i64 n) := (blk_cell h.o 1).trans rfl
theorem P1.c2 (h : P1 w W G B O ws j k n ke va) : W.cell? ⟨O, 2, none⟩ = some (.string ke) := (blk_cell h.o 2).trans rfl
theorem P1.c3 (h : P1 w W G B O ws j k n ke va) : W.cell? ⟨O, 3, none⟩ = some (.string va) := (blk_cell h.o 3).trans rfl
theorem P1.fr (h : P1 w W G B O ws j k n ke va) (i : Nat) : W.frozen? ⟨O, i, none⟩ = false := blk_frozen h.o i
theorem toList_inj' {s t : ByteArray} (h : s.toList = t.toList) : s = t := by
  rw [ByteArray.toList_eq, ByteArray.toList_eq] at h
  cases s; cases t
  congr 1
  exact Array.toList_inj.1 h
end
theorem infoOp : (Tryd.prog.info? 43).map (·.size) = some 4 := by kernel_rfl
def VerbsPost (W : World) (e : Ending) (w' : World) : Prop := ∃ A c, e = .returned (.slice A 9 c) ∧ 9 ≤ c ∧ Kd.C k68 w' A 9 verbsL ∧ Below W.heap.size W w'
theorem verbs_p (W : World) : Calls Tryd.prog 26 #[] W (VerbsPost W) := verbs_any W
def VerbAtPost (i p : Int) (W : World) (e : Ending) (w' : World) : Prop := ∃ ad c, e = .returned (.slice (some ad) 9 c) ∧ 9 ≤ c ∧ (∃ wd, w'.cell? (ad.add (i.toNat * 2)) = some (.string wd)) ∧ w'.cell? ⟨(ad.add (i.toNat * 2)).block, (ad.add (i.toNat * 2)).off + 1, none⟩ = some (.int .i64 p) ∧ Below W.heap.size W w'
theorem verb_p (k i p : Int) (h1 : 1 ≤ k) (h2 : k ≤ 9) (hi : k - 1 = i) (hp : p = partsOf k) (W : World) : Calls Tryd.prog 26 #[] W (VerbAtPost i p W) := by
  subst hp hi
  refine (verbs_at k h1 h2 W).mono ?_
  rintro e w' ⟨ad, c, rfl, hc, h3, h4, hb⟩
  exact ⟨ad, c, rfl, hc, ⟨_, h3⟩, h4, hb⟩
def AtoiPost (n : Int) (W : World) (e : Ending) (w' : World) : Prop := ∃ ev, e = .returned (.tuple #[.int .i64 n, ev]) ∧ Below W.heap.size W w'
theorem atoi_p (s : ByteArray) (W : World) (hs : s.size ≤ 900000) (ht : Tabs W) : Calls Tryd.prog 28 #[.string s] W (AtoiPost (atoiN s) W) := atoi_any s W (by omega) ht
set_option maxRecDepth 100000 in
set_option maxHeartbeats 8000000 in
theorem parse_none (line : ByteArray) (hl : line.size ≤ 900000) (hk : kindOf (wdAt line 0) = 0) (w : World) (ht : Tabs w) : Calls Tryd.prog 13 #[.string line] w fun e w' => e = .returned (.tuple #[.agg #[.int .i64 0, .int .i64 0, .string ⟨#[]⟩, .string ⟨#[]⟩], .int .i64 2]) ∧ Below w.heap.size w w' := by
  have hb0 : Below w.heap.size w (w.alloc (.cells #[.int .i64 0, .int .i64 0, .string ⟨#[]⟩, .string ⟨#[]⟩] 43)) := below_alloc (Below.refl _ _) _
  have HS := Lib.hid (split_any line hl _ (ht.below hb0))
  have HB0 := Lib.hid hb0
  have HR0 := Lib.hid (heap_alloc_new w (.cells #[.int .i64 0, .int .i64 0, .string ⟨#[]⟩, .string ⟨#[]⟩] 43))
  have hsz : (w.alloc (.cells #[.int .i64 0, .int .i64 0, .string ⟨#[]⟩, .string ⟨#[]⟩] 43)).heap.size = w.heap.size + 1 := Array.size_push _
  have HSZ := Lib.hid hsz
  have hlen : (wsOf line).length ≤ 1000000 := by rw [wsOf_len]; have := count_le line; omega
  have hpos : 0 < (wsOf line).length := by rw [wsOf_len]; omega
  have hwd : (wsOf line).getD 0 ByteArray.empty = wdAt line 0 := rfl
  have HW := Lib.hid hwd
  have HK := Lib.hid hk
  clear hb0 ht hsz hwd hk
  go_enter Tryd.func13, Tryd.ntmps13
  go_wp2_with (go_at_call 23; refine HS.out.mono ?_)
  rintro e w1 ⟨B, rfl, hrow, hb1, hB⟩
  have hr1 := blk_below HR0.out hb1
  have hb1' := below_step HB0.out hb1
  have hg1 : w.heap.size < w1.heap.size := by have := hb1.size; rw [HSZ.out] at this; omega
  generalize wsOf line = ws at *
  have P1 : P0 w (w1.alloc (.cells #[.slice (some ⟨B, 0, none⟩) ws.length ws.length] 64)) w1.heap.size B ws 0 :=
    ⟨below_alloc hb1' _, ⟨by have := blk_lt hrow; omega, Nat.zero_le _, ⟨some ⟨B, 0, none⟩, heap_alloc_new _ _, fun _ => rfl⟩, blk_alloc hrow _⟩, blk_alloc hr1 _, hg1⟩
  have HP1 := Lib.hid P1
  clear P1 hrow hb1 hr1 hb1' hB
  go_wp2_with (go_at_call 24; refine (next_calls _ _ B ws 0 HP1.out.d hlen).mono ?_)
  rintro e w2 ⟨rfl, hd2, bt2, hb2⟩
  rw [HW.out]
  have HP2 := Lib.hid (HP1.out.but hd2 bt2 hb2)
  clear hd2 bt2 hb2
  go_wp2_with (go_at_call 26; refine (verbs_p _).mono ?_)
  rintro e w3 ⟨A, c, rfl, hc, hC, hb3⟩
  have hF := (blk_cell (blk_below (heap_alloc_new w2 (.cells #[.string (wdAt line 0)] 9)) hb3) 0).trans rfl
  have HP3 := Lib.hid ((HP2.out.below (below_alloc (Below.refl _ _) _)).below hb3)
  clear hb3
  go_wp2_with (go_at_call 25; refine (idx_any A c (wdAt line 0) _ _ hF hC).mono ?_)
  rintro e w4 ⟨rfl, hb4⟩
  rw [HK.out]
  have HP4 := Lib.hid (HP3.out.below hb4)
  have c0 := (blk_cell HP4.out.r 0).trans rfl
  have c1 := (blk_cell HP4.out.r 1).trans rfl
  have c2 := (blk_cell HP4.out.r 2).trans rfl
  have c3 := (blk_cell HP4.out.r 3).trans rfl
  have f0 := blk_frozen HP4.out.r 0
  have f1 := blk_frozen HP4.out.r 1
  have f2 := blk_frozen HP4.out.r 2
  have f3 := blk_frozen HP4.out.r 3
  clear hb4 hF hC HP3 HP2 HP1 HS
  go_wp2
  have hs := set4 (a' := .int .i64 0) (b' := .int .i64 0) (c' := .string ⟨#[]⟩) (d' := .string ⟨#[]⟩) HP4.out.r
  have hbe := HP4.out.b.trans (set4_below (W := w4) (g := w.heap.size) (a' := .int .i64 0) (b' := .int .i64 0) (c' := .string ⟨#[]⟩) (d' := .string ⟨#[]⟩))
  generalize (((w4.setCell ⟨w.heap.size, 0, none⟩ (.int .i64 0)).setCell ⟨w.heap.size, 1, none⟩ (.int .i64 0)).setCell ⟨w.heap.size, 2, none⟩ (.string ⟨#[]⟩)).setCell ⟨w.heap.size, 3, none⟩ (.string ⟨#[]⟩) = w5 at *
  refine bodyPost_ret (results_list (rs := [.cell 2 43, .tmp 3]) rfl (by simp) (.cell w.heap.size 43 _ (0, 0) _ rfl hs Tryd.underlying43 rfl infoOp (.tmp .nil))) rfl ?_
  exact ⟨rfl, hbe⟩
def pickR (k : Int) (line : ByteArray) : Op × Int := if rightO (candO k line) = true ∧ lineB (candO k line) = line then (candO k line, 0) else (zOp, 2)
set_option maxRecDepth 100000 in
set_option maxHeartbeats 8000000 in
theorem parse_some (line : ByteArray) (hl : line.size ≤ 900000) (k : Int) (hk : kindOf (wdAt line 0) = k) (h1 : 1 ≤ k) (h2 : k ≤ 9) (w : World) (ht : Tabs w) : Calls Tryd.prog 13 #[.string line] w fun e w' => e = .returned (.tuple #[.agg #[.int .i64 (pickR k line).1.f0, .int .i64 (pickR k line).1.f1, .string (pickR k line).1.f2, .string (pickR k line).1.f3], .int .i64 (pickR k line).2]) ∧ Below w.heap.size w w' := by
  have HPK : Hid (pickR k line = if rightO (candO k line) = true ∧ lineB (candO k line) = line then (candO k line, 0) else (zOp, 2)) := Lib.hid rfl
  generalize pickR k line = pk at HPK ⊢
  obtain ⟨⟨r0, r1, r2, r3⟩, r4⟩ := pk
  dsimp only
  obtain ⟨p, hp⟩ : ∃ p, p = partsOf k := ⟨_, rfl⟩
  have hpc : p = 0 ∨ p = 1 ∨ p = 2 ∨ p = 3 ∨ p = 7 := by
    rw [hp]
    rcases kinds h1 h2 with rfl | rfl | rfl | rfl | rfl | rfl | rfl | rfl | rfl <;> decide
  have HCO : Hid (candO k line = ⟨k, if p = 1 ∨ p = 3 ∨ p = 7 then atoiN (wdAt line 1) else 0, if p = 2 then untS (wdAt line 1) else if p = 3 ∨ p = 7 then untS (wdAt line 2) else ⟨#[]⟩, if p = 7 then untS (wdAt line 3) else ⟨#[]⟩⟩) := Lib.hid (by rw [hp]; rfl)
  obtain ⟨i, hi⟩ : ∃ i, k - 1 = i := ⟨_, rfl⟩
  have HV := Lib.hid (verb_p k i p h1 h2 hi hp)
  have HI := Lib.hid hi
  have hw : IntKind.i64.wrap (i + 1) = k := by rw [IntKind.wrap_i64]; omega
  have hwA : wrap64 (i + 1) = k := by unfold wrap64; omega
  have hwB : wrap64 i = i := by unfold wrap64; omega
  have hk0 : 0 ≤ i := by omega
  have hkn : ¬ i < 0 := by omega
  have hkT : (0 ≤ i) = True := eq_true (by omega)
  have hkU : (i < 9) = True := eq_true (by omega)
  have hk9 : i < 9 := by omega
  have HT := Lib.hid (fun (W : World) (hb : Below w.heap.size w W) => ht.below hb)
  have hwm : ∀ j, (wsOf line).getD (min j (wsOf line).length) ByteArray.empty = wdAt line j := wd_min line
  have HWM := Lib.hid hwm
  clear hp hi hwm
  have hb0 : Below w.heap.size w (w.alloc (.cells #[.int .i64 0, .int .i64 0, .string ⟨#[]⟩, .string ⟨#[]⟩] 43)) := below_alloc (Below.refl _ _) _
  have HS := Lib.hid (split_any line hl _ (ht.below hb0))
  have HB0 := Lib.hid hb0
  have HR0 := Lib.hid (heap_alloc_new w (.cells #[.int .i64 0, .int .i64 0, .string ⟨#[]⟩, .string ⟨#[]⟩] 43))
  have hsz : (w.alloc (.cells #[.int .i64 0, .int .i64 0, .string ⟨#[]⟩, .string ⟨#[]⟩] 43)).heap.size = w.heap.size + 1 := Array.size_push _
  have HSZ := Lib.hid hsz
  have hlen : (wsOf line).length ≤ 1000000 := by rw [wsOf_len]; have := count_le line; omega
  have hpos : 0 < (wsOf line).length := by rw [wsOf_len]; omega
  have hwd : (wsOf line).getD 0 ByteArray.empty = wdAt line 0 := rfl
  have HW := Lib.hid hwd
  have HK := Lib.hid hk
  clear hb0 ht hsz hwd hk
  go_enter Tryd.func13, Tryd.ntmps13
  go_wp2_with (go_at_call 23; refine HS.out.mono ?_)
  rintro e w1 ⟨B, rfl, hrow, hb1, hB⟩
  have hr1 := blk_below HR0.out hb1
  have hb1' := below_step HB0.out hb1
  have hg1 : w.heap.size < w1.heap.size := by have := hb1.size; rw [HSZ.out] at this; omega
  generalize wsOf line = ws at *
  have P1 : P0 w (w1.alloc (.cells #[.slice (some ⟨B, 0, none⟩) ws.length ws.length] 64)) w1.heap.size B ws 0 :=
    ⟨below_alloc hb1' _, ⟨by have := blk_lt hrow; omega, Nat.zero_le _, ⟨some ⟨B, 0, none⟩, heap_alloc_new _ _, fun _ => rfl⟩, blk_alloc hrow _⟩, blk_alloc hr1 _, hg1⟩
  have HP1 := Lib.hid P1
  clear P1 hrow hb1 hr1 hb1' hB
  go_wp2_with (go_at_call 24; refine (next_calls _ _ B ws 0 HP1.out.d hlen).mono ?_)
  rintro e w2 ⟨rfl, hd2, bt2, hb2⟩
  rw [HW.out]
  have HP2 := Lib.hid (HP1.out.but hd2 bt2 hb2)
  clear hd2 bt2 hb2
  go_wp2_with (go_at_call 26; refine (verbs_p _).mono ?_)
  rintro e w3 ⟨A, c, rfl, hc, hC, hb3⟩
  have hF := (blk_cell (blk_below (heap_alloc_new w2 (.cells #[.string (wdAt line 0)] 9)) hb3) 0).trans rfl
  have HP3 := Lib.hid ((HP2.out.below (below_alloc (Below.refl _ _) _)).below hb3)
  clear hb3
  go_wp2_with (go_at_call 25; refine (idx_any A c (wdAt line 0) _ _ hF hC).mono ?_)
  rintro e w4 ⟨rfl, hb4⟩
  rw [HK.out, HI.out]
  have HP4 := Lib.hid (HP3.out.below hb4)
  clear hb4 hF hC HP3 HP2 HP1 HS
  go_wp2_with (go_at_call 26; refine (HV.out _).mono ?_)
  rintro e w5 ⟨ad, c5, rfl, hc9, ⟨wd, hwd⟩, hpp, hb5⟩
  obtain ⟨pa, hpa⟩ : ∃ pa, pa = ad.add (i.toNat * 2) := ⟨_, rfl⟩
  rw [← hpa] at hwd hpp
  have hia := idx_at ad c5 i hk0 hk9
  rw [← hpa] at hia
  clear hpa
  have HP5 : Hid (P1 w w5 w1.heap.size B w4.heap.size ws (min 1 ws.length) k 0 ⟨#[]⟩ ⟨#[]⟩) := Lib.hid ⟨(HP4.out.below (below_alloc (Below.refl _ _) _)).below hb5, blk_below (heap_alloc_new w4 _) hb5, by have := wds_lt HP4.out.d; omega, by have := blk_lt HP4.out.d.row; omega, blk_lt HP4.out.r⟩
  clear hb5 HP4
  rcases hpc with rfl | rfl | rfl | rfl | rfl
  · have hC : candO k line = ⟨k, 0, ⟨#[]⟩, ⟨#[]⟩⟩ := by rw [HCO.out]; simp
    clear HCO
    have o0 := HP5.out.c0
    have o1 := HP5.out.c1
    have o2 := HP5.out.c2
    have o3 := HP5.out.c3
    by_cases hr : rightO ⟨k, 0, ⟨#[]⟩, ⟨#[]⟩⟩ = true
    · by_cases hle : lineB ⟨k, 0, ⟨#[]⟩, ⟨#[]⟩⟩ = line
      · have HE : Hid (r0 = k ∧ r1 = 0 ∧ r2 = ⟨#[]⟩ ∧ r3 = ⟨#[]⟩ ∧ r4 = 0) := Lib.hid (by have h := HPK.out; rw [hC, if_pos ⟨hr, hle⟩] at h; simpa [zOp, z43, and_assoc] using h)
        clear HPK hC
        go_wp2_with (go_at_call 14; refine (client_Line.calls k 0 ⟨#[]⟩ ⟨#[]⟩ line 0 _ (by unfold client_Line.f; rw [if_pos hr, hle]) (HT.out _ HP5.out.p0.b)).mono ?_)
        rintro e wl ⟨rfl, hb⟩
        have HL := Lib.hid (HP5.out.below hb)
        clear hb
        have a0 := HL.out.p0.r0
        have a1 := HL.out.p0.r1
        have a2 := HL.out.p0.r2
        have a3 := HL.out.p0.r3
        have g0 := HL.out.p0.fr 0
        have g1 := HL.out.p0.fr 1
        have g2 := HL.out.p0.fr 2
        have g3 := HL.out.p0.fr 3
        have b0 := HL.out.c0
        have b1 := HL.out.c1
        have b2 := HL.out.c2
        have b3 := HL.out.c3
        clear hr hle
        go_wp2
        have hs := set4 (a' := .int .i64 k) (b' := .int .i64 0) (c' := .string ⟨#[]⟩) (d' := .string ⟨#[]⟩) HL.out.p0.r
        have hbe := HL.out.p0.b.trans (set4_below (W := wl) (g := w.heap.size) (a' := .int .i64 k) (b' := .int .i64 0) (c' := .string ⟨#[]⟩) (d' := .string ⟨#[]⟩))
        refine bodyPost_ret (results_list (rs := [.cell 2 43, .tmp 3]) rfl (by simp) (.cell w.heap.size 43 _ (0, 0) _ rfl hs Tryd.underlying43 rfl infoOp (.tmp .nil))) rfl ?_
        obtain ⟨e0, e1, e2, e3, e4⟩ := HE.out
        rw [e0, e1, e2, e3, e4]
        exact ⟨rfl, hbe⟩
      · have HE : Hid (r0 = 0 ∧ r1 = 0 ∧ r2 = ⟨#[]⟩ ∧ r3 = ⟨#[]⟩ ∧ r4 = 2) := Lib.hid (by have h := HPK.out; rw [hC, if_neg (fun h => hle h.2)] at h; simpa [zOp, z43, and_assoc] using h)
        obtain ⟨s, hs0⟩ : ∃ s, lineB ⟨k, 0, ⟨#[]⟩, ⟨#[]⟩⟩ = s := ⟨_, rfl⟩
        have hsn : ¬ s.toList = line.toList := fun h => hle (by rw [hs0]; exact toList_inj' h)
        have hsb : (s.toList == line.toList) = false := beq_eq_false_iff_ne.2 hsn
        clear HPK hC hle
        go_wp2_with (go_at_call 14; refine (client_Line.calls k 0 ⟨#[]⟩ ⟨#[]⟩ s 0 _ (by unfold client_Line.f; rw [if_pos hr, hs0]) (HT.out _ HP5.out.p0.b)).mono ?_)
        rintro e wl ⟨rfl, hb⟩
        have HL := Lib.hid (HP5.out.below hb)
        clear hb
        have a0 := HL.out.p0.r0
        have a1 := HL.out.p0.r1
        have a2 := HL.out.p0.r2
        have a3 := HL.out.p0.r3
        have g0 := HL.out.p0.fr 0
        have g1 := HL.out.p0.fr 1
        have g2 := HL.out.p0.fr 2
        have g3 := HL.out.p0.fr 3
        have b0 := HL.out.c0
        have b1 := HL.out.c1
        have b2 := HL.out.c2
        have b3 := HL.out.c3
        clear hr hs0
        go_wp2
        have hs := set4 (a' := .int .i64 0) (b' := .int .i64 0) (c' := .string ⟨#[]⟩) (d' := .string ⟨#[]⟩) HL.out.p0.r
        have hbe := HL.out.p0.b.trans (set4_below (W := wl) (g := w.heap.size) (a' := .int .i64 0) (b' := .int .i64 0) (c' := .string ⟨#[]⟩) (d' := .string ⟨#[]⟩))
        refine bodyPost_ret (results_list (rs := [.cell 2 43, .tmp 3]) rfl (by simp) (.cell w.heap.size 43 _ (0, 0) _ rfl hs Tryd.underlying43 rfl infoOp (.tmp .nil))) rfl ?_
        obtain ⟨e0, e1, e2, e3, e4⟩ := HE.out
        rw [e0, e1, e2, e3, e4]
        exact ⟨rfl, hbe⟩
    · have HE : Hid (r0 = 0 ∧ r1 = 0 ∧ r2 = ⟨#[]⟩ ∧ r3 = ⟨#[]⟩ ∧ r4 = 2) := Lib.hid (by have h := HPK.out; rw [hC, if_neg (fun h => hr h.1)] at h; simpa [zOp, z43, and_assoc] using h)
      clear HPK hC
      go_wp2_with (go_at_call 14; refine (client_Line.calls k 0 ⟨#[]⟩ ⟨#[]⟩ ⟨#[]⟩ 1 _ (by unfold client_Line.f; rw [if_neg hr]) (HT.out _ HP5.out.p0.b)).mono ?_)
      rintro e wl ⟨rfl, hb⟩
      have HL := Lib.hid (HP5.out.below hb)
      clear hb
      have a0 := HL.out.p0.r0
      have a1 := HL.out.p0.r1
      have a2 := HL.out.p0.r2
      have a3 := HL.out.p0.r3
      have g0 := HL.out.p0.fr 0
      have g1 := HL.out.p0.fr 1
      have g2 := HL.out.p0.fr 2
      have g3 := HL.out.p0.fr 3
      have b0 := HL.out.c0
      have b1 := HL.out.c1
      have b2 := HL.out.c2
      have b3 := HL.out.c3
      clear hr
      go_wp2
      have hs := set4 (a' := .int .i64 0) (b' := .int .i64 0) (c' := .string ⟨#[]⟩) (d' := .string ⟨#[]⟩) HL.out.p0.r
      have hbe := HL.out.p0.b.trans (set4_below (W := wl) (g := w.heap.size) (a' := .int .i64 0) (b' := .int .i64 0) (c' := .string ⟨#[]⟩) (d' := .string ⟨#[]⟩))
      refine bodyPost_ret (results_list (rs := [.cell 2 43, .tmp 3]) rfl (by simp) (.cell w.heap.size 43 _ (0, 0) _ rfl hs Tryd.underlying43 rfl infoOp (.tmp .nil))) rfl ?_
      obtain ⟨e0, e1, e2, e3, e4⟩ := HE.out
      rw [e0, e1, e2, e3, e4]
      exact ⟨rfl, hbe⟩
  · obtain ⟨n, hn⟩ : ∃ n, atoiN (wdAt line 1) = n := ⟨_, rfl⟩
    have HA := Lib.hid (fun W (h : Tabs W) => atoi_p (wdAt line 1) W (Nat.le_trans (wd_size line 1) hl) h)
    rw [hn] at HA
    have hC : candO k line = ⟨k, n, ⟨#[]⟩, ⟨#[]⟩⟩ := by rw [HCO.out]; simp [hn]
    clear HCO hn
    go_wp2_with (go_at_call 24; refine (next_calls _ _ B ws (min 1 ws.length) HP5.out.p0.d hlen).mono ?_)
    rintro e w6 ⟨rfl, hd, bt, hb⟩
    rw [HWM.out 1]
    have HP6 := Lib.hid (HP5.out.but hd (show _ = min 2 ws.length by omega) bt hb)
    clear hd bt hb
    go_wp2_with (go_at_call 28; refine (HA.out _ (HT.out _ HP6.out.p0.b)).mono ?_)
    rintro e w7 ⟨ev, rfl, hb⟩
    have HP7 := Lib.hid (HP6.out.below hb)
    clear hb
    have x7 := HP7.out.c1
    have y7 := HP7.out.fr 1
    have HQ7 := Lib.hid (HP7.out.s1 (n))
    have o0 := HQ7.out.c0
    have o1 := HQ7.out.c1
    have o2 := HQ7.out.c2
    have o3 := HQ7.out.c3
    by_cases hr : rightO ⟨k, n, ⟨#[]⟩, ⟨#[]⟩⟩ = true
    · by_cases hle : lineB ⟨k, n, ⟨#[]⟩, ⟨#[]⟩⟩ = line
      · have HE : Hid (r0 = k ∧ r1 = n ∧ r2 = ⟨#[]⟩ ∧ r3 = ⟨#[]⟩ ∧ r4 = 0) := Lib.hid (by have h := HPK.out; rw [hC, if_pos ⟨hr, hle⟩] at h; simpa [zOp, z43, and_assoc] using h)
        clear HPK hC
        go_wp2_with (go_at_call 14; refine (client_Line.calls k n ⟨#[]⟩ ⟨#[]⟩ line 0 _ (by unfold client_Line.f; rw [if_pos hr, hle]) (HT.out _ HQ7.out.p0.b)).mono ?_)
        rintro e wl ⟨rfl, hb⟩
        have HL := Lib.hid (HQ7.out.below hb)
        clear hb
        have a0 := HL.out.p0.r0
        have a1 := HL.out.p0.r1
        have a2 := HL.out.p0.r2
        have a3 := HL.out.p0.r3
        have g0 := HL.out.p0.fr 0
        have g1 := HL.out.p0.fr 1
        have g2 := HL.out.p0.fr 2
        have g3 := HL.out.p0.fr 3
        have b0 := HL.out.c0
        have b1 := HL.out.c1
        have b2 := HL.out.c2
        have b3 := HL.out.c3
        clear hr hle
        go_wp2
        have hs := set4 (a' := .int .i64 k) (b' := .int .i64 n) (c' := .string ⟨#[]⟩) (d' := .string ⟨#[]⟩) HL.out.p0.r
        have hbe := HL.out.p0.b.trans (set4_below (W := wl) (g := w.heap.size) (a' := .int .i64 k) (b' := .int .i64 n) (c' := .string ⟨#[]⟩) (d' := .string ⟨#[]⟩))
        refine bodyPost_ret (results_list (rs := [.cell 2 43, .tmp 3]) rfl (by simp) (.cell w.heap.size 43 _ (0, 0) _ rfl hs Tryd.underlying43 rfl infoOp (.tmp .nil))) rfl ?_
        obtain ⟨e0, e1, e2, e3, e4⟩ := HE.out
        rw [e0, e1, e2, e3, e4]
        exact ⟨rfl, hbe⟩
      · have HE : Hid (r0 = 0 ∧ r1 = 0 ∧ r2 = ⟨#[]⟩ ∧ r3 = ⟨#[]⟩ ∧ r4 = 2) := Lib.hid (by have h := HPK.out; rw [hC, if_neg (fun h => hle h.2)] at h; simpa [zOp, z43, and_assoc] using h)
        obtain ⟨s, hs0⟩ : ∃ s, lineB ⟨k, n, ⟨#[]⟩, ⟨#[]⟩⟩ = s := ⟨_, rfl⟩
        have hsn : ¬ s.toList = line.toList := fun h => hle (by rw [hs0]; exact toList_inj' h)
        have hsb : (s.toList == line.toList) = false := beq_eq_false_iff_ne.2 hsn
        clear HPK hC hle
        go_wp2_with (go_at_call 14; refine (client_Line.calls k n ⟨#[]⟩ ⟨#[]⟩ s 0 _ (by unfold client_Line.f; rw [if_pos hr, hs0]) (HT.out _ HQ7.out.p0.b)).mono ?_)
        rintro e wl ⟨rfl, hb⟩
        have HL := Lib.hid (HQ7.out.below hb)
        clear hb
        have a0 := HL.out.p0.r0
        have a1 := HL.out.p0.r1
        have a2 := HL.out.p0.r2
        have a3 := HL.out.p0.r3
        have g0 := HL.out.p0.fr 0
        have g1 := HL.out.p0.fr 1
        have g2 := HL.out.p0.fr 2
        have g3 := HL.out.p0.fr 3
        have b0 := HL.out.c0
        have b1 := HL.out.c1
        have b2 := HL.out.c2
        have b3 := HL.out.c3
        clear hr hs0
        go_wp2
        have hs := set4 (a' := .int .i64 0) (b' := .int .i64 0) (c' := .string ⟨#[]⟩) (d' := .string ⟨#[]⟩) HL.out.p0.r
        have hbe := HL.out.p0.b.trans (set4_below (W := wl) (g := w.heap.size) (a' := .int .i64 0) (b' := .int .i64 0) (c' := .string ⟨#[]⟩) (d' := .string ⟨#[]⟩))
        refine bodyPost_ret (results_list (rs := [.cell 2 43, .tmp 3]) rfl (by simp) (.cell w.heap.size 43 _ (0, 0) _ rfl hs Tryd.underlying43 rfl infoOp (.tmp .nil))) rfl ?_
        obtain ⟨e0, e1, e2, e3, e4⟩ := HE.out
        rw [e0, e1, e2, e3, e4]
        exact ⟨rfl, hbe⟩
    · have HE : Hid (r0 = 0 ∧ r1 = 0 ∧ r2 = ⟨#[]⟩ ∧ r3 = ⟨#[]⟩ ∧ r4 = 2) := Lib.hid (by have h := HPK.out; rw [hC, if_neg (fun h => hr h.1)] at h; simpa [zOp, z43, and_assoc] using h)
      clear HPK hC
      go_wp2_with (go_at_call 14; refine (client_Line.calls k n ⟨#[]⟩ ⟨#[]⟩ ⟨#[]⟩ 1 _ (by unfold client_Line.f; rw [if_neg hr]) (HT.out _ HQ7.out.p0.b)).mono ?_)
      rintro e wl ⟨rfl, hb⟩
      have HL := Lib.hid (HQ7.out.below hb)
      clear hb
      have a0 := HL.out.p0.r0
      have a1 := HL.out.p0.r1
      have a2 := HL.out.p0.r2
      have a3 := HL.out.p0.r3
      have g0 := HL.out.p0.fr 0
      have g1 := HL.out.p0.fr 1
      have g2 := HL.out.p0.fr 2
      have g3 := HL.out.p0.fr 3
      have b0 := HL.out.c0
      have b1 := HL.out.c1
      have b2 := HL.out.c2
      have b3 := HL.out.c3
      clear hr
      go_wp2
      have hs := set4 (a' := .int .i64 0) (b' := .int .i64 0) (c' := .string ⟨#[]⟩) (d' := .string ⟨#[]⟩) HL.out.p0.r
      have hbe := HL.out.p0.b.trans (set4_below (W := wl) (g := w.heap.size) (a' := .int .i64 0) (b' := .int .i64 0) (c' := .string ⟨#[]⟩) (d' := .string ⟨#[]⟩))
      refine bodyPost_ret (results_list (rs := [.cell 2 43, .tmp 3]) rfl (by simp) (.cell w.heap.size 43 _ (0, 0) _ rfl hs Tryd.underlying43 rfl infoOp (.tmp .nil))) rfl ?_
      obtain ⟨e0, e1, e2, e3, e4⟩ := HE.out
      rw [e0, e1, e2, e3, e4]
      exact ⟨rfl, hbe⟩
  · obtain ⟨ke, hke⟩ : ∃ ke, untS (wdAt line 1) = ke := ⟨_, rfl⟩
    have HU := Lib.hid (fun W (h : Tabs W) => untext_any (wdAt line 1) W (Nat.le_trans (wd_size line 1) (by omega)) h)
    rw [hke] at HU
    have hC : candO k line = ⟨k, 0, ke, ⟨#[]⟩⟩ := by rw [HCO.out]; simp [hke]
    clear HCO hke
    go_wp2_with (go_at_call 24; refine (next_calls _ _ B ws (min 1 ws.length) HP5.out.p0.d hlen).mono ?_)
    rintro e w6 ⟨rfl, hd, bt, hb⟩
    rw [HWM.out 1]
    have HP6 := Lib.hid (HP5.out.but hd (show _ = min 2 ws.length by omega) bt hb)
    clear hd bt hb
    go_wp2_with (go_at_call 29; refine (HU.out _ (HT.out _ HP6.out.p0.b)).mono ?_)
    rintro e w7 ⟨rfl, hb⟩
    have HP7 := Lib.hid (HP6.out.below hb)
    clear hb
    have x7 := HP7.out.c2
    have y7 := HP7.out.fr 2
    have HQ7 := Lib.hid (HP7.out.s2 (ke))
    have o0 := HQ7.out.c0
    have o1 := HQ7.out.c1
    have o2 := HQ7.out.c2
    have o3 := HQ7.out.c3
    by_cases hr : rightO ⟨k, 0, ke, ⟨#[]⟩⟩ = true
    · by_cases hle : lineB ⟨k, 0, ke, ⟨#[]⟩⟩ = line
      · have HE : Hid (r0 = k ∧ r1 = 0 ∧ r2 = ke ∧ r3 = ⟨#[]⟩ ∧ r4 = 0) := Lib.hid (by have h := HPK.out; rw [hC, if_pos ⟨hr, hle⟩] at h; simpa [zOp, z43, and_assoc] using h)
        clear HPK hC
        go_wp2_with (go_at_call 14; refine (client_Line.calls k 0 ke ⟨#[]⟩ line 0 _ (by unfold client_Line.f; rw [if_pos hr, hle]) (HT.out _ HQ7.out.p0.b)).mono ?_)
        rintro e wl ⟨rfl, hb⟩
        have HL := Lib.hid (HQ7.out.below hb)
        clear hb
        have a0 := HL.out.p0.r0
        have a1 := HL.out.p0.r1
        have a2 := HL.out.p0.r2
        have a3 := HL.out.p0.r3
        have g0 := HL.out.p0.fr 0
        have g1 := HL.out.p0.fr 1
        have g2 := HL.out.p0.fr 2
        have g3 := HL.out.p0.fr 3
        have b0 := HL.out.c0
        have b1 := HL.out.c1
        have b2 := HL.out.c2
        have b3 := HL.out.c3
        clear hr hle
        go_wp2
        have hs := set4 (a' := .int .i64 k) (b' := .int .i64 0) (c' := .string ke) (d' := .string ⟨#[]⟩) HL.out.p0.r
        have hbe := HL.out.p0.b.trans (set4_below (W := wl) (g := w.heap.size) (a' := .int .i64 k) (b' := .int .i64 0) (c' := .string ke) (d' := .string ⟨#[]⟩))
        refine bodyPost_ret (results_list (rs := [.cell 2 43, .tmp 3]) rfl (by simp) (.cell w.heap.size 43 _ (0, 0) _ rfl hs Tryd.underlying43 rfl infoOp (.tmp .nil))) rfl ?_
        obtain ⟨e0, e1, e2, e3, e4⟩ := HE.out
        rw [e0, e1, e2, e3, e4]
        exact ⟨rfl, hbe⟩
      · have HE : Hid (r0 = 0 ∧ r1 = 0 ∧ r2 = ⟨#[]⟩ ∧ r3 = ⟨#[]⟩ ∧ r4 = 2) := Lib.hid (by have h := HPK.out; rw [hC, if_neg (fun h => hle h.2)] at h; simpa [zOp, z43, and_assoc] using h)
        obtain ⟨s, hs0⟩ : ∃ s, lineB ⟨k, 0, ke, ⟨#[]⟩⟩ = s := ⟨_, rfl⟩
        have hsn : ¬ s.toList = line.toList := fun h => hle (by rw [hs0]; exact toList_inj' h)
        have hsb : (s.toList == line.toList) = false := beq_eq_false_iff_ne.2 hsn
        clear HPK hC hle
        go_wp2_with (go_at_call 14; refine (client_Line.calls k 0 ke ⟨#[]⟩ s 0 _ (by unfold client_Line.f; rw [if_pos hr, hs0]) (HT.out _ HQ7.out.p0.b)).mono ?_)
        rintro e wl ⟨rfl, hb⟩
        have HL := Lib.hid (HQ7.out.below hb)
        clear hb
        have a0 := HL.out.p0.r0
        have a1 := HL.out.p0.r1
        have a2 := HL.out.p0.r2
        have a3 := HL.out.p0.r3
        have g0 := HL.out.p0.fr 0
        have g1 := HL.out.p0.fr 1
        have g2 := HL.out.p0.fr 2
        have g3 := HL.out.p0.fr 3
        have b0 := HL.out.c0
        have b1 := HL.out.c1
        have b2 := HL.out.c2
        have b3 := HL.out.c3
        clear hr hs0
        go_wp2
        have hs := set4 (a' := .int .i64 0) (b' := .int .i64 0) (c' := .string ⟨#[]⟩) (d' := .string ⟨#[]⟩) HL.out.p0.r
        have hbe := HL.out.p0.b.trans (set4_below (W := wl) (g := w.heap.size) (a' := .int .i64 0) (b' := .int .i64 0) (c' := .string ⟨#[]⟩) (d' := .string ⟨#[]⟩))
        refine bodyPost_ret (results_list (rs := [.cell 2 43, .tmp 3]) rfl (by simp) (.cell w.heap.size 43 _ (0, 0) _ rfl hs Tryd.underlying43 rfl infoOp (.tmp .nil))) rfl ?_
        obtain ⟨e0, e1, e2, e3, e4⟩ := HE.out
        rw [e0, e1, e2, e3, e4]
        exact ⟨rfl, hbe⟩
    · have HE : Hid (r0 = 0 ∧ r1 = 0 ∧ r2 = ⟨#[]⟩ ∧ r3 = ⟨#[]⟩ ∧ r4 = 2) := Lib.hid (by have h := HPK.out; rw [hC, if_neg (fun h => hr h.1)] at h; simpa [zOp, z43, and_assoc] using h)
      clear HPK hC
      go_wp2_with (go_at_call 14; refine (client_Line.calls k 0 ke ⟨#[]⟩ ⟨#[]⟩ 1 _ (by unfold client_Line.f; rw [if_neg hr]) (HT.out _ HQ7.out.p0.b)).mono ?_)
      rintro e wl ⟨rfl, hb⟩
      have HL := Lib.hid (HQ7.out.below hb)
      clear hb
      have a0 := HL.out.p0.r0
      have a1 := HL.out.p0.r1
      have a2 := HL.out.p0.r2
      have a3 := HL.out.p0.r3
      have g0 := HL.out.p0.fr 0
      have g1 := HL.out.p0.fr 1
      have g2 := HL.out.p0.fr 2
      have g3 := HL.out.p0.fr 3
      have b0 := HL.out.c0
      have b1 := HL.out.c1
      have b2 := HL.out.c2
      have b3 := HL.out.c3
      clear hr
      go_wp2
      have hs := set4 (a' := .int .i64 0) (b' := .int .i64 0) (c' := .string ⟨#[]⟩) (d' := .string ⟨#[]⟩) HL.out.p0.r
      have hbe := HL.out.p0.b.trans (set4_below (W := wl) (g := w.heap.size) (a' := .int .i64 0) (b' := .int .i64 0) (c' := .string ⟨#[]⟩) (d' := .string ⟨#[]⟩))
      refine bodyPost_ret (results_list (rs := [.cell 2 43, .tmp 3]) rfl (by simp) (.cell w.heap.size 43 _ (0, 0) _ rfl hs Tryd.underlying43 rfl infoOp (.tmp .nil))) rfl ?_
      obtain ⟨e0, e1, e2, e3, e4⟩ := HE.out
      rw [e0, e1, e2, e3, e4]
      exact ⟨rfl, hbe⟩
  · obtain ⟨n, hn⟩ : ∃ n, atoiN (wdAt line 1) = n := ⟨_, rfl⟩
    have HA := Lib.hid (fun W (h : Tabs W) => atoi_p (wdAt line 1) W (Nat.le_trans (wd_size line 1) hl) h)
    rw [hn] at HA
    obtain ⟨ke, hke⟩ : ∃ ke, untS (wdAt line 2) = ke := ⟨_, rfl⟩
    have HU := Lib.hid (fun W (h : Tabs W) => untext_any (wdAt line 2) W (Nat.le_trans (wd_size line 2) (by omega)) h)
    rw [hke] at HU
    have hC : candO k line = ⟨k, n, ke, ⟨#[]⟩⟩ := by rw [HCO.out]; simp [hn, hke]
    clear HCO hn hke
    go_wp2_with (go_at_call 24; refine (next_calls _ _ B ws (min 1 ws.length) HP5.out.p0.d hlen).mono ?_)
    rintro e w6 ⟨rfl, hd, bt, hb⟩
    rw [HWM.out 1]
    have HP6 := Lib.hid (HP5.out.but hd (show _ = min 2 ws.length by omega) bt hb)
    clear hd bt hb
    go_wp2_with (go_at_call 28; refine (HA.out _ (HT.out _ HP6.out.p0.b)).mono ?_)
    rintro e w7 ⟨ev, rfl, hb⟩
    have HP7 := Lib.hid (HP6.out.below hb)
    clear hb
    have x7 := HP7.out.c1
    have y7 := HP7.out.fr 1
    have HQ7 := Lib.hid (HP7.out.s1 (n))
    go_wp2_with (go_at_call 24; refine (next_calls _ _ B ws (min 2 ws.length) HQ7.out.p0.d hlen).mono ?_)
    rintro e w8 ⟨rfl, hd, bt, hb⟩
    rw [HWM.out 2]
    have HP8 := Lib.hid (HQ7.out.but hd (show _ = min 3 ws.length by omega) bt hb)
    clear hd bt hb
    go_wp2_with (go_at_call 29; refine (HU.out _ (HT.out _ HP8.out.p0.b)).mono ?_)
    rintro e w9 ⟨rfl, hb⟩
    have HP9 := Lib.hid (HP8.out.below hb)
    clear hb
    have x9 := HP9.out.c2
    have y9 := HP9.out.fr 2
    have HQ9 := Lib.hid (HP9.out.s2 (ke))
    have o0 := HQ9.out.c0
    have o1 := HQ9.out.c1
    have o2 := HQ9.out.c2
    have o3 := HQ9.out.c3
    by_cases hr : rightO ⟨k, n, ke, ⟨#[]⟩⟩ = true
    · by_cases hle : lineB ⟨k, n, ke, ⟨#[]⟩⟩ = line
      · have HE : Hid (r0 = k ∧ r1 = n ∧ r2 = ke ∧ r3 = ⟨#[]⟩ ∧ r4 = 0) := Lib.hid (by have h := HPK.out; rw [hC, if_pos ⟨hr, hle⟩] at h; simpa [zOp, z43, and_assoc] using h)
        clear HPK hC
        go_wp2_with (go_at_call 14; refine (client_Line.calls k n ke ⟨#[]⟩ line 0 _ (by unfold client_Line.f; rw [if_pos hr, hle]) (HT.out _ HQ9.out.p0.b)).mono ?_)
        rintro e wl ⟨rfl, hb⟩
        have HL := Lib.hid (HQ9.out.below hb)
        clear hb
        have a0 := HL.out.p0.r0
        have a1 := HL.out.p0.r1
        have a2 := HL.out.p0.r2
        have a3 := HL.out.p0.r3
        have g0 := HL.out.p0.fr 0
        have g1 := HL.out.p0.fr 1
        have g2 := HL.out.p0.fr 2
        have g3 := HL.out.p0.fr 3
        have b0 := HL.out.c0
        have b1 := HL.out.c1
        have b2 := HL.out.c2
        have b3 := HL.out.c3
        clear hr hle
        go_wp2
        have hs := set4 (a' := .int .i64 k) (b' := .int .i64 n) (c' := .string ke) (d' := .string ⟨#[]⟩) HL.out.p0.r
        have hbe := HL.out.p0.b.trans (set4_below (W := wl) (g := w.heap.size) (a' := .int .i64 k) (b' := .int .i64 n) (c' := .string ke) (d' := .string ⟨#[]⟩))
        refine bodyPost_ret (results_list (rs := [.cell 2 43, .tmp 3]) rfl (by simp) (.cell w.heap.size 43 _ (0, 0) _ rfl hs Tryd.underlying43 rfl infoOp (.tmp .nil))) rfl ?_
        obtain ⟨e0, e1, e2, e3, e4⟩ := HE.out
        rw [e0, e1, e2, e3, e4]
        exact ⟨rfl, hbe⟩
      · have HE : Hid (r0 = 0 ∧ r1 = 0 ∧ r2 = ⟨#[]⟩ ∧ r3 = ⟨#[]⟩ ∧ r4 = 2) := Lib.hid (by have h := HPK.out; rw [hC, if_neg (fun h => hle h.2)] at h; simpa [zOp, z43, and_assoc] using h)
        obtain ⟨s, hs0⟩ : ∃ s, lineB ⟨k, n, ke, ⟨#[]⟩⟩ = s := ⟨_, rfl⟩
        have hsn : ¬ s.toList = line.toList := fun h => hle (by rw [hs0]; exact toList_inj' h)
        have hsb : (s.toList == line.toList) = false := beq_eq_false_iff_ne.2 hsn
        clear HPK hC hle
        go_wp2_with (go_at_call 14; refine (client_Line.calls k n ke ⟨#[]⟩ s 0 _ (by unfold client_Line.f; rw [if_pos hr, hs0]) (HT.out _ HQ9.out.p0.b)).mono ?_)
        rintro e wl ⟨rfl, hb⟩
        have HL := Lib.hid (HQ9.out.below hb)
        clear hb
        have a0 := HL.out.p0.r0
        have a1 := HL.out.p0.r1
        have a2 := HL.out.p0.r2
        have a3 := HL.out.p0.r3
        have g0 := HL.out.p0.fr 0
        have g1 := HL.out.p0.fr 1
        have g2 := HL.out.p0.fr 2
        have g3 := HL.out.p0.fr 3
        have b0 := HL.out.c0
        have b1 := HL.out.c1
        have b2 := HL.out.c2
        have b3 := HL.out.c3
        clear hr hs0
        go_wp2
        have hs := set4 (a' := .int .i64 0) (b' := .int .i64 0) (c' := .string ⟨#[]⟩) (d' := .string ⟨#[]⟩) HL.out.p0.r
        have hbe := HL.out.p0.b.trans (set4_below (W := wl) (g := w.heap.size) (a' := .int .i64 0) (b' := .int .i64 0) (c' := .string ⟨#[]⟩) (d' := .string ⟨#[]⟩))
        refine bodyPost_ret (results_list (rs := [.cell 2 43, .tmp 3]) rfl (by simp) (.cell w.heap.size 43 _ (0, 0) _ rfl hs Tryd.underlying43 rfl infoOp (.tmp .nil))) rfl ?_
        obtain ⟨e0, e1, e2, e3, e4⟩ := HE.out
        rw [e0, e1, e2, e3, e4]
        exact ⟨rfl, hbe⟩
    · have HE : Hid (r0 = 0 ∧ r1 = 0 ∧ r2 = ⟨#[]⟩ ∧ r3 = ⟨#[]⟩ ∧ r4 = 2) := Lib.hid (by have h := HPK.out; rw [hC, if_neg (fun h => hr h.1)] at h; simpa [zOp, z43, and_assoc] using h)
      clear HPK hC
      go_wp2_with (go_at_call 14; refine (client_Line.calls k n ke ⟨#[]⟩ ⟨#[]⟩ 1 _ (by unfold client_Line.f; rw [if_neg hr]) (HT.out _ HQ9.out.p0.b)).mono ?_)
      rintro e wl ⟨rfl, hb⟩
      have HL := Lib.hid (HQ9.out.below hb)
      clear hb
      have a0 := HL.out.p0.r0
      have a1 := HL.out.p0.r1
      have a2 := HL.out.p0.r2
      have a3 := HL.out.p0.r3
      have g0 := HL.out.p0.fr 0
      have g1 := HL.out.p0.fr 1
      have g2 := HL.out.p0.fr 2
      have g3 := HL.out.p0.fr 3
      have b0 := HL.out.c0
      have b1 := HL.out.c1
      have b2 := HL.out.c2
      have b3 := HL.out.c3
      clear hr
      go_wp2
      have hs := set4 (a' := .int .i64 0) (b' := .int .i64 0) (c' := .string ⟨#[]⟩) (d' := .string ⟨#[]⟩) HL.out.p0.r
      have hbe := HL.out.p0.b.trans (set4_below (W := wl) (g := w.heap.size) (a' := .int .i64 0) (b' := .int .i64 0) (c' := .string ⟨#[]⟩) (d' := .string ⟨#[]⟩))
      refine bodyPost_ret (results_list (rs := [.cell 2 43, .tmp 3]) rfl (by simp) (.cell w.heap.size 43 _ (0, 0) _ rfl hs Tryd.underlying43 rfl infoOp (.tmp .nil))) rfl ?_
      obtain ⟨e0, e1, e2, e3, e4⟩ := HE.out
      rw [e0, e1, e2, e3, e4]
      exact ⟨rfl, hbe⟩
  · obtain ⟨n, hn⟩ : ∃ n, atoiN (wdAt line 1) = n := ⟨_, rfl⟩
    have HA := Lib.hid (fun W (h : Tabs W) => atoi_p (wdAt line 1) W (Nat.le_trans (wd_size line 1) hl) h)
    rw [hn] at HA
    obtain ⟨ke, hke⟩ : ∃ ke, untS (wdAt line 2) = ke := ⟨_, rfl⟩
    have HU := Lib.hid (fun W (h : Tabs W) => untext_any (wdAt line 2) W (Nat.le_trans (wd_size line 2) (by omega)) h)
    rw [hke] at HU
    obtain ⟨va, hva⟩ : ∃ va, untS (wdAt line 3) = va := ⟨_, rfl⟩
    have HX := Lib.hid (fun W (h : Tabs W) => untext_any (wdAt line 3) W (Nat.le_trans (wd_size line 3) (by omega)) h)
    rw [hva] at HX
    have hC : candO k line = ⟨k, n, ke, va⟩ := by rw [HCO.out]; simp [hn, hke, hva]
    clear HCO hn hke hva
    go_wp2_with (go_at_call 24; refine (next_calls _ _ B ws (min 1 ws.length) HP5.out.p0.d hlen).mono ?_)
    rintro e w6 ⟨rfl, hd, bt, hb⟩
    rw [HWM.out 1]
    have HP6 := Lib.hid (HP5.out.but hd (show _ = min 2 ws.length by omega) bt hb)
    clear hd bt hb
    go_wp2_with (go_at_call 28; refine (HA.out _ (HT.out _ HP6.out.p0.b)).mono ?_)
    rintro e w7 ⟨ev, rfl, hb⟩
    have HP7 := Lib.hid (HP6.out.below hb)
    clear hb
    have x7 := HP7.out.c1
    have y7 := HP7.out.fr 1
    have HQ7 := Lib.hid (HP7.out.s1 (n))
    go_wp2_with (go_at_call 24; refine (next_calls _ _ B ws (min 2 ws.length) HQ7.out.p0.d hlen).mono ?_)
    rintro e w8 ⟨rfl, hd, bt, hb⟩
    rw [HWM.out 2]
    have HP8 := Lib.hid (HQ7.out.but hd (show _ = min 3 ws.length by omega) bt hb)
    clear hd bt hb
    go_wp2_with (go_at_call 29; refine (HU.out _ (HT.out _ HP8.out.p0.b)).mono ?_)
    rintro e w9 ⟨rfl, hb⟩
    have HP9 := Lib.hid (HP8.out.below hb)
    clear hb
    have x9 := HP9.out.c2
    have y9 := HP9.out.fr 2
    have HQ9 := Lib.hid (HP9.out.s2 (ke))
    go_wp2_with (go_at_call 24; refine (next_calls _ _ B ws (min 3 ws.length) HQ9.out.p0.d hlen).mono ?_)
    rintro e w10 ⟨rfl, hd, bt, hb⟩
    rw [HWM.out 3]
    have HP10 := Lib.hid (HQ9.out.but hd (show _ = min 4 ws.length by omega) bt hb)
    clear hd bt hb
    go_wp2_with (go_at_call 29; refine (HX.out _ (HT.out _ HP10.out.p0.b)).mono ?_)
    rintro e w11 ⟨rfl, hb⟩
    have HP11 := Lib.hid (HP10.out.below hb)
    clear hb
    have x11 := HP11.out.c3
    have y11 := HP11.out.fr 3
    have HQ11 := Lib.hid (HP11.out.s3 (va))
    have o0 := HQ11.out.c0
    have o1 := HQ11.out.c1
    have o2 := HQ11.out.c2
    have o3 := HQ11.out.c3
    by_cases hr : rightO ⟨k, n, ke, va⟩ = true
    · by_cases hle : lineB ⟨k, n, ke, va⟩ = line
      · have HE : Hid (r0 = k ∧ r1 = n ∧ r2 = ke ∧ r3 = va ∧ r4 = 0) := Lib.hid (by have h := HPK.out; rw [hC, if_pos ⟨hr, hle⟩] at h; simpa [zOp, z43, and_assoc] using h)
        clear HPK hC
        go_wp2_with (go_at_call 14; refine (client_Line.calls k n ke va line 0 _ (by unfold client_Line.f; rw [if_pos hr, hle]) (HT.out _ HQ11.out.p0.b)).mono ?_)
        rintro e wl ⟨rfl, hb⟩
        have HL := Lib.hid (HQ11.out.below hb)
        clear hb
        have a0 := HL.out.p0.r0
        have a1 := HL.out.p0.r1
        have a2 := HL.out.p0.r2
        have a3 := HL.out.p0.r3
        have g0 := HL.out.p0.fr 0
        have g1 := HL.out.p0.fr 1
        have g2 := HL.out.p0.fr 2
        have g3 := HL.out.p0.fr 3
        have b0 := HL.out.c0
        have b1 := HL.out.c1
        have b2 := HL.out.c2
        have b3 := HL.out.c3
        clear hr hle
        go_wp2
        have hs := set4 (a' := .int .i64 k) (b' := .int .i64 n) (c' := .string ke) (d' := .string va) HL.out.p0.r
        have hbe := HL.out.p0.b.trans (set4_below (W := wl) (g := w.heap.size) (a' := .int .i64 k) (b' := .int .i64 n) (c' := .string ke) (d' := .string va))
        refine bodyPost_ret (results_list (rs := [.cell 2 43, .tmp 3]) rfl (by simp) (.cell w.heap.size 43 _ (0, 0) _ rfl hs Tryd.underlying43 rfl infoOp (.tmp .nil))) rfl ?_
        obtain ⟨e0, e1, e2, e3, e4⟩ := HE.out
        rw [e0, e1, e2, e3, e4]
        exact ⟨rfl, hbe⟩
      · have HE : Hid (r0 = 0 ∧ r1 = 0 ∧ r2 = ⟨#[]⟩ ∧ r3 = ⟨#[]⟩ ∧ r4 = 2) := Lib.hid (by have h := HPK.out; rw [hC, if_neg (fun h => hle h.2)] at h; simpa [zOp, z43, and_assoc] using h)
        obtain ⟨s, hs0⟩ : ∃ s, lineB ⟨k, n, ke, va⟩ = s := ⟨_, rfl⟩
        have hsn : ¬ s.toList = line.toList := fun h => hle (by rw [hs0]; exact toList_inj' h)
        have hsb : (s.toList == line.toList) = false := beq_eq_false_iff_ne.2 hsn
        clear HPK hC hle
        go_wp2_with (go_at_call 14; refine (client_Line.calls k n ke va s 0 _ (by unfold client_Line.f; rw [if_pos hr, hs0]) (HT.out _ HQ11.out.p0.b)).mono ?_)
        rintro e wl ⟨rfl, hb⟩
        have HL := Lib.hid (HQ11.out.below hb)
        clear hb
        have a0 := HL.out.p0.r0
        have a1 := HL.out.p0.r1
        have a2 := HL.out.p0.r2
        have a3 := HL.out.p0.r3
        have g0 := HL.out.p0.fr 0
        have g1 := HL.out.p0.fr 1
        have g2 := HL.out.p0.fr 2
        have g3 := HL.out.p0.fr 3
        have b0 := HL.out.c0
        have b1 := HL.out.c1
        have b2 := HL.out.c2
        have b3 := HL.out.c3
        clear hr hs0
        go_wp2
        have hs := set4 (a' := .int .i64 0) (b' := .int .i64 0) (c' := .string ⟨#[]⟩) (d' := .string ⟨#[]⟩) HL.out.p0.r
        have hbe := HL.out.p0.b.trans (set4_below (W := wl) (g := w.heap.size) (a' := .int .i64 0) (b' := .int .i64 0) (c' := .string ⟨#[]⟩) (d' := .string ⟨#[]⟩))
        refine bodyPost_ret (results_list (rs := [.cell 2 43, .tmp 3]) rfl (by simp) (.cell w.heap.size 43 _ (0, 0) _ rfl hs Tryd.underlying43 rfl infoOp (.tmp .nil))) rfl ?_
        obtain ⟨e0, e1, e2, e3, e4⟩ := HE.out
        rw [e0, e1, e2, e3, e4]
        exact ⟨rfl, hbe⟩
    · have HE : Hid (r0 = 0 ∧ r1 = 0 ∧ r2 = ⟨#[]⟩ ∧ r3 = ⟨#[]⟩ ∧ r4 = 2) := Lib.hid (by have h := HPK.out; rw [hC, if_neg (fun h => hr h.1)] at h; simpa [zOp, z43, and_assoc] using h)
      clear HPK hC
      go_wp2_with (go_at_call 14; refine (client_Line.calls k n ke va ⟨#[]⟩ 1 _ (by unfold client_Line.f; rw [if_neg hr]) (HT.out _ HQ11.out.p0.b)).mono ?_)
      rintro e wl ⟨rfl, hb⟩
      have HL := Lib.hid (HQ11.out.below hb)
      clear hb
      have a0 := HL.out.p0.r0
      have a1 := HL.out.p0.r1
      have a2 := HL.out.p0.r2
      have a3 := HL.out.p0.r3
      have g0 := HL.out.p0.fr 0
      have g1 := HL.out.p0.fr 1
      have g2 := HL.out.p0.fr 2
      have g3 := HL.out.p0.fr 3
      have b0 := HL.out.c0
      have b1 := HL.out.c1
      have b2 := HL.out.c2
      have b3 := HL.out.c3
      clear hr
      go_wp2
      have hs := set4 (a' := .int .i64 0) (b' := .int .i64 0) (c' := .string ⟨#[]⟩) (d' := .string ⟨#[]⟩) HL.out.p0.r
      have hbe := HL.out.p0.b.trans (set4_below (W := wl) (g := w.heap.size) (a' := .int .i64 0) (b' := .int .i64 0) (c' := .string ⟨#[]⟩) (d' := .string ⟨#[]⟩))
      refine bodyPost_ret (results_list (rs := [.cell 2 43, .tmp 3]) rfl (by simp) (.cell w.heap.size 43 _ (0, 0) _ rfl hs Tryd.underlying43 rfl infoOp (.tmp .nil))) rfl ?_
      obtain ⟨e0, e1, e2, e3, e4⟩ := HE.out
      rw [e0, e1, e2, e3, e4]
      exact ⟨rfl, hbe⟩
theorem kind_range (s : ByteArray) : kindOf s = 0 ∨ 1 ≤ kindOf s ∧ kindOf s ≤ 9 := by
  unfold kindOf
  repeat' split
  all_goals omega
def client_Parse.f (line : ByteArray) : Option (Int × Int × ByteArray × ByteArray × Int) := if line.size ≤ 900000 then some ((parseR line).1.f0, (parseR line).1.f1, (parseR line).1.f2, (parseR line).1.f3, (parseR line).2) else none
theorem client_Parse.calls (a0 : ByteArray) (r1 r2 : Int) (r3 r4 : ByteArray) (r5 : Int) (w : World) (h : client_Parse.f a0 = some (r1, r2, r3, r4, r5)) (ht : Tabs w) :
    Calls Tryd.prog 13 #[.string a0] w fun e w' => e = .returned (.tuple #[.agg #[.int .i64 r1, .int .i64 r2, .string r3, .string r4], .int .i64 r5]) ∧ Below w.heap.size w w' := by
  unfold client_Parse.f at h
  split at h
  · rename_i hs
    simp only [Option.some.injEq, Prod.mk.injEq] at h
    obtain ⟨rfl, rfl, rfl, rfl, rfl⟩ := h
    rcases kind_range (wdAt a0 0) with hk | hk
    · have e : parseR a0 = (zOp, 2) := by unfold parseR; rw [if_pos hk]
      rw [e]
      exact parse_none a0 hs hk w ht
    · have e : parseR a0 = pickR (kindOf (wdAt a0 0)) a0 := by unfold parseR; rw [if_neg (by omega)]; rfl
      rw [e]
      exact parse_some a0 hs _ rfl hk.1 hk.2 w ht
  · cases h
end Go.Proofs.YtiidffblbpoijaaDoor
