/-
  The space layer: a new book, no book, and the document's example.
-/
import Derived.Test.YtlicobfjeajcfaaSpE
import Derived.Test.YtlicobfjeajcfaaPSpaceNotesx1
namespace Go.Proofs.Ytlicobfjeajcfaa
open Go.RowKit Go.Maps
open Go.Proofs.YtlicobfjeajcfaaW.PrintWords Go.Proofs.YtlicobfjeajcfaaW.PrintLast Go.Proofs.YtlicobfjeajcfaaW.PrintMore
set_option linter.unusedVariables false
set_option linter.unusedSimpArgs false

theorem Drawn0.bel {w w' : World} (h : Drawn0 w w') : Below w.heap.size w w' := h.below

theorem Rep.new (w : World) : Rep ((w.alloc (.map #[] 0)).alloc (.cells #[.map (some w.heap.size)] 66)) w.heap.size (w.heap.size + 1) 0 w.heap.size (.map []) (fun _ _ => 0) := by
  refine ⟨by simp, Nat.le_refl _, by simp; omega, (World.ownsMap_made _ _ _ _).alloc _, ?_, ?_, ?_, fun _ _ _ => rfl⟩
  · intro t b ht hb
    cases hb
  · intro t t' b _ _ hb
    cases hb
  · intro t _ hh
    cases hh

theorem Sp.new {w w' : World} (h : w' = (w.alloc (.map #[] 0)).alloc (.cells #[.map (some w.heap.size)] 66)) : Sp w' w.heap.size (w.heap.size + 1) 0 [] (fun _ _ => 0) := by
  subst h
  refine ⟨_, _, Rep.new w, List.nodup_nil, by simp, ?_, fun _ => rfl⟩
  intro t _
  simp [has_eq]

set_option maxRecDepth 100000 in
set_option maxHeartbeats 400000 in
theorem new_calls (w : World) : Calls Try.prog 10 #[] w fun e w' => e = .returned (.pointer (some ⟨w.heap.size + 1, 0, none⟩)) ∧ Sp w' w.heap.size (w.heap.size + 1) 0 [] (fun _ _ => 0) ∧ Below w.heap.size w w' := by
  have hmm := @run_makeMap Try.prog
  go_enter Try.func10, Try.ntmps10
  go_wp2
  go_ret
  exact ⟨rfl, Sp.new rfl, ((Below.refl _ _).alloc (Nat.le_refl _) _).alloc (by simp) _⟩

/-! ### no book -/
theorem note_nil (t x : Int) (s : Value) (w : World) : Calls Try.prog 27 #[.pointer none, .int .i64 t, .int .i64 x, s] w fun e w' => e = .returned (.tuple #[]) ∧ w = w' := by
  go_enter Try.func27, Try.ntmps27
  go_wp2
  exact bodyPost_ret (results_none rfl _ _ _) rfl ⟨rfl, rfl⟩
theorem take_nil (t : Int) (s : Value) (w : World) : Calls Try.prog 11 #[.pointer none, .int .i64 t, s] w fun e w' => e = .returned (.tuple #[]) ∧ w = w' := by
  go_enter Try.func11, Try.ntmps11
  go_wp2_with (go_at_call 27; refine (note_nil _ _ _ _).mono ?_; rintro e w' ⟨rfl, rfl⟩)
  go_end0
  exact ⟨rfl, rfl⟩
theorem put_nil (t : Int) (s : Value) (w : World) : Calls Try.prog 14 #[.pointer none, .int .i64 t, s] w fun e w' => e = .returned (.tuple #[]) ∧ w = w' := by
  go_enter Try.func14, Try.ntmps14
  go_wp2_with (go_at_call 27; refine (note_nil _ _ _ _).mono ?_; rintro e w' ⟨rfl, rfl⟩)
  go_end0
  exact ⟨rfl, rfl⟩
theorem done_nil (s : Value) (w : World) : Calls Try.prog 20 #[.pointer none, s] w fun e w' => e = .returned (.tuple #[]) ∧ w = w' := by
  go_enter Try.func20, Try.ntmps20
  go_wp2
  go_end0
  exact ⟨rfl, rfl⟩
theorem need_nil (t p : Int) (w : World) : Calls Try.prog 18 #[.pointer none, .int .i64 t, .int .i64 p] w fun e w' => e = .returned (.int .i64 0) ∧ w = w' := by
  go_enter Try.func18, Try.ntmps18
  go_wp2
  go_ret
  exact ⟨rfl, rfl⟩
theorem all_nil (p : Int) (w : World) : Calls Try.prog 15 #[.pointer none, .int .i64 p] w fun e w' => e = .returned (.int .i64 0) ∧ w = w' := by
  go_enter Try.func15, Try.ntmps15
  go_wp2
  go_ret
  exact ⟨rfl, rfl⟩
theorem room_nil (t p g : Int) (s : Value) (w : World) : Calls Try.prog 19 #[.pointer none, .int .i64 t, .agg #[.int .i64 p, .int .i64 g, s]] w fun e w' => e = .returned (.int .i64 0) ∧ Below w.heap.size w w' := by
  go_enter Try.func19, Try.ntmps19
  go_wp2
  go_ret
  exact ⟨rfl, (Below.refl _ _).alloc (Nat.le_refl _) _⟩
theorem may_nil (t p g : Int) (s : Value) (w : World) : Calls Try.prog 12 #[.pointer none, .int .i64 t, .agg #[.int .i64 p, .int .i64 g, s]] w fun e w' => e = .returned (.bool false) ∧ Below w.heap.size w w' := by
  go_enter Try.func12, Try.ntmps12
  go_wp2
  go_quiet (fail)
  go_wp2
  go_ret
  exact ⟨rfl, pw_below_drewN ((Below.refl _ _).alloc (Nat.le_refl _) _) _⟩

/-! ### a page of so many cells -/
theorem page_l (n : Int) (hn : n ≤ 1000) : ∀ (d k : Nat) (i x y : Int) (acc : List PSpaceNotes.S69), 0 ≤ i → (n - i).toNat = d → d < k → (acc.length : Int) = i → i ≤ n → ∃ r, PSpaceNotes.quadrigalaw16_page.l0 k n i x y acc = some (x, y, r) ∧ (r.length : Int) = n := by
  intro d
  induction d with
  | zero =>
    intro k i x y acc h0 hd hk ha hi
    obtain ⟨k, rfl⟩ : ∃ m, k = m + 1 := ⟨k - 1, by omega⟩
    refine ⟨acc, ?_, by omega⟩
    simp only [PSpaceNotes.quadrigalaw16_page.l0]
    rw [if_neg (by omega)]
  | succ d ih =>
    intro k i x y acc h0 hd hk ha hi
    obtain ⟨k, rfl⟩ : ∃ m, k = m + 1 := ⟨k - 1, by omega⟩
    simp only [PSpaceNotes.quadrigalaw16_page.l0]
    rw [if_pos (by omega), if_pos (by omega)]
    have e : wrap64 (i + 1) = i + 1 := by unfold wrap64; omega
    rw [e]
    exact ih k (i + 1) x y _ (by omega) (by omega) (by omega) (by simp; omega) (by omega)

theorem page_calls (no n : Int) (h0 : 0 ≤ n) (hn : n ≤ 1000) (w : World) : Calls Try.prog 13 #[.int .i64 no, .int .i64 n] w fun e w' => (∃ A c, e = .returned (.agg #[.int .i64 no, .int .i64 0, .slice A n.toNat c])) ∧ Below w.heap.size w w' := by
  obtain ⟨r, hr, hl⟩ := page_l n hn n.toNat (n.toNat + 1) 0 no 0 [] (by omega) (by omega) (by omega) (by simp) h0
  refine (PSpaceNotes.quadrigalaw16_page.calls (n.toNat + 1) no n no 0 r w hr).mono ?_
  rintro e w' ⟨v, rfl, hR, hb⟩
  obtain ⟨A, c, rfl⟩ := Kd.R_slice hR
  have : r.length = n.toNat := by omega
  rw [this]
  exact ⟨⟨A, c, rfl⟩, hb⟩

theorem place_ab (w : World) : Calls Try.prog 9 #[.string ⟨#[97, 98]⟩, .int .i64 7] w fun e w' => e = .returned (.int .i64 6) ∧ Below w.heap.size w w' :=
  (PSpaceNotes.space_Place.calls 5 ⟨#[97, 98]⟩ 7 6 w (by decide +kernel)).mono fun e w' ⟨h1, h2⟩ => ⟨h1, h2.below⟩

theorem Sp.below {w w' : World} {base sb N : Nat} {K : List Int} {F : Int → Int → Int} (h : Sp w base sb N K F) (hb : Below w.heap.size w w') : Sp w' base sb N K F := by
  obtain ⟨B, D, hr, r⟩ := h
  exact ⟨B, D, hr.below hb, r⟩
theorem Sp.hbase {w : World} {base sb N : Nat} {K : List Int} {F : Int → Int → Int} (h : Sp w base sb N K F) : base ≤ w.heap.size := by
  obtain ⟨B, D, hr, r⟩ := h
  exact hr.hbase

/-- One number in a new block. -/
theorem rd_one (w : World) (p : Int) (t : TypeId) (hp : (Lit.int .i64 p).wf = true) : RdI (w.alloc (.cells #[.int .i64 p] t)) (some ⟨w.heap.size, 0, none⟩) [p] := by
  intro i hi
  have hi0 : i = 0 := by simpa using hi
  subst hi0
  exact ⟨_, _, rfl, by simp, by simpa using hp⟩

def exF : Int → Int → Int := updF (fun _ _ => 0) 1 (turns ((fun _ _ => 0 : Int → Int → Int) 1) 1 [4])

/-- A book, while the world grows on. -/
def St (w : World) (base sb N : Nat) (K : List Int) (F : Int → Int → Int) (x : World) : Prop := Sp x base sb N K F ∧ Below w.heap.size w x
theorem St.step {w x y : World} {base sb N : Nat} {K : List Int} {F : Int → Int → Int} (h : St w base sb N K F x) (hb : Below x.heap.size x y) : St w base sb N K F y :=
  ⟨h.1.below hb, h.2.trans (hb.mono h.2.size)⟩

set_option maxRecDepth 100000 in
set_option maxHeartbeats 1000000 in
theorem awake_calls (w : World) : Calls Try.prog 8 #[] w fun e w' => e = .returned (.bool true) ∧ Below w.heap.size w w' := by
  have v1 : mayK [1] exF 2 4 7 = false := by decide +kernel
  have v2 : mayK [1] exF 1 4 7 = true := by decide +kernel
  have v3 : roomK [1] exF 1 4 7 = 1 := by decide +kernel
  have v4 : roomK [1] exF 2 4 7 = 0 := by decide +kernel
  have V1 := Lib.hid v1
  have V2 := Lib.hid v2
  have V3 := Lib.hid v3
  have V4 := Lib.hid v4
  clear v1 v2 v3 v4
  have w1 : (Lit.int .i64 1).wf = true := by decide
  have w2 : (Lit.int .i64 2).wf = true := by decide
  have w4 : (Lit.int .i64 4).wf = true := by decide
  have W1 := Lib.hid w1
  have W2 := Lib.hid w2
  have W4 := Lib.hid w4
  clear w1 w2 w4
  go_enter Try.func8, Try.ntmps8
  go_wp2_with fail
  refine (new_calls _).mono ?_
  rintro e x1 ⟨rfl, hs1, hb1⟩
  have hs2 := hs1.below ((Below.refl _ _).alloc (Nat.le_refl _) (.cells #[.int .i64 4] 3))
  have hr2 := rd_one x1 4 3 W4.out
  have hb2 := hb1.alloc hb1.size (.cells #[.int .i64 4] 3)
  have Hs2 := Lib.hid hs2
  clear hs1 hs2 hb1
  go_wp2_with fail
  refine (Hs2.out.take 1 _ [4] 1 W1.out hr2 (by simp)).mono ?_
  rintro e y0 ⟨rfl, hs3, hc3⟩
  have hs : St w w.heap.size (w.heap.size + 1) 2 [1] exF y0 := ⟨hs3, hb2.trans hc3.below⟩
  clear Hs2 hr2 hb2 hs3 hc3
  go_wp2_with fail
  refine (page_calls 4 7 (by omega) (by omega) _).mono ?_
  rintro e y1 ⟨⟨A1, c1, rfl⟩, hb⟩
  have hs := hs.step hb
  clear hb
  go_wp2_with fail
  refine (hs.1.may 2 4 0 _ 7 _ W2.out W4.out (by omega)).mono ?_
  rintro e z1 ⟨rfl, hb⟩
  have hs := hs.step hb
  clear hb
  rw [show mayK [1] exF 2 4 ((7 : Nat) : Int) = false from V1.out]
  go_wp2_with fail
  refine (page_calls 4 7 (by omega) (by omega) _).mono ?_
  rintro e y2 ⟨⟨A2, c2, rfl⟩, hb⟩
  have hs := hs.step hb
  clear hb
  go_wp2_with fail
  refine (hs.1.may 1 4 0 _ 7 _ W1.out W4.out (by omega)).mono ?_
  rintro e z2 ⟨rfl, hb⟩
  have hs := hs.step hb
  clear hb
  rw [show mayK [1] exF 1 4 ((7 : Nat) : Int) = true from V2.out]
  go_wp2_with fail
  refine (page_calls 4 7 (by omega) (by omega) _).mono ?_
  rintro e y3 ⟨⟨A3, c3, rfl⟩, hb⟩
  have hs := hs.step hb
  clear hb
  go_wp2_with fail
  refine (hs.1.room 1 4 0 _ 7 _ W1.out W4.out (by omega)).mono ?_
  rintro e z3 ⟨rfl, hb⟩
  have hs := hs.step hb
  clear hb
  rw [show roomK [1] exF 1 4 ((7 : Nat) : Int) = 1 from V3.out]
  go_wp2_with fail
  refine (page_calls 4 7 (by omega) (by omega) _).mono ?_
  rintro e y4 ⟨⟨A4, c4, rfl⟩, hb⟩
  have hs := hs.step hb
  clear hb
  go_wp2_with fail
  refine (hs.1.room 2 4 0 _ 7 _ W2.out W4.out (by omega)).mono ?_
  rintro e z4 ⟨rfl, hb⟩
  have hs := hs.step hb
  clear hb
  rw [show roomK [1] exF 2 4 ((7 : Nat) : Int) = 0 from V4.out]
  go_wp2_with fail
  refine (place_ab _).mono ?_
  rintro e z5 ⟨rfl, hb⟩
  have hs := hs.step hb
  clear hb
  go_wp2_with fail
  go_ret
  exact ⟨rfl, hs.2⟩

end Go.Proofs.Ytlicobfjeajcfaa
