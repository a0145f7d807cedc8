/-
  client.words.next: a line's words, one by one; which verb a word is.
-/
import Derived.Test.YtiidffblbpoijaaDoorQ33a0
import Derived.Test.YtiidffblbpoijaaDoorRcValue
import Derived.Lib.Hide
import Derived.WalkKit
import Derived.WalkSpells
import Derived.WalkLawsBesides
namespace Go.Proofs.YtiidffblbpoijaaDoor
open Go.RowKit Go.Proofs.YtiidffblbpoijaaDoor.Q33 Go.Proofs.YtiidffblbpoijaaDoorW.PrintWords
set_option linter.unusedVariables false
set_option linter.unusedSimpArgs false
/-- Words of which j are taken: a cell that holds those that are left, a row that holds all. -/
structure Wds (W : World) (G B : Nat) (ws : List ByteArray) (j : Nat) : Prop where
  ne : G ≠ B
  le : j ≤ ws.length
  cell : ∃ A, W.heap[G]? = some (.cells #[.slice A (ws.length - j) (ws.length - j)] 64 (0, 0)) ∧ (j < ws.length → A = some ⟨B, j, none⟩)
  row : W.heap[B]? = some (.cells (ws.map Value.string).toArray 9 (0, 0))
/-- Nothing but one block has changed. -/
structure But (G : Nat) (W W' : World) : Prop where
  size : W.heap.size ≤ W'.heap.size
  at_ : ∀ k, k < W.heap.size → k ≠ G → W'.heap[k]? = W.heap[k]?
theorem But.refl (G : Nat) (W : World) : But G W W := ⟨Nat.le_refl _, fun _ _ _ => rfl⟩
theorem But.of_below {G : Nat} {W W' : World} (h : Below W.heap.size W W') : But G W W' := ⟨h.size, fun k hk _ => h.block k hk⟩
theorem But.trans {G : Nat} {W W' W'' : World} (h : But G W W') (k : But G W' W'') : But G W W'' := ⟨Nat.le_trans h.size k.size, fun i hi hn => (k.at_ i (Nat.lt_of_lt_of_le hi h.size) hn).trans (h.at_ i hi hn)⟩
theorem But.cell {G : Nat} {W W' : World} (h : But G W W') {a : Addr} {v : Value} (hn : a.block ≠ G) (hc : W.cell? a = some v) : W'.cell? a = some v := by
  have hlt := World.block_lt_of_cell? _ _ hc
  unfold World.cell? at hc ⊢
  rw [h.at_ a.block hlt hn]
  exact hc
theorem Wds.below {W W' : World} {G B j : Nat} {ws : List ByteArray} (h : Wds W G B ws j) (hb : Below W.heap.size W W') : Wds W' G B ws j := by
  obtain ⟨h1, h2, ⟨A, h3, h4⟩, h5⟩ := h
  have lt : ∀ {k : Nat} {o : Obj}, W.heap[k]? = some o → W'.heap[k]? = some o := fun {k o} hk => by
    have : k < W.heap.size := (Array.getElem?_eq_some_iff.1 hk).1
    rw [hb.block k this, hk]
  exact ⟨h1, h2, ⟨A, lt h3, h4⟩, lt h5⟩
theorem wds_lt {W : World} {G B j : Nat} {ws : List ByteArray} (h : Wds W G B ws j) : G < W.heap.size := by
  obtain ⟨_, _, ⟨A, h3, _⟩, _⟩ := h
  exact (Array.getElem?_eq_some_iff.1 h3).1
theorem set_facts {W : World} {G B : Nat} {u v : Value} {o : Obj} {T : TypeId} (hne : G ≠ B) (hG : W.heap[G]? = some (.cells #[u] T (0, 0))) (hB : W.heap[B]? = some o) :
    (W.setCell ⟨G, 0, none⟩ v).heap[G]? = some (.cells #[v] T (0, 0)) ∧ (W.setCell ⟨G, 0, none⟩ v).heap[B]? = some o ∧ But G W (W.setCell ⟨G, 0, none⟩ v) ∧ Below G W (W.setCell ⟨G, 0, none⟩ v) := by
  have hs : (W.setCell ⟨G, 0, none⟩ v).heap.size = W.heap.size := by simp [World.setCell]
  refine ⟨?_, ?_, ⟨by omega, fun k hk hn => Below.heap_setCell W ⟨G, 0, none⟩ v k hn⟩, ⟨rfl, rfl, rfl, by omega, fun k hk => Below.heap_setCell W ⟨G, 0, none⟩ v k (by show k ≠ G; omega)⟩⟩
  · rw [heap_setCell_same W G 0 #[u] T v hG]
    rfl
  · rw [Below.heap_setCell W ⟨G, 0, none⟩ v B (fun e => hne e.symm)]
    exact hB
set_option maxHeartbeats 1000000 in
/-- A word is taken. -/
theorem next_calls (W : World) (G B : Nat) (ws : List ByteArray) (j : Nat) (h : Wds W G B ws j) (hl : ws.length ≤ 1000000) :
    Calls Tryd.prog 24 #[.pointer (some ⟨G, 0, none⟩)] W fun e w' => e = .returned (.string (ws.getD j ByteArray.empty)) ∧ Wds w' G B ws (min (j + 1) ws.length) ∧ But G W w' ∧ Below G W w' := by
  obtain ⟨hne, hle, ⟨A, hG, hA⟩, hB⟩ := h
  have hc : W.cell? ⟨G, 0, none⟩ = some (.slice A (ws.length - j) (ws.length - j)) := (blk_cell hG 0).trans rfl
  by_cases hlt : j < ws.length
  · obtain rfl := hA hlt
    obtain ⟨n, hn⟩ : ∃ n, n = ws.length - j := ⟨_, rfl⟩
    have hn1 : 1 ≤ n := by omega
    have hw : W.cell? ⟨B, j, none⟩ = some (.string (ws.getD j ByteArray.empty)) := by
      refine (blk_cell hB j).trans ?_
      rw [List.getElem?_toArray, List.getElem?_map, List.getD_eq_getElem?_getD, List.getElem?_eq_getElem hlt]
      rfl
    have hfz := blk_frozen hG 0
    rw [← hn] at hc hG
    obtain ⟨x, hx⟩ : ∃ x, x = ws.getD j ByteArray.empty := ⟨_, rfl⟩
    rw [← hx] at hw ⊢
    have Hx := Lib.hid hx
    clear hx
    go_enter Tryd.func24, Tryd.ntmps24
    go_wp2
    · go_ret
      obtain ⟨s1, s2, s3, s4⟩ := set_facts (v := .slice (some ⟨B, j, none⟩) 0 0) hne hG hB
      refine ⟨rfl, ⟨hne, by omega, ⟨some ⟨B, j, none⟩, ?_, fun h => ?_⟩, s2⟩, s3, s4⟩
      · rw [s1, show ws.length - min (j + 1) ws.length = 0 by omega]
      · omega
    · go_ret
      obtain ⟨s1, s2, s3, s4⟩ := set_facts (v := .slice (some ⟨B, j + 1, none⟩) (ws.length - j - 1) (ws.length - j - 1)) hne hG hB
      refine ⟨rfl, ⟨hne, by omega, ⟨some ⟨B, j + 1, none⟩, ?_, fun h => ?_⟩, s2⟩, s3, s4⟩
      · rw [s1, show ws.length - min (j + 1) ws.length = ws.length - j - 1 by omega]
      · rw [show min (j + 1) ws.length = j + 1 by omega]
  · have hz : ws.length - j = 0 := by omega
    rw [hz] at hc
    have hd : ws.getD j ByteArray.empty = ⟨#[]⟩ := by
      rw [List.getD_eq_getElem?_getD, List.getElem?_eq_none (by omega)]
      rfl
    rw [hd]
    have hm : min (j + 1) ws.length = j := by omega
    have Hm := Lib.hid hm
    clear hm hd
    go_enter Tryd.func24, Tryd.ntmps24
    go_wp2
    go_ret
    refine ⟨rfl, ?_, But.refl _ _, Below.refl _ _⟩
    rw [Hm.out]
    exact ⟨hne, hle, ⟨A, hG, hA⟩, hB⟩

abbrev Vb := S68
abbrev zVb : Vb := z68
/-- Is it the verb's word? -/
def isV (first : ByteArray) (x : Vb) : Bool := x.f0.toList == first.toList
theorem cloVerb (F : Nat) (first : ByteArray) (x : Vb) (W : World) (hF : W.cell? ⟨F, 0, none⟩ = some (.string first)) :
    Calls Tryd.prog 27 #[.agg #[.string x.f0, .int .i64 x.f1], .pointer (some ⟨F, 0, none⟩)] W fun e w' => e = .returned (.bool (isV first x)) ∧ Below W.heap.size W w' := by
  have hb0 : Below W.heap.size W (W.alloc (.cells #[.string x.f0, .int .i64 x.f1] 68)) := (Below.refl _ _).alloc (Nat.le_refl _) _
  have hF1 := (hb0.cell (p := ⟨F, 0, none⟩) (World.block_lt_of_cell? _ _ hF)).trans hF
  obtain ⟨q, hq⟩ : ∃ q, isV first x = q := ⟨_, rfl⟩
  rw [hq]
  have hq1 : (x.f0.toList == first.toList) = q := hq
  clear hq
  go_enter Tryd.func27, Tryd.ntmps27
  go_wp2
  go_ret
  exact ⟨rfl, by repeat (first | exact Below.refl _ _ | exact hb0 | apply below_alloc | apply pw_below_drewN | apply below_drew1)⟩
theorem atVerb {w : World} {A : Option Addr} {l : List Vb} {k : Nat} (h : Kd.C k68 w A l.length l) (hk : k < l.length) : ∃ ad, A = some ad ∧ w.cell? (ad.add (k * 2)) = some (.string (l.getD k zVb).f0) ∧ w.cell? ⟨(ad.add (k * 2)).block, (ad.add (k * 2)).off + 1, none⟩ = some (.int .i64 (l.getD k zVb).f1) := by
  obtain ⟨ad, e, hc⟩ := at_T68 h (k : Int) (by omega) (by omega)
  refine ⟨ad, e, ?_⟩
  simpa [rd_T68] using hc
/-- Which verb it is: -1, if none. -/
def VerbPost (first : ByteArray) (l : List Vb) (w : World) (e : Ending) (w' : World) : Prop :=
  ∃ r : Int, e = .returned (.int .i64 r) ∧ ((∃ i : Nat, i < l.length ∧ r = i ∧ isV first (l.getD i zVb) = true) ∨ (r = -1 ∧ ∀ j, j < l.length → isV first (l.getD j zVb) = false)) ∧ Below w.heap.size w w'
def IdxRelV (A : Option Addr) (l : List Vb) (first : ByteArray) (F : Nat) (w wr : World) (k : Nat) : Prop :=
  (∀ j : Nat, j < k → isV first (l.getD j zVb) = false) ∧ Below w.heap.size w wr ∧ wr.cell? ⟨F, 0, none⟩ = some (.string first) ∧ Kd.C k68 wr A l.length l
set_option maxRecDepth 100000 in
set_option maxHeartbeats 1000000 in
theorem idxVerb (A : Option Addr) (c : Nat) (l : List Vb) (first : ByteArray) (F : Nat) (w : World) (hF : w.cell? ⟨F, 0, none⟩ = some (.string first)) (hr : Kd.C k68 w A l.length l) :
    Calls Tryd.prog 25 #[.slice A l.length c, .func (.func 27) #[] #[.pointer (some ⟨F, 0, none⟩)]] w (VerbPost first l w) := by
  have hlen : l.length ≤ 9223372036854775807 := hr.2.1
  have h0 : IdxRelV A l first F w w 0 := ⟨fun j hj => absurd hj (Nat.not_lt_zero _), Below.refl _ _, hF, hr⟩
  clear hr hF
  go_enter Tryd.func25, Tryd.ntmps25
  go_wp2
  go_loopw [8] (fun i wr => ∃ k : Nat, k ≤ l.length ∧ i = .int .i64 k ∧ IdxRelV A l first F w wr k) (fun i _ => l.length - (intOf i).toNat)
  case atStart => exact ⟨0, Nat.zero_le _, rfl, h0⟩
  case round =>
    obtain ⟨k, hk, rfl, hpre, hbw, hb, hr⟩ := hrel
    by_cases hlt : k < l.length
    · obtain ⟨ad, rfl, hc0, hc1⟩ := atVerb hr hlt
      have hk3 : (k : Int) < l.length := by omega
      obtain ⟨x, hxd⟩ : ∃ x, x = l.getD k zVb := ⟨_, rfl⟩
      rw [← hxd] at hc0 hc1
      have Hxd := Lib.hid hxd
      clear hxd
      have hclo := cloVerb F first x wr hb
      have Hpre := Lib.hid hpre
      clear hpre
      cases hpx : isV first x with
      | false =>
        have Hpx := Lib.hid hpx
        rw [hpx] at hclo
        clear hpx
        go_wp2_with (go_at_call 27; refine hclo.mono ?_; rintro e w' ⟨rfl, hbel⟩)
        go_roundw
        case rel =>
          refine ⟨k + 1, hlt, by go_num, fun j hj => ?_, hbw.trans (hbel.mono hbw.size), (hbel.cell (p := ⟨F, 0, none⟩) (World.block_lt_of_cell? _ _ hb)).trans hb, Kd.C_below hr hbel⟩
          rcases Nat.lt_succ_iff_lt_or_eq.1 hj with h | rfl
          · exact Hpre.out j h
          · rw [← Hxd.out]
            exact Hpx.out
        case measure => simp [intOf]; omega
      | true =>
        have Hpx := Lib.hid hpx
        rw [hpx] at hclo
        clear hpx
        go_wp2_with (go_at_call 27; refine hclo.mono ?_; rintro e w' ⟨rfl, hbel⟩)
        go_ret
        exact ⟨k, rfl, .inl ⟨k, hlt, rfl, by rw [← Hxd.out]; exact Hpx.out⟩, hbw.trans (hbel.mono hbw.size)⟩
    · obtain rfl : k = l.length := by omega
      have Hpre := Lib.hid hpre
      clear hpre
      go_wp2
      go_ret
      exact ⟨-1, rfl, .inr ⟨rfl, fun j hj => Hpre.out j hj⟩, hbw⟩
end Go.Proofs.YtiidffblbpoijaaDoor
