/-
  client.Print: a program.
-/
import Derived.Test.YtiidffblbpoijaaDoorCbLine
import Derived.Test.YtiidffblbpoijaaDoorCbRight
namespace Go.Proofs.YtiidffblbpoijaaDoor
open Go.RowKit Go.Proofs.YtiidffblbpoijaaDoor.Q33 Go.Proofs.YtiidffblbpoijaaDoorW.PrintWords
set_option linter.unusedVariables false
set_option linter.unusedSimpArgs false
theorem builder_below {T e : TypeId} {B b : Nat} {bs : List Value} {w w' : World} (h : Lib.IsBuilderF T e B b bs w) (hb : Below w.heap.size w w') : Lib.IsBuilderF T e B b bs w' := by
  have one : ∀ p, Lib.BuilderAtF T e B b p bs w → Lib.BuilderAtF T e B b p bs w' := by
    rintro p ⟨h1, v, h2, ⟨h3, h4⟩, h5⟩
    have lt : ∀ {k : Nat} {o : Obj}, w.heap[k]? = some o → w'.heap[k]? = some o := fun {k o} hk => by
      have : k < w.heap.size := (Array.getElem?_eq_some_iff.1 hk).1
      rw [hb.block k this, hk]
    refine ⟨h1, v, lt h2, ⟨h3, ?_⟩, h5⟩
    rcases h4 with h4 | ⟨g, cap, cur, fz, a1, a2, a3, a4⟩
    · exact .inl h4
    · exact .inr ⟨g, cap, cur, fz, a1, a2, lt a3, a4⟩
  exact h.elim (fun x => .inl (one _ x)) (fun x => .inr (one _ x))
def lineL (x : Op) : List UInt8 := joinL (wordsB x) blank
/-- A program's bytes. -/
def progL (l : List Op) : List UInt8 := l.flatMap fun x => lineL x ++ [10]
theorem progL_snoc (l : List Op) (x : Op) : progL (l ++ [x]) = progL l ++ (lineL x ++ [10]) := by simp [progL]
theorem line_len (x : Op) (h : rightO x = true) : (lineL x).length ≤ 1000 := by
  obtain ⟨h1, h2, h3, h4, h5, h6⟩ := right_facts h
  refine joinB_len _ ?_ ?_
  · unfold wordsB
    simp only [List.length_cons, List.length_append]
    split <;> split <;> split <;> simp
  · intro s hs
    have hw := word_size x.f0
    have hi := itoa_size3 x.f1 h3 h4
    have hk := tell_size x.f2 h5
    have hv := tell_size x.f3 h6
    unfold wordsB at hs
    simp only [List.mem_cons, List.mem_append] at hs
    rcases hs with rfl | hs | hs | hs
    · omega
    · split at hs
      · rw [List.mem_singleton.1 hs]; omega
      · cases hs
    · split at hs
      · rw [List.mem_singleton.1 hs]; omega
      · cases hs
    · split at hs
      · rw [List.mem_singleton.1 hs]; omega
      · cases hs
theorem prog_len : ∀ (l : List Op), (∀ x ∈ l, rightO x = true) → (progL l).length ≤ 1001 * l.length
  | [], _ => by simp [progL]
  | a :: r, h => by
    have ih := prog_len r (fun x hx => h x (by simp [hx]))
    have hl := line_len a (h a (by simp))
    have e : (progL (a :: r)).length = (lineL a).length + 1 + (progL r).length := by simp [progL]; omega
    rw [e, List.length_cons]
    omega
def client_Line.f (k n : Int) (a b : ByteArray) : Option (ByteArray × Int) := some (if rightO ⟨k, n, a, b⟩ then (lineB ⟨k, n, a, b⟩, 0) else (⟨#[]⟩, 1))
theorem client_Line.calls (a0_0 : Int) (a0_1 : Int) (a0_2 : ByteArray) (a0_3 : ByteArray) (r1 : ByteArray) (r2 : Int) (w : World) (h : client_Line.f a0_0 a0_1 a0_2 a0_3 = some (r1, r2)) (ht : Tabs w) :
    Calls Tryd.prog 14 #[.agg #[.int .i64 a0_0, .int .i64 a0_1, .string a0_2, .string a0_3]] w fun e w' => e = .returned (.tuple #[.string r1, .int .i64 r2]) ∧ Below w.heap.size w w' := by
  unfold client_Line.f at h
  cases hr : rightO ⟨a0_0, a0_1, a0_2, a0_3⟩ with
  | true =>
    rw [hr, if_pos rfl] at h
    simp only [Option.some.injEq, Prod.mk.injEq] at h
    obtain ⟨rfl, rfl⟩ := h
    exact line_right ⟨a0_0, a0_1, a0_2, a0_3⟩ hr w ht
  | false =>
    rw [hr, if_neg (by decide)] at h
    simp only [Option.some.injEq, Prod.mk.injEq] at h
    obtain ⟨rfl, rfl⟩ := h
    exact line_wrong ⟨a0_0, a0_1, a0_2, a0_3⟩ hr w
theorem right19 (A : Option Addr) (c : Nat) (l : List Op) (w : World) (hr : Kd.C k43 w A l.length l) (hc : l.length ≤ c) (q : Bool) (hq : l.all rightO = q) :
    Calls Tryd.prog 19 #[.slice A l.length c] w fun e w' => e = .returned (.bool q) ∧ Below w.heap.size w w' :=
  client_Right.calls A c l q w hr hc (by unfold client_Right.f; rw [hq])
set_option maxRecDepth 100000 in
set_option maxHeartbeats 4000000 in
theorem print_wrong (A : Option Addr) (c : Nat) (l : List Op) (w : World) (hr : Kd.C k43 w A l.length l) (hc : l.length ≤ c) (hq : l.all rightO = false) :
    Calls Tryd.prog 10 #[.slice A l.length c] w fun e w' => e = .returned (.tuple #[.string ⟨#[]⟩, .int .i64 1]) ∧ Below w.heap.size w w' := by
  have H := Lib.hid (right19 A c l w hr hc false hq)
  clear hr hq
  go_enter Tryd.func10, Tryd.ntmps10
  go_wp2_with (go_at_call 19; refine H.out.mono ?_; rintro e w1 ⟨rfl, hb1⟩)
  go_ret2
  exact ⟨rfl, hb1⟩
set_option maxRecDepth 100000 in
set_option maxHeartbeats 4000000 in
theorem print_long (A : Option Addr) (c : Nat) (l : List Op) (w : World) (hr : Kd.C k43 w A l.length l) (hc : l.length ≤ c) (hq : l.all rightO = true) (hl : 200 < l.length) :
    Calls Tryd.prog 10 #[.slice A l.length c] w fun e w' => e = .returned (.tuple #[.string ⟨#[]⟩, .int .i64 3]) ∧ Below w.heap.size w w' := by
  have H := Lib.hid (right19 A c l w hr hc true hq)
  have hl2 : (200 : Int) < (l.length : Int) := by omega
  clear hr hq
  go_enter Tryd.func10, Tryd.ntmps10
  go_wp2_with (go_at_call 19; refine H.out.mono ?_; rintro e w1 ⟨rfl, hb1⟩)
  go_ret2
  exact ⟨rfl, hb1⟩
set_option maxRecDepth 100000 in
set_option maxHeartbeats 8000000 in
theorem print_any (A : Option Addr) (c : Nat) (l : List Op) (w : World) (hr : Kd.C k43 w A l.length l) (hc : l.length ≤ c) (hq : l.all rightO = true) (hl : l.length ≤ 200) (ht : Tabs w) :
    Calls Tryd.prog 10 #[.slice A l.length c] w fun e w' => e = .returned (.tuple #[.string (mk (progL l)), .int .i64 0]) ∧ Below w.heap.size w w' := by
  have H := Lib.hid (right19 A c l w hr hc true hq)
  have hl2 : ¬ (200 : Int) < (l.length : Int) := by omega
  have HT := Lib.hid (fun (W : World) (hb : Below w.heap.size w W) => ht.below hb)
  have HR := Lib.hid hr
  have HQ : Hid (∀ x ∈ l, rightO x = true) := Lib.hid (List.all_eq_true.1 hq)
  clear hr hq ht
  go_enter Tryd.func10, Tryd.ntmps10
  go_wp2_with (go_at_call 19; refine H.out.mono ?_; rintro e w1 ⟨rfl, hb1⟩)
  have HB1 := Lib.hid hb1
  clear hb1 H
  go_loopw [19] (fun i wr => ∃ k : Nat, k ≤ l.length ∧ i = .int .i64 k ∧ Lib.IsBuilderF 53 5 w1.heap.size w1.heap.size (Lib.byteCells (progL (l.take k))) wr ∧ Below w1.heap.size w1 wr) (fun i _ => l.length - (intOf i).toNat)
  case atStart => exact ⟨0, Nat.zero_le _, rfl, Lib.IsBuilderF.of (Lib.fresh_isBuilder _ _ w1), (Below.refl _ w1).alloc (Nat.le_refl _) _⟩
  case round =>
    obtain ⟨k, hk, rfl, hI, hbw⟩ := hrel
    have HBW := Lib.hid (HB1.out.trans (hbw.mono HB1.out.size))
    by_cases hlt : k < l.length
    · obtain ⟨ad, rfl, hc0, hc1, hc2, hc3⟩ := atOp (Kd.C_below HR.out HBW.out) hlt
      have hk3 : (k : Int) < l.length := by omega
      obtain ⟨x, hxd⟩ : ∃ x, x = l.getD k zOp := ⟨_, rfl⟩
      rw [← hxd] at hc0 hc1 hc2 hc3
      have hxm : x ∈ l := by
        rw [hxd, List.getD_eq_getElem?_getD, List.getElem?_eq_getElem hlt]
        exact List.getElem_mem hlt
      have hxr := HQ.out x hxm
      have htk : l.take (k + 1) = l.take k ++ [x] := by rw [hxd, List.take_succ_eq_append_getElem hlt, List.getD_eq_getElem?_getD, List.getElem?_eq_getElem hlt]; rfl
      have hplen : (progL (l.take k)).length ≤ 1001 * 200 := by
        have := prog_len (l.take k) (fun y hy => HQ.out y (List.mem_of_mem_take hy))
        rw [List.length_take] at this
        omega
      have hll := line_len x hxr
      have Hxr := Lib.hid hxr
      have Htk := Lib.hid htk
      have HI := Lib.hid hI
      have HBw := Lib.hid hbw
      clear hxd hxm hxr htk hI hbw
      have HS : Hid ((lineB x ++ (⟨#[10]⟩ : ByteArray)).size ≤ 1001) := Lib.hid (by rw [ByteArray.size_append]; show (lineL x).toArray.size + 1 ≤ 1001; simp only [List.size_toArray]; omega)
      have hls : (lineB x).size ≤ 1000 := by show (lineL x).toArray.size ≤ 1000; simpa using hll
      go_wp2_with (first | (go_at_call 14; refine (line_right x Hxr.out _ (HT.out _ (below_alloc HBW.out _))).mono ?_; rintro e W2 ⟨rfl, hb2⟩; have HI2 := Lib.hid (builder_below (HI.out.alloc _) hb2); have HB2 := Lib.hid (below_step (below_alloc HBw.out _) hb2); clear hb2) | (go_at_call 20; refine (Tryd.Builder_WriteString_k w1.heap.size w1.heap.size _ _ _ HI2.out (by have := HS.out; rw [Lib.byteCells_length]; omega) HB2.out.size).mono ?_; rintro e5 W3 ⟨rfl, h3, b3, k3⟩; have H3 := Lib.hid h3; have HB3 := Lib.hid (HB2.out.trans b3); clear h3 b3 k3))
      go_roundw
      case rel =>
        refine ⟨k + 1, by omega, by simp, ?_, HB3.out⟩
        have hI3 : Lib.IsBuilderF 53 5 w1.heap.size w1.heap.size _ W3 := Or.inr H3.out
        rw [Htk.out, progL_snoc, Lib.byteCells_append]
        have e : (lineB x ++ (⟨#[10]⟩ : ByteArray)).data.toList = lineL x ++ [10] := by simp [lineB, lineL, mk]
        rw [← e]
        exact hI3
      case measure =>
        simp [intOf]
        omega
    · go_wp2_with (go_at_call 21; refine (Tryd.Builder_String_any_k w1.heap.size w1.heap.size _ _ hI hbw.size).mono ?_; rintro e W1 ⟨rfl, _, b1, _⟩)
      go_ret2
      have hk' : k = l.length := by omega
      rw [hk', List.take_length]
      exact ⟨rfl, HBW.out.trans (b1.mono HB1.out.size)⟩
def client_Print.f (l : List Op) : Option (ByteArray × Int) := some (if l.all rightO then (if l.length ≤ 200 then (mk (progL l), 0) else (⟨#[]⟩, 3)) else (⟨#[]⟩, 1))
theorem client_Print.calls (A0 : Option Addr) (c0 : Nat) (l0 : List Op) (r1 : ByteArray) (r2 : Int) (w : World) (hr0 : Kd.C k43 w A0 l0.length l0) (hc0 : l0.length ≤ c0) (h : client_Print.f l0 = some (r1, r2)) (ht : Tabs w) :
    Calls Tryd.prog 10 #[.slice A0 l0.length c0] w fun e w' => e = .returned (.tuple #[.string r1, .int .i64 r2]) ∧ Below w.heap.size w w' := by
  unfold client_Print.f at h
  simp only [Option.some.injEq] at h
  cases hq : l0.all rightO with
  | true =>
    rw [hq, if_pos rfl] at h
    by_cases hl : l0.length ≤ 200
    · rw [if_pos hl] at h
      simp only [Prod.mk.injEq] at h
      obtain ⟨rfl, rfl⟩ := h
      exact print_any A0 c0 l0 w hr0 hc0 hq hl ht
    · rw [if_neg hl] at h
      simp only [Prod.mk.injEq] at h
      obtain ⟨rfl, rfl⟩ := h
      exact print_long A0 c0 l0 w hr0 hc0 hq (by omega)
  | false =>
    rw [hq, if_neg (by decide)] at h
    simp only [Prod.mk.injEq] at h
    obtain ⟨rfl, rfl⟩ := h
    exact print_wrong A0 c0 l0 w hr0 hc0 hq
end Go.Proofs.YtiidffblbpoijaaDoor
