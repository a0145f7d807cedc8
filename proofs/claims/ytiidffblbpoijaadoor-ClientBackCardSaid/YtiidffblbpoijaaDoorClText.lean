/-
  client.text: a text as it is told, by a strings.Builder.
-/
import Derived.Test.YtiidffblbpoijaaDoorQ33a0
import Derived.Test.YtiidffblbpoijaaDoorCbShelf
import Derived.Lib.Hide
import Derived.WalkKit
import Derived.WalkSpells
import Derived.WalkLawsBesides
import Derived.StillTailTactics
namespace Go.Proofs.YtiidffblbpoijaaDoor
open Go.RowKit Go.Proofs.YtiidffblbpoijaaDoor.Q33 Go.Proofs.YtiidffblbpoijaaDoorW.PrintWords
set_option linter.unusedVariables false
set_option linter.unusedSimpArgs false

/-- Does a byte stand for itself? -/
def plainN (n : Nat) : Bool := (Nat.ble 97 n && Nat.ble n 122) || (Nat.ble 65 n && Nat.ble n 90) || (Nat.ble 48 n && Nat.ble n 57) || Nat.beq n 46 || Nat.beq n 95
/-- A great hex digit. -/
def hexU (n : Nat) : UInt8 := if n < 10 then UInt8.ofNat (48 + n) else UInt8.ofNat (55 + n)
/-- A byte as it is told. -/
def tellB (b : UInt8) : List UInt8 := if plainN b.toNat then [b] else [37, hexU (b.toNat / 16), hexU (b.toNat % 16)]
/-- Bytes as they are told, where there are some. -/
def tellL (l : List UInt8) : List UInt8 := l.flatMap tellB
/-- A text as it is told. -/
def tellS (s : ByteArray) : ByteArray := if s.size = 0 then ⟨#[37]⟩ else ⟨(tellL s.data.toList).toArray⟩

theorem tellL_snoc (l : List UInt8) (b : UInt8) : tellL (l ++ [b]) = tellL l ++ tellB b := by
  simp [tellL]
theorem tellB_length (b : UInt8) : (tellB b).length ≤ 3 := by
  unfold tellB
  split <;> simp
theorem tellL_length (l : List UInt8) : (tellL l).length ≤ 3 * l.length := by
  induction l with
  | nil => exact Nat.le_refl _
  | cons a r ih =>
    have : tellL (a :: r) = tellB a ++ tellL r := rfl
    have := tellB_length a
    rw [‹tellL (a :: r) = _›, List.length_append, List.length_cons]
    omega
theorem plain_eq : ∀ b : UInt8, client_plain.f (b.toNat : Int) = some (plainN b.toNat) := by
  have : ∀ n : Fin 256, client_plain.f (n.1 : Int) = some (plainN n.1) := by decide +kernel
  intro b
  exact this ⟨b.toNat, b.toNat_lt⟩
theorem plain_calls (b : UInt8) (w : World) : Calls Tryd.prog 33 #[.int .u8 (b.toNat : Int)] w fun e w' => e = .returned (.bool (plainN b.toNat)) ∧ Below w.heap.size w w' ∧ ∃ n, w' = w.drewN n := by
  refine (client_plain.calls _ _ w (plain_eq b)).mono ?_
  rintro e w' ⟨rfl, ⟨n, rfl⟩⟩
  exact ⟨rfl, pw_below_drewN (Below.refl _ _) n, n, rfl⟩
theorem and15 : ∀ b : UInt8, bits .and .u8 (b.toNat : Int) 15 = (b.toNat : Int) % 16 := by
  have : ∀ n : Fin 256, bits .and .u8 ((n.1 : Nat) : Int) 15 = ((n.1 : Nat) : Int) % 16 := by decide +kernel
  intro b
  exact this ⟨b.toNat, b.toNat_lt⟩
theorem conv2 (W : World) (a b : UInt8) : (convert 48 9 (.slice (some ⟨W.heap.size, 0, none⟩) 2 2)).run Tryd.prog (W.alloc (.cells #[.int .u8 (a.toNat : Int), .int .u8 (b.toNat : Int)] 5)) = .ok (.string ⟨#[a, b]⟩) (W.alloc (.cells #[.int .u8 (a.toNat : Int), .int .u8 (b.toNat : Int)] 5)) := by
  refine run_convert_bytes_back _ 48 9 5 ⟨W.heap.size, 0, none⟩ 2 [a, b] Tryd.underlying48 Tryd.underlying5 Tryd.underlying9 fun j hj => ?_
  have hn := heap_alloc_new W (.cells #[.int .u8 (a.toNat : Int), .int .u8 (b.toNat : Int)] 5)
  match j, hj with
  | 0, _ => exact (blk_cell hn 0).trans rfl
  | 1, _ => exact (blk_cell hn 1).trans rfl
theorem hexUAt (n : Nat) (hn : n < 16) (h : n < (⟨#[48, 49, 50, 51, 52, 53, 54, 55, 56, 57, 65, 66, 67, 68, 69, 70]⟩ : ByteArray).size) : ((⟨#[48, 49, 50, 51, 52, 53, 54, 55, 56, 57, 65, 66, 67, 68, 69, 70]⟩ : ByteArray)[n]'h) = hexU n := by
  have : ∀ m : Fin 16, (#[48, 49, 50, 51, 52, 53, 54, 55, 56, 57, 65, 66, 67, 68, 69, 70] : Array UInt8)[m.1]'(by have := m.2; simp) = hexU m.1 := by decide
  exact this ⟨n, hn⟩

set_option maxRecDepth 100000 in
set_option maxHeartbeats 1000000 in
theorem text_any (s : ByteArray) (w : World) (hs : s.size ≤ 1000000) : Calls Tryd.prog 17 #[.string s] w fun e w' => e = .returned (.string (tellS s)) ∧ Below w.heap.size w w' := by
  by_cases h0 : s.size = 0
  · obtain rfl : s = ⟨#[]⟩ := by
      have : s.data.size = 0 := h0
      have h2 : s.data = #[] := Array.eq_empty_of_size_eq_zero this
      cases s with | mk d => exact congrArg ByteArray.mk h2
    go_enter Tryd.func17, Tryd.ntmps17
    go_wp2
    go_ret
    exact ⟨rfl, by repeat (first | exact Below.refl _ _ | apply below_alloc | apply pw_below_drewN | apply below_drew1)⟩
  · have hne : s.toList.isEmpty = false := by
      cases h : s.toList with
      | nil =>
        have h2 : s.data.toList = [] := by rw [← ByteArray.toList_eq]; exact h
        exact absurd (by have : s.data.size = 0 := by rw [← Array.length_toList, h2]; rfl
                         exact this) h0
      | cons a r => rfl
    go_enter Tryd.func17, Tryd.ntmps17
    go_wp2
    go_loopw [9] (fun i wr => ∃ k : Nat, k ≤ s.size ∧ i = .int .i64 k ∧ Lib.IsBuilderF 53 5 w.heap.size w.heap.size (Lib.byteCells (tellL (s.data.toList.take k))) wr ∧ Below w.heap.size w wr) (fun i _ => s.size - (intOf i).toNat)
    case atStart => exact ⟨0, Nat.zero_le _, rfl, Lib.IsBuilderF.of (Lib.fresh_isBuilder _ _ w), (Below.refl _ w).alloc (Nat.le_refl _) _⟩
    case round =>
      obtain ⟨k, hk, rfl, hI, hbw⟩ := hrel
      by_cases hlt : k < s.size
      · have hlen : (tellL (s.data.toList.take k)).length ≤ 3000000 := by
          have := tellL_length (s.data.toList.take k)
          rw [List.length_take] at this
          omega
        have hlt8 : s[k].toNat < 256 := s[k].toNat_lt
        have h16 : 0 ≤ (s[k].toNat : Int) / 16 ∧ (s[k].toNat : Int) / 16 < 16 := by omega
        have e : s.data.toList.take (k + 1) = s.data.toList.take k ++ [s[k]] := by
          rw [List.take_succ_eq_append_getElem (by simpa using hlt)]
          rfl
        go_wp2_with (go_at_call 33; refine (plain_calls _ _).mono ?_)
        rintro e1 W0 ⟨rfl, b0, hn⟩
        have hI0 : Lib.IsBuilderF 53 5 w.heap.size w.heap.size (Lib.byteCells (tellL (s.data.toList.take k))) W0 := by
          obtain ⟨n, rfl⟩ := hn
          exact hI
        clear hn
        have hb0 : w.heap.size ≤ W0.heap.size := Nat.le_trans hbw.size b0.size
        cases hp : plainN s[k].toNat with
        | true =>
          go_wp2_with (go_at_call 34; refine (Tryd.Builder_WriteByte_k w.heap.size w.heap.size _ _ _ hI0 (by rw [Lib.byteCells_length]; omega) hb0).mono ?_)
          rintro e2 W1 ⟨rfl, h1, b1, k1⟩
          go_wp2
          go_roundw
          case rel =>
            refine ⟨k + 1, by omega, by simp, ?_, (hbw.trans (b0.mono hbw.size)).trans b1⟩
            have hI1 : Lib.IsBuilderF 53 5 w.heap.size w.heap.size _ W1 := Or.inr h1
            rw [e, tellL_snoc, Lib.byteCells_append]
            have et : tellB s[k] = [s[k]] := by unfold tellB; rw [hp]; rfl
            rw [et]
            exact hI1
          case measure =>
            simp [intOf]
            omega
        | false =>
          have hand : bits .and .u8 (s[k].toNat : Int) 15 = (s[k].toNat : Int) % 16 := and15 s[k]
          have h16b : 0 ≤ (s[k].toNat : Int) % 16 ∧ (s[k].toNat : Int) % 16 < 16 := by omega
          go_wp2
          go_still_tail 10, (by kernel_rfl)
          clear hand
          change wpList _ _ _ _ _ W0.drew
          generalize hW2 : W0.drew = W2
          have hI2 : Lib.IsBuilderF 53 5 w.heap.size w.heap.size (Lib.byteCells (tellL (s.data.toList.take k))) W2 := by
            rw [← hW2]
            exact hI0
          have hb2 : Below W0.heap.size W0 W2 := by
            rw [← hW2]
            exact pw_below_drewN (Below.refl _ _) 1
          clear hW2
          have e1 := hexUAt (s[k].toNat / 16) (by omega)
          have e2 := hexUAt (s[k].toNat % 16) (by omega)
          have hcv := conv2 W2 (hexU (s[k].toNat / 16)) (hexU (s[k].toNat % 16))
          have hb2s : w.heap.size ≤ W2.heap.size := Nat.le_trans hb0 hb2.size
          have hI3 : Lib.IsBuilderF 53 5 w.heap.size w.heap.size (Lib.byteCells (tellL (s.data.toList.take k))) (W2.alloc (.cells #[.int .u8 ((hexU (s[k].toNat / 16)).toNat : Int), .int .u8 ((hexU (s[k].toNat % 16)).toNat : Int)] 5)) := hI2.alloc _
          have hbA : Below w.heap.size w (W2.alloc (.cells #[.int .u8 ((hexU (s[k].toNat / 16)).toNat : Int), .int .u8 ((hexU (s[k].toNat % 16)).toNat : Int)] 5)) := below_alloc ((hbw.trans (b0.mono hbw.size)).trans (hb2.mono hb0)) _
          go_wp2_with (go_at_call 20; refine (Tryd.Builder_WriteString_k w.heap.size w.heap.size _ _ _ hI3 (by rw [Lib.byteCells_length, ByteArray.size_append]; show _ + (1 + 2) ≤ _; omega) hbA.size).mono ?_)
          rintro e5 W3 ⟨rfl, h3, b3, k3⟩
          go_wp2
          go_roundw
          case rel =>
            refine ⟨k + 1, by omega, by simp, ?_, hbA.trans b3⟩
            have hI4 : Lib.IsBuilderF 53 5 w.heap.size w.heap.size _ W3 := Or.inr h3
            rw [e, tellL_snoc, Lib.byteCells_append]
            have et : tellB s[k] = [37, hexU (s[k].toNat / 16), hexU (s[k].toNat % 16)] := by unfold tellB; rw [hp]; rfl
            rw [et]
            exact hI4
          case measure =>
            simp [intOf]
            omega
      · go_wp2_with (go_at_call 21; refine (Tryd.Builder_String_any_k w.heap.size w.heap.size _ _ hI hbw.size).mono ?_)
        rintro e W1 ⟨rfl, _, b1, _⟩
        go_wp2
        go_ret
        have hk' : k = s.size := by omega
        rw [hk', List.take_of_length_le (by simp)]
        refine ⟨?_, hbw.trans b1⟩
        unfold tellS
        rw [if_neg h0]
        rfl

/-- What client.text gives (of no great text). -/
def client_text.f (s : ByteArray) : Option ByteArray := if s.size ≤ 1000000 then some (tellS s) else none
theorem client_text.calls (a0 : ByteArray) (r : ByteArray) (w : World) (h : client_text.f a0 = some r) : Calls Tryd.prog 17 #[.string a0] w fun e w' => e = .returned (.string r) ∧ Below w.heap.size w w' := by
  unfold client_text.f at h
  split at h
  · rename_i hs
    obtain rfl := Option.some.inj h
    exact text_any a0 w hs
  · cases h
end Go.Proofs.YtiidffblbpoijaaDoor
