/-
  record.digits: a text in hex digits, by a strings.Builder.
-/
import Derived.Test.YtlicobfjeajcfaaDoorQ04x0
import Derived.Test.YtlicobfjeajcfaaDoorShelfA
import Derived.Lib.Hide
import Derived.WalkKit
import Derived.WalkSpells
import Derived.WalkLawsBesides
namespace Go.Proofs.YtlicobfjeajcfaaDoor
open Go.RowKit Go.Proofs.YtlicobfjeajcfaaDoor.Q04 Go.Proofs.YtlicobfjeajcfaaDoorW.PrintWords
set_option linter.unusedVariables false
set_option linter.unusedSimpArgs false

/-- A hex digit. -/
def hexB (n : Nat) : UInt8 := if n < 10 then UInt8.ofNat (48 + n) else UInt8.ofNat (87 + n)
/-- The hex digits of bytes. -/
def hexL (l : List UInt8) : List UInt8 := l.flatMap fun b => [hexB (b.toNat / 16), hexB (b.toNat % 16)]

theorem hexL_snoc (l : List UInt8) (b : UInt8) : hexL (l ++ [b]) = hexL l ++ [hexB (b.toNat / 16)] ++ [hexB (b.toNat % 16)] := by
  simp [hexL]
theorem hexL_length (l : List UInt8) : (hexL l).length = 2 * l.length := by
  induction l with
  | nil => rfl
  | cons a r ih =>
    have : hexL (a :: r) = [hexB (a.toNat / 16), hexB (a.toNat % 16)] ++ hexL r := rfl
    rw [this]
    simp [ih]
    omega

theorem hexAt (n : Nat) (hn : n < 16) (h : n < (⟨#[48, 49, 50, 51, 52, 53, 54, 55, 56, 57, 97, 98, 99, 100, 101, 102]⟩ : ByteArray).size) : ((⟨#[48, 49, 50, 51, 52, 53, 54, 55, 56, 57, 97, 98, 99, 100, 101, 102]⟩ : ByteArray)[n]'h) = hexB n := by
  have : ∀ m : Fin 16, (#[48, 49, 50, 51, 52, 53, 54, 55, 56, 57, 97, 98, 99, 100, 101, 102] : Array UInt8)[m.1]'(by have := m.2; simp) = hexB m.1 := by decide
  exact this ⟨n, hn⟩

set_option maxRecDepth 100000 in
set_option maxHeartbeats 1000000 in
theorem digits_any (s : ByteArray) (w : World) (hs : s.size ≤ 1000000) : Calls Tryd.prog 28 #[.string s] w fun e w' => e = .returned (.string ⟨(hexL s.data.toList).toArray⟩) ∧ Below w.heap.size w w' := by
  go_enter Tryd.func28, Tryd.ntmps28
  go_wp2
  go_loopw [7] (fun i wr => ∃ k : Nat, k ≤ s.size ∧ i = .int .i64 k ∧ Lib.IsBuilderF 75 5 w.heap.size w.heap.size (Lib.byteCells (hexL (s.data.toList.take k))) wr ∧ Below w.heap.size w wr) (fun i _ => s.size - (intOf i).toNat)
  case atStart => exact ⟨0, Nat.zero_le _, rfl, Lib.IsBuilderF.of (Lib.fresh_isBuilder _ _ w), (Below.refl _ w).alloc (Nat.le_refl _) _⟩
  case round =>
    obtain ⟨k, hk, rfl, hI, hbw⟩ := hrel
    by_cases hlt : k < s.size
    · have hlen : (hexL (s.data.toList.take k)).length ≤ 2000000 := by
        rw [hexL_length, List.length_take]
        omega
      have hlt8 : s[k].toNat < 256 := s[k].toNat_lt
      have h16 : 0 ≤ (s[k].toNat : Int) / 16 ∧ (s[k].toNat : Int) / 16 < 16 := by omega
      go_wp2_with (go_at_call 54; refine (Tryd.Builder_WriteByte_k w.heap.size w.heap.size _ _ _ hI (by rw [Lib.byteCells_length]; omega) hbw.size).mono ?_)
      rintro e W1 ⟨rfl, h1, b1, k1⟩
      have hb1 : w.heap.size ≤ W1.heap.size := Nat.le_trans hbw.size b1.size
      have hI1 : Lib.IsBuilderF 75 5 w.heap.size w.heap.size _ W1 := Or.inr h1
      go_wp2_with (go_at_call 54; refine (Tryd.Builder_WriteByte_k w.heap.size w.heap.size _ _ _ hI1 (by rw [List.length_append, Lib.byteCells_length]; simp; omega) hb1).mono ?_)
      rintro e W2 ⟨rfl, h2, b2, k2⟩
      go_wp2
      go_roundw
      case rel =>
        refine ⟨k + 1, by omega, by simp, ?_, (hbw.trans b1).trans b2⟩
        have hI2 : Lib.IsBuilderF 75 5 w.heap.size w.heap.size _ W2 := Or.inr h2
        have e : s.data.toList.take (k + 1) = s.data.toList.take k ++ [s[k]] := by
          rw [List.take_succ_eq_append_getElem (by simpa using hlt)]
          rfl
        rw [e, hexL_snoc, Lib.byteCells_append, Lib.byteCells_append]
        have e1 := hexAt (s[k].toNat / 16) (by omega)
        have e2 := hexAt (s[k].toNat % 16) (by omega)
        rw [e1, e2] at hI2
        exact hI2
      case measure =>
        simp [intOf]
        omega
    · go_wp2_with (go_at_call 55; refine (Tryd.Builder_String_any_k w.heap.size w.heap.size _ _ hI hbw.size).mono ?_)
      rintro e W1 ⟨rfl, _, b1, _⟩
      go_wp2
      go_ret
      have hk' : k = s.size := by omega
      rw [hk', List.take_of_length_le (by simp)]
      exact ⟨rfl, hbw.trans b1⟩

/-- What record.digits gives (of no great text). -/
def record_digits.f (s : ByteArray) : Option ByteArray := if s.size ≤ 1000000 then some ⟨(hexL s.data.toList).toArray⟩ else none
theorem record_digits.calls (a0_0 : ByteArray) (r : ByteArray) (w : World) (h : record_digits.f a0_0 = some r) : Calls Tryd.prog 28 #[.string a0_0] w fun e w' => e = .returned (.string r) ∧ Below w.heap.size w w' := by
  unfold record_digits.f at h
  split at h
  · rename_i hs
    obtain rfl := Option.some.inj h
    exact digits_any a0_0 w hs
  · cases h

end Go.Proofs.YtlicobfjeajcfaaDoor
