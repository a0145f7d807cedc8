/-
  strconv.ParseUint of two bytes, base 16, at most 8 bits: the hex digits' number; 0, and some error, where one is none.
-/
import Derived.Test.YtiidffblbpoijaaDoorCbStubs
import Derived.Shelf.LaysM
import Derived.Shelf.Strconv.Lower
import Derived.Lib.Strings
import Derived.Lib.Walk
import Derived.Lib.ConvBytes
import Derived.Lib.ParseIntBMem
import Derived.Lib.Hide
import Derived.Laws.Strings3
import Derived.Laws.Closers25
import Derived.Laws.Closers25b
import Derived.WalkKit
import Derived.BigCall
import Derived.BigGuard
namespace Go.Proofs.YtiidffblbpoijaaDoor
open Go.RowKit
set_option linter.unusedVariables false
set_option linter.unusedSimpArgs false
/-- A hex digit's number. -/
def hexD (c : UInt8) : Option Nat :=
  if 48 ≤ c.toNat ∧ c.toNat ≤ 57 then some (c.toNat - 48) else if 65 ≤ c.toNat ∧ c.toNat ≤ 70 then some (c.toNat - 55) else if 97 ≤ c.toNat ∧ c.toNat ≤ 102 then some (c.toNat - 87) else none
/-- The number of hex digits. -/
def hexP : Nat → List UInt8 → Option Nat
  | acc, [] => some acc
  | acc, c :: r => match hexD c with | some d => hexP (acc * 16 + d) r | none => none
theorem hexD_lt {c : UInt8} {d : Nat} (h : hexD c = some d) : d < 16 := by
  unfold hexD at h
  split at h
  · cases h; omega
  · split at h
    · cases h; omega
    · split at h
      · cases h; omega
      · cases h
theorem low_facts : ∀ c : UInt8, ∃ lo : Int, bits .or .u8 (c.toNat : Int) 32 = lo ∧ 0 ≤ lo ∧ lo ≤ 255 ∧
    ((48 ≤ c.toNat ∧ c.toNat ≤ 57) ∨ (¬ (48 ≤ c.toNat ∧ c.toNat ≤ 57) ∧ 97 ≤ lo ∧ lo ≤ 102 ∧ hexD c = some (lo - 87).toNat) ∨ (¬ (48 ≤ c.toNat ∧ c.toNat ≤ 57) ∧ 103 ≤ lo ∧ lo ≤ 122 ∧ hexD c = none) ∨ (¬ (48 ≤ c.toNat ∧ c.toNat ≤ 57) ∧ (lo < 97 ∨ 122 < lo) ∧ hexD c = none)) := by
  have h : ∀ n : Fin 256, (fun c : UInt8 => decide (0 ≤ bits .or .u8 (c.toNat : Int) 32 ∧ bits .or .u8 (c.toNat : Int) 32 ≤ 255 ∧
    ((48 ≤ c.toNat ∧ c.toNat ≤ 57) ∨ (¬ (48 ≤ c.toNat ∧ c.toNat ≤ 57) ∧ 97 ≤ bits .or .u8 (c.toNat : Int) 32 ∧ bits .or .u8 (c.toNat : Int) 32 ≤ 102 ∧ hexD c = some (bits .or .u8 (c.toNat : Int) 32 - 87).toNat) ∨ (¬ (48 ≤ c.toNat ∧ c.toNat ≤ 57) ∧ 103 ≤ bits .or .u8 (c.toNat : Int) 32 ∧ bits .or .u8 (c.toNat : Int) 32 ≤ 122 ∧ hexD c = none) ∨ (¬ (48 ≤ c.toNat ∧ c.toNat ≤ 57) ∧ (bits .or .u8 (c.toNat : Int) 32 < 97 ∨ 122 < bits .or .u8 (c.toNat : Int) 32) ∧ hexD c = none)))) (UInt8.ofNat n.1) = true := by decide +kernel
  intro c
  have := h ⟨c.toNat, c.toNat_lt⟩
  simp only [UInt8.ofNat_toNat, decide_eq_true_eq] at this
  exact ⟨_, rfl, this⟩

/-- What internal/strconv.ParseUint gives. -/
def puV : Option Nat → Value
  | some n => .tuple #[.int .u64 (n : Int), .nilIface]
  | none => .tuple #[.int .u64 0, .iface 93 (.int .i64 2)]

set_option maxHeartbeats 32000000 in
set_option maxRecDepth 100000 in
theorem pu60 (t : ByteArray) (h2 : t.size = 2) (w : World) :
    Calls Tryd.prog 60 #[.string t, .int .i64 16, .int .i64 8] w fun e w' => e = .returned (puV (hexP 0 t.data.toList)) ∧ w' = Lib.bytesWorld w 5 t := by
  have hemp : t.toList.isEmpty = false := by
    rw [← decide_eq_emptyBytes]
    exact decide_eq_false (fun h => by rw [h] at h2; cases h2)
  have hcv := Lib.run_convert_string_bytes (P := Tryd.prog) w 9 48 5 t (u := .string) Tryd.underlying9 Tryd.underlying48 Tryd.underlying5
  have hB : ∀ j, j < t.size → (Lib.bytesWorld w 5 t).cell? ⟨w.heap.size, j, none⟩ = some (.int .u8 (t.data.toList.getD j 0).toNat) := fun j hj => Lib.bytesWorld_cell w 5 t j hj
  obtain ⟨W1, hW1⟩ : ∃ W1, W1 = Lib.bytesWorld w 5 t := ⟨_, rfl⟩
  rw [← hW1] at hcv hB ⊢
  clear hW1
  obtain ⟨bs, hL⟩ : ∃ bs, bs = t.data.toList := ⟨_, rfl⟩
  have hLn : bs.length = t.size := by rw [hL, Lib.size_eq]
  rw [← hL] at hB ⊢
  clear hL
  have hmv : IntKind.u64.wrap (IntKind.u64.wrap 256 - 1) = 255 := by
    rw [IntKind.wrap_u64, IntKind.wrap_u64]
    decide
  go_enter Tryd.func60, Tryd.ntmps60
  go_wp2
  go_loop [12, 13, 101] (fun vu vn vi => ∃ (k acc : Nat) (a : Int), vu = .bool false ∧ vn = .int .u64 a ∧ vi = .int .i64 k ∧ k ≤ t.size ∧ Hid (a = (acc : Int) ∧ acc < 16 ^ k ∧ hexP 0 bs = hexP acc (bs.drop k)))
    (fun _ _ vi => t.size - (intOf vi).toNat)
  case atStart => exact ⟨0, 0, 0, rfl, rfl, rfl, by omega, rfl, by decide, rfl⟩
  case round =>
    obtain ⟨k, acc, a, rfl, rfl, rfl, hk, hh⟩ := hrel
    obtain ⟨ha, hacc, hdec⟩ := hh.out
    clear hh
    by_cases hkn : k < t.size
    · have hacc1 : acc ≤ 15 := by
        have : k = 0 ∨ k = 1 := by omega
        rcases this with rfl | rfl
        · have : acc < 1 := hacc
          omega
        · have : acc < 16 := hacc
          omega
      have a0 : 0 ≤ a := by omega
      have a1 : a ≤ 15 := by omega
      have hc := hB k hkn
      have hdrop : bs.drop k = bs[k]'(by omega) :: bs.drop (k + 1) := List.drop_eq_getElem_cons (by omega)
      have hget : bs.getD k 0 = bs[k]'(by omega) := by simp [List.getD, List.getElem?_eq_getElem (show k < bs.length by omega)]
      rw [hdrop] at hdec
      rw [hget] at hc
      generalize bs[k]'(by omega) = c at hc hdec
      have hc256 : c.toNat < 256 := c.toNat_lt
      clear hB hdrop hget
      obtain ⟨lo, hlo, hl0, hl1, hcase⟩ := low_facts c
      rcases hcase with ⟨hd0, hd1⟩ | ⟨hnd, g0, g1, hx⟩ | ⟨hnd, g0, g1, hx⟩ | ⟨hnd, g, hx⟩
      · have hx : hexD c = some (c.toNat - 48) := by unfold hexD; rw [if_pos ⟨hd0, hd1⟩]
        have hF : hexP acc (c :: bs.drop (k + 1)) = hexP (acc * 16 + (c.toNat - 48)) (bs.drop (k + 1)) := by simp only [hexP, hx]
        have HN : Hid (a * 16 + ((c.toNat : Int) - 48) = ((acc * 16 + (c.toNat - 48) : Nat) : Int) ∧ acc * 16 + (c.toNat - 48) < 16 ^ (k + 1) ∧ hexP 0 bs = hexP (acc * 16 + (c.toNat - 48)) (bs.drop (k + 1))) := Lib.hid ⟨by omega, by rw [Nat.pow_succ]; omega, hdec.trans hF⟩
        have iov : a * 16 + ((c.toNat : Int) - 48) ≤ 255 := by omega
        clear hacc hF hdec ha hx hlo hl0 hl1
        go_wp2
        refine ⟨⟨k + 1, acc * 16 + (c.toNat - 48), a * 16 + ((c.toNat : Int) - 48), rfl, (by first | rfl | (congr 1; omega)), (by first | rfl | (congr 1; omega)), by omega, HN⟩, by simp [intOf]; omega⟩
      · obtain ⟨d, hd⟩ : ∃ d : Nat, (d : Int) = lo - 87 := ⟨(lo - 87).toNat, by omega⟩
        have hx' : hexD c = some d := by rw [hx]; congr 1; omega
        have hF : hexP acc (c :: bs.drop (k + 1)) = hexP (acc * 16 + d) (bs.drop (k + 1)) := by simp only [hexP, hx']
        have HN : Hid (a * 16 + (lo - 87) = ((acc * 16 + d : Nat) : Int) ∧ acc * 16 + d < 16 ^ (k + 1) ∧ hexP 0 bs = hexP (acc * 16 + d) (bs.drop (k + 1))) := Lib.hid ⟨by omega, by rw [Nat.pow_succ]; omega, hdec.trans hF⟩
        have iov : a * 16 + (lo - 87) ≤ 255 := by omega
        have hne : ¬ c.toNat = 95 := by
          intro h95
          rw [h95] at hlo
          have : bits .or .u8 (95 : Int) 32 = 127 := by decide
          have hlo' : bits .or .u8 (95 : Int) 32 = lo := hlo
          omega
        clear hacc hF hdec ha hx hx'
        go_wp2_with (go_at_call 79; refine (Tryd.internal_strconv_lower _ _).mono ?_; rintro e w' ⟨rfl, rfl⟩)
        all_goals refine ⟨⟨k + 1, acc * 16 + d, a * 16 + (lo - 87), rfl, (by first | rfl | (congr 1; omega)), (by first | rfl | (congr 1; omega)), by omega, HN⟩, by simp [intOf]; omega⟩
      · have hF : hexP acc (c :: bs.drop (k + 1)) = none := by simp only [hexP, hx]
        rw [hF] at hdec
        clear hacc hF ha hx
        have hu0 := bits_lo_u8 .or 95 32
        have hu1 := bits_hi_u8 .or 95 32
        go_wp2_with (go_at_call 79; refine (Tryd.internal_strconv_lower _ _).mono ?_; rintro e w' ⟨rfl, rfl⟩)
        all_goals go_ret2
        all_goals first | exact ⟨rfl, rfl⟩ | exact ⟨by rw [hdec]; rfl, rfl⟩
      · have hF : hexP acc (c :: bs.drop (k + 1)) = none := by simp only [hexP, hx]
        rw [hF] at hdec
        clear hacc hF ha hx
        have hu0 := bits_lo_u8 .or 95 32
        have hu1 := bits_hi_u8 .or 95 32
        rcases g with g | g
        all_goals go_wp2_with (go_at_call 79; refine (Tryd.internal_strconv_lower _ _).mono ?_; rintro e w' ⟨rfl, rfl⟩)
        all_goals go_ret2
        all_goals first | exact ⟨rfl, rfl⟩ | exact ⟨by rw [hdec]; rfl, rfl⟩
    · have hkk : k = t.size := by omega
      subst hkk
      have hF : hexP acc (bs.drop t.size) = some acc := by rw [List.drop_eq_nil_of_le (by omega)]; rfl
      rw [hF] at hdec
      subst ha
      clear hacc hF
      go_wp2
      go_ret2
      first | exact ⟨rfl, rfl⟩ | exact ⟨by rw [hdec]; rfl, rfl⟩

/-- The number that strconv.ParseUint gives of two bytes. -/
def hex2 (t : ByteArray) : Nat := (hexP 0 t.data.toList).getD 0
set_option maxHeartbeats 4000000 in
set_option maxRecDepth 100000 in
theorem pu_any (t : ByteArray) (h2 : t.size = 2) (w : World) (ht : Tabs w) :
    Calls Tryd.prog 43 #[.string t, .int .i64 16, .int .i64 8] w fun e w' => ∃ ev, e = .returned (.tuple #[.int .u64 (hex2 t : Int), ev]) ∧ Below w.heap.size w w' := by
  have h60 := pu60 t h2 w
  have hb1 := Lib.bytesWorld_below w 5 t
  have ht1 := ht.below hb1
  unfold hex2
  cases hp : hexP 0 t.data.toList with
  | some n =>
    rw [hp] at h60
    simp only [puV] at h60
    generalize Lib.bytesWorld w 5 t = W1 at h60 hb1 ht1
    have H60 := Lib.hid h60
    clear h60 hp
    go_enter Tryd.func43, Tryd.ntmps43
    go_wp2_with (go_at_call 60; refine H60.out.mono ?_; rintro e w' ⟨rfl, rfl⟩)
    go_ret2
    exact ⟨_, rfl, hb1⟩
  | none =>
    rw [hp] at h60
    simp only [puV] at h60
    generalize Lib.bytesWorld w 5 t = W1 at h60 hb1 ht1
    obtain ⟨tp, p, hv⟩ := ht1.synCell
    have hte := Tryd.strconv_toError_syntax ⟨#[80, 97, 114, 115, 101, 85, 105, 110, 116]⟩ t 16 8 _ W1 (by omega) hv (Or.inr ⟨_, _, rfl⟩)
    have H60 := Lib.hid h60
    have HTE := Lib.hid hte
    clear h60 hp hte hv ht1
    go_enter Tryd.func43, Tryd.ntmps43
    go_wp2_with (first | (go_at_call 60; refine H60.out.mono ?_; rintro e w' ⟨rfl, rfl⟩) | (go_at_call 42; refine HTE.out.mono ?_; rintro e w' ⟨N, rfl, _, _, hb2⟩))
    go_ret2
    exact ⟨_, rfl, hb1.trans (hb2.mono hb1.size)⟩
end Go.Proofs.YtiidffblbpoijaaDoor
