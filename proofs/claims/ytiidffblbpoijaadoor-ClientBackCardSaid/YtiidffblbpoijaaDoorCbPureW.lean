/-
  The client's lines: plain facts on words, hex digits, numbers and cuts.
-/
import Derived.Test.YtiidffblbpoijaaDoorCbUn
import Derived.Test.YtiidffblbpoijaaDoorCbItoa
import Derived.Test.YtiidffblbpoijaaDoorClText
import Derived.Lib.Join
import Derived.Lib.ItoaNum
import Derived.Lib.IndexBytes
namespace Go.Proofs.YtiidffblbpoijaaDoor
open Go.RowKit Go.Proofs.YtiidffblbpoijaaDoorW.PrintWords
set_option linter.unnecessarySimpa false
set_option linter.unusedVariables false
set_option linter.unusedSimpArgs false

/-! ### cuts -/
theorem index_none (c : UInt8) : ∀ a : List UInt8, c ∉ a → Lib.index a [c] = -1
  | [], _ => by simp [Lib.index]
  | b :: a, h => by
    have hb : ¬ c = b := fun e => h (by rw [e]; simp)
    have ih := index_none c a (fun e => h (by simp [e]))
    rw [Lib.index]
    have : ([c] : List UInt8).isPrefixOf (b :: a) = false := by simp [List.isPrefixOf, hb]
    rw [this, ih]
    rfl
theorem index_mid (c : UInt8) (r : List UInt8) : ∀ a : List UInt8, c ∉ a → Lib.index (a ++ c :: r) [c] = (a.length : Int)
  | [], _ => by
    show Lib.index (c :: r) [c] = 0
    rw [Lib.index]
    simp [List.isPrefixOf]
  | b :: a, h => by
    have hb : ¬ c = b := fun e => h (by rw [e]; simp)
    have ih := index_mid c r a (fun e => h (by simp [e]))
    rw [List.cons_append, Lib.index]
    have : ([c] : List UInt8).isPrefixOf (b :: (a ++ c :: r)) = false := by simp [List.isPrefixOf, hb]
    rw [this, ih]
    have h1 : (((a.length : Int)) == -1) = false := by
      have : ¬ ((a.length : Int) = -1) := by omega
      simpa using this
    simp only [Bool.false_eq_true, if_false, h1, List.length_cons]
    omega
theorem cut_none (c : UInt8) (a : List UInt8) (h : c ∉ a) : Lib.cut a [c] = (a, [], false) := by
  unfold Lib.cut
  rw [index_none c a h]
  rfl
theorem cut_mid (c : UInt8) (a r : List UInt8) (h : c ∉ a) : Lib.cut (a ++ c :: r) [c] = (a, r, true) := by
  unfold Lib.cut
  rw [index_mid c r a h, if_pos (by omega)]
  have e : ((a.length : Int)).toNat = a.length := by omega
  rw [e]
  have e1 : (a ++ c :: r).take a.length = a := by rw [List.take_append_of_le_length (Nat.le_refl _), List.take_length]
  have e2 : (a ++ c :: r).drop (a.length + [c].length) = r := by
    rw [← List.drop_drop, List.drop_left]
    rfl
  rw [e1, e2]
theorem mid_of_mem (c : UInt8) : ∀ l : List UInt8, c ∈ l → ∃ a r, l = a ++ c :: r ∧ c ∉ a
  | [], h => by cases h
  | b :: l, h => by
    by_cases e : b = c
    · subst e
      exact ⟨[], l, rfl, by simp⟩
    · have hm : c ∈ l := by
        rcases List.mem_cons.1 h with h | h
        · exact absurd h.symm e
        · exact h
      obtain ⟨a, r, rfl, ha⟩ := mid_of_mem c l hm
      exact ⟨b :: a, r, rfl, by simp only [List.mem_cons, not_or]; exact ⟨fun h => e h.symm, ha⟩⟩

/-! ### words with blanks between -/
theorem join_cons (a b : List UInt8) (r : List (List UInt8)) : Lib.join (a :: b :: r) [32] = a ++ 32 :: Lib.join (b :: r) [32] := by
  simp [Lib.join, List.intercalate, List.intersperse]
theorem join_one (a : List UInt8) : Lib.join [a] [32] = a := by simp [Lib.join, List.intercalate, List.intersperse]
theorem split_join : ∀ (ws : List (List UInt8)), ws ≠ [] → (∀ w ∈ ws, (32 : UInt8) ∉ w) → Lib.splitK [32] 0 ((Lib.join ws [32]).count 32) (Lib.join ws [32]) = ws
  | [], h, _ => absurd rfl h
  | [a], _, ha => by
    have h32 := ha a (by simp)
    rw [join_one, List.count_eq_zero.2 h32]
    rfl
  | a :: b :: r, _, ha => by
    have h32 := ha a (by simp)
    have ih := split_join (b :: r) (by simp) (fun w hw => ha w (by simp only [List.mem_cons] at hw ⊢; exact .inr hw))
    rw [join_cons]
    have hc : (a ++ 32 :: Lib.join (b :: r) [32]).count 32 = (Lib.join (b :: r) [32]).count 32 + 1 := by
      rw [List.count_append, List.count_eq_zero.2 h32, List.count_cons_self]
      omega
    rw [hc, Lib.splitK, index_mid 32 _ a h32]
    have h1 : (((a.length : Int)) == -1) = false := by
      have : ¬ ((a.length : Int) = -1) := by omega
      simpa using this
    rw [h1]
    have e : ((a.length : Int)).toNat = a.length := by omega
    have e1 : (a ++ 32 :: Lib.join (b :: r) [32]).take (a.length + 0) = a := by rw [Nat.add_zero, List.take_append_of_le_length (Nat.le_refl _), List.take_length]
    have e2 : (a ++ 32 :: Lib.join (b :: r) [32]).drop (a.length + [(32 : UInt8)].length) = Lib.join (b :: r) [32] := by
      rw [← List.drop_drop, List.drop_left]
      rfl
    simp only [Bool.false_eq_true, if_false, e, e1, e2, ih]

/-! ### what is told is what was there -/
theorem hexD_U (n : Nat) (h : n < 16) : hexD (hexU n) = some n := by
  have : ∀ m : Fin 16, hexD (hexU m.1) = some m.1 := by decide
  exact this ⟨n, h⟩
theorem hexB2_U (b : UInt8) : hexB2 (hexU (b.toNat / 16)) (hexU (b.toNat % 16)) = b := by
  have hlt := b.toNat_lt
  unfold hexB2
  simp only [hexP, hexD_U (b.toNat / 16) (by omega), hexD_U (b.toNat % 16) (by omega), Option.getD_some]
  have : (0 * 16 + b.toNat / 16) * 16 + b.toNat % 16 = b.toNat := by omega
  rw [this, UInt8.ofNat_toNat]
theorem plain_ne37 (b : UInt8) (h : plainN b.toNat = true) : b.toNat ≠ 37 := by
  intro e
  rw [e] at h
  exact absurd h (by decide)
theorem untL_tell : ∀ l : List UInt8, untL (tellL l) = l
  | [] => rfl
  | b :: l => by
    have ih := untL_tell l
    have e : tellL (b :: l) = tellB b ++ tellL l := rfl
    rw [e]
    unfold tellB
    cases hp : plainN b.toNat with
    | true =>
      show untL (b :: tellL l) = b :: l
      rw [untL_one b _ (fun h => plain_ne37 b hp h.1), ih]
    | false =>
      show untL ((37 : UInt8) :: hexU (b.toNat / 16) :: hexU (b.toNat % 16) :: tellL l) = b :: l
      rw [untL_pct _ _ _ _ rfl, ih, hexB2_U]
theorem size_zero {s : ByteArray} (h : s.size = 0) : s = ⟨#[]⟩ := by
  have h2 : s.data = #[] := Array.eq_empty_of_size_eq_zero h
  cases s with | mk d => exact congrArg ByteArray.mk h2
theorem mk_data (l : List UInt8) : (mk l).data.toList = l := rfl
theorem mk_of (s : ByteArray) : mk s.data.toList = s := by cases s; rfl
theorem tellL_ne37 : ∀ l : List UInt8, tellL l ≠ [37]
  | [] => by simp [tellL]
  | b :: l => by
    have e : tellL (b :: l) = tellB b ++ tellL l := rfl
    rw [e]
    unfold tellB
    cases hp : plainN b.toNat with
    | true =>
      intro h
      have h1 : b = 37 := by
        have := congrArg List.head? h
        simpa using this
      rw [h1] at hp
      exact absurd hp (by decide)
    | false =>
      intro h
      have := congrArg List.length h
      simp at this
theorem untS_tell (s : ByteArray) : untS (tellS s) = s := by
  unfold tellS
  by_cases h : s.size = 0
  · rw [if_pos h, size_zero h]
    rfl
  · rw [if_neg h]
    unfold untS
    have e : (⟨(tellL s.data.toList).toArray⟩ : ByteArray).data.toList = tellL s.data.toList := rfl
    rw [e, if_neg (tellL_ne37 _), untL_tell, mk_of]
/-! ### no blank, no end of a line -/
theorem hexU_ne (n : Nat) (h : n < 16) : hexU n ≠ 32 ∧ hexU n ≠ 10 := by
  have : ∀ m : Fin 16, hexU m.1 ≠ 32 ∧ hexU m.1 ≠ 10 := by decide
  exact this ⟨n, h⟩
theorem tellB_ne (b : UInt8) : (32 : UInt8) ∉ tellB b ∧ (10 : UInt8) ∉ tellB b := by
  have hlt := b.toNat_lt
  unfold tellB
  cases hp : plainN b.toNat with
  | true =>
    have h1 : b ≠ 32 := fun e => by rw [e] at hp; exact absurd hp (by decide)
    have h2 : b ≠ 10 := fun e => by rw [e] at hp; exact absurd hp (by decide)
    simp only [if_true, List.mem_singleton]
    exact ⟨fun e => h1 e.symm, fun e => h2 e.symm⟩
  | false =>
    have h1 := hexU_ne (b.toNat / 16) (by omega)
    have h2 := hexU_ne (b.toNat % 16) (by omega)
    simp only [Bool.false_eq_true, if_false, List.mem_cons, List.not_mem_nil, or_false, not_or]
    exact ⟨⟨by decide, fun e => h1.1 e.symm, fun e => h2.1 e.symm⟩, ⟨by decide, fun e => h1.2 e.symm, fun e => h2.2 e.symm⟩⟩
theorem tellL_ne (l : List UInt8) : (32 : UInt8) ∉ tellL l ∧ (10 : UInt8) ∉ tellL l := by
  unfold tellL
  simp only [List.mem_flatMap, not_exists, not_and]
  exact ⟨fun b _ => (tellB_ne b).1, fun b _ => (tellB_ne b).2⟩
theorem tellS_ne (s : ByteArray) : (32 : UInt8) ∉ (tellS s).data.toList ∧ (10 : UInt8) ∉ (tellS s).data.toList := by
  unfold tellS
  split
  · exact ⟨by decide, by decide⟩
  · exact tellL_ne _
theorem dec_ne (n : Nat) : (32 : UInt8) ∉ Lib.decDigits n ∧ (10 : UInt8) ∉ Lib.decDigits n := by
  induction n using Nat.strongRecOn with
  | _ n ih =>
    have hd : ∀ d, d < 10 → (32 : UInt8) ≠ UInt8.ofNat (48 + d) ∧ (10 : UInt8) ≠ UInt8.ofNat (48 + d) := by
      intro d h
      have : ∀ m : Fin 10, (32 : UInt8) ≠ UInt8.ofNat (48 + m.1) ∧ (10 : UInt8) ≠ UInt8.ofNat (48 + m.1) := by decide
      exact this ⟨d, h⟩
    by_cases h : n < 10
    · rw [Lib.decDigits_one h]
      simp only [List.mem_singleton]
      exact hd n h
    · rw [Lib.decDigits, dif_neg h]
      simp only [List.mem_append, List.mem_singleton, not_or]
      exact ⟨⟨(ih _ (by omega)).1, (hd _ (by omega)).1⟩, ⟨(ih _ (by omega)).2, (hd _ (by omega)).2⟩⟩
theorem itoa_small (n : Int) (h0 : 0 ≤ n) : (itoaB n).data.toList = Lib.decDigits n.toNat := by
  unfold itoaB Lib.itoa
  rw [if_neg (by omega)]
/-! ### numbers -/
theorem dec3 (n : Nat) (h : n < 1000) : Lib.decDigits n = if n < 10 then [UInt8.ofNat (48 + n)] else if n < 100 then [UInt8.ofNat (48 + n / 10), UInt8.ofNat (48 + n % 10)] else [UInt8.ofNat (48 + n / 100), UInt8.ofNat (48 + n / 10 % 10), UInt8.ofNat (48 + n % 10)] := by
  by_cases h1 : n < 10
  · rw [if_pos h1, Lib.decDigits_one h1]
  · rw [if_neg h1]
    by_cases h2 : n < 100
    · rw [if_pos h2, Lib.decDigits_two h1 h2]
    · rw [if_neg h2, Lib.decDigits, dif_neg h1, Lib.decDigits_two (by omega) (by omega)]
      have : n / 10 / 10 = n / 100 := by omega
      rw [this]
      rfl
theorem atoi_itoa (n : Int) (h0 : 0 ≤ n) (h1 : n ≤ 255) : atoiN (itoaB n) = n := by
  have key : ∀ m : Fin 256, Lib.atoiAll (if m.1 < 10 then [UInt8.ofNat (48 + m.1)] else if m.1 < 100 then [UInt8.ofNat (48 + m.1 / 10), UInt8.ofNat (48 + m.1 % 10)] else [UInt8.ofNat (48 + m.1 / 100), UInt8.ofNat (48 + m.1 / 10 % 10), UInt8.ofNat (48 + m.1 % 10)]) = .ok (m.1 : Int) := by decide +kernel
  unfold atoiN
  rw [itoa_small n h0, dec3 n.toNat (by omega), key ⟨n.toNat, by omega⟩]
  show ((n.toNat : Nat) : Int) = n
  omega
end Go.Proofs.YtiidffblbpoijaaDoor
