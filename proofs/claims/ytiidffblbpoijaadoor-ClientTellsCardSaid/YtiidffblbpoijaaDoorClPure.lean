/-
  ClientTells: the plain law, over the printed functions.
-/
import Derived.Test.YtiidffblbpoijaaDoorQ32c0
import Derived.Lib.ItoaNum
namespace Go.Proofs.YtiidffblbpoijaaDoor
open Go.RowKit Go.Proofs.YtiidffblbpoijaaDoor.Q32 Go.Proofs.YtiidffblbpoijaaDoorW.PrintWords
set_option linter.unusedVariables false
set_option linter.unusedSimpArgs false

theorem le_mono {α : Type} {F : Nat → Option α} {v : α} (hm : ∀ k, LeO (F k) (F (k + 1))) {k : Nat} (h : F k = some v) {K : Nat} (hk : k ≤ K) : F K = some v := by
  induction hk with
  | refl => exact h
  | step _ ih => exact hm _ _ ih
def mk (l : List UInt8) : ByteArray := ⟨l.toArray⟩
theorem mk_append (a b : List UInt8) : mk a ++ mk b = mk (a ++ b) := by
  unfold mk
  apply ByteArray.ext
  simp [ByteArray.data_append]
theorem mk_size (a : List UInt8) : (mk a).size = a.length := by simp [mk, ByteArray.size]
theorem mk_toList (a : List UInt8) : (mk a).toList = a := by rw [Go.ByteArray.toList_eq]; simp [mk]
theorem mk_of (s : ByteArray) : mk s.data.toList = s := by cases s; rfl
theorem strOf_one (c : Nat) (h : c < 256) : strOfNums [(c : Int)] = mk [UInt8.ofNat c] := by
  unfold strOfNums mk
  simp
theorem strOf_map (l : List UInt8) : strOfNums (l.map fun b => (b.toNat : Int)) = mk l := by
  unfold strOfNums mk
  congr 2
  rw [List.map_map]
  conv => rhs; rw [← List.map_id l]
  congr 1
  funext b
  simp

/-! ### the document's numbers -/
theorem num_step (k n : Nat) (L : List UInt8) (hn : 1 ≤ n ∨ L = []) (hb : L.length + n / 2 < 9223372036854775806) (hn2 : n ≤ 9223372036854775807) :
    quadrigaref04_number.l0 (k + 1) (n : Int) (mk L) = quadrigaref04_number.l0 k ((n / 10 : Nat) : Int) (mk (UInt8.ofNat (48 + n % 10) :: L)) := by
  have e1 : wrap64 (Int.tdiv (n : Int) 10) = ((n / 10 : Nat) : Int) := by
    rw [Int.tdiv_eq_ediv_of_nonneg (by omega)]
    unfold wrap64
    omega
  have e2 : (wrap64 (48 + (Int.tmod (n : Int) 10))) % 256 = ((48 + n % 10 : Nat) : Int) := by
    rw [Int.tmod_eq_emod_of_nonneg (by omega)]
    unfold wrap64
    omega
  have e3 := strOf_one (48 + n % 10) (by omega)
  simp only [quadrigaref04_number.l0, e1, e2, Option.bind_some, e3, mk_append, mk_size, mk_toList, List.length_singleton, List.singleton_append]
  by_cases h0 : (n : Int) > 0
  · rw [if_pos h0, if_pos (by omega)]
  · rw [if_neg h0, if_pos (by rcases hn with h | h; omega; exact h), if_pos (by omega)]
theorem num_end (k : Nat) (L : List UInt8) (hL : L ≠ []) : quadrigaref04_number.l0 (k + 1) 0 (mk L) = some (mk L) := by
  simp only [quadrigaref04_number.l0, mk_toList]
  rw [if_neg (by decide), if_neg hL]
theorem num_go (n : Nat) : ∀ L : List UInt8, (1 ≤ n ∨ L = []) → L.length + n / 2 < 9223372036854775800 → n ≤ 9223372036854775807 → ∃ k, quadrigaref04_number.l0 k (n : Int) (mk L) = some (mk (Lib.decDigits n ++ L)) := by
  induction n using Nat.strongRecOn with
  | _ n ih =>
    intro L hn hb hn2
    by_cases h10 : n < 10
    · refine ⟨2, ?_⟩
      rw [num_step 1 n L hn (by omega) hn2, show n / 10 = 0 by omega]
      show quadrigaref04_number.l0 (0 + 1) 0 _ = _
      rw [num_end 0 _ (by simp), Lib.decDigits_one h10, Nat.mod_eq_of_lt h10]
      rfl
    · obtain ⟨k, hk⟩ := ih (n / 10) (by omega) (UInt8.ofNat (48 + n % 10) :: L) (.inl (by omega)) (by simp only [List.length_cons]; omega) (by omega)
      refine ⟨k + 1, ?_⟩
      rw [num_step k n L hn (by omega) hn2, hk]
      have e : Lib.decDigits n = Lib.decDigits (n / 10) ++ [UInt8.ofNat (48 + n % 10)] := by rw [Lib.decDigits, dif_neg h10]
      rw [e]
      simp
theorem neg_step (k m : Nat) (L : List UInt8) (hm : 1 ≤ m) (hb : L.length + m / 2 < 9223372036854775806) (hm2 : m ≤ 9223372036854775808) :
    quadrigaref25_Number.l0 (k + 1) (-(m : Int)) (mk L) = quadrigaref25_Number.l0 k (-((m / 10 : Nat) : Int)) (mk (UInt8.ofNat (48 + m % 10) :: L)) := by
  have e1 : wrap64 (Int.tdiv (-(m : Int)) 10) = -((m / 10 : Nat) : Int) := by
    rw [Int.neg_tdiv, Int.tdiv_eq_ediv_of_nonneg (by omega)]
    unfold wrap64
    omega
  have e2 : (wrap64 (48 - (Int.tmod (-(m : Int)) 10))) % 256 = ((48 + m % 10 : Nat) : Int) := by
    rw [Int.neg_tmod, Int.tmod_eq_emod_of_nonneg (by omega)]
    unfold wrap64
    omega
  have e3 := strOf_one (48 + m % 10) (by omega)
  simp only [quadrigaref25_Number.l0, e1, e2, Option.bind_some, e3, mk_append, mk_size, mk_toList, List.length_singleton, List.singleton_append]
  rw [if_pos (by omega), if_pos (by omega)]
theorem neg_end (k : Nat) (L : List UInt8) (hL : L.length < 1000000) : quadrigaref25_Number.l0 (k + 1) (-((0 : Nat) : Int)) (mk L) = some (mk (45 :: L)) := by
  simp only [quadrigaref25_Number.l0, mk_size]
  rw [if_neg (by decide), if_pos (by omega)]
  show some (mk [45] ++ mk L) = _
  rw [mk_append]
  rfl
theorem neg_go (m : Nat) : ∀ (L : List UInt8) (D : Nat), 1 ≤ m → m < 10 ^ D → L.length + D < 1000 → m ≤ 9223372036854775808 → ∃ k, quadrigaref25_Number.l0 k (-(m : Int)) (mk L) = some (mk (45 :: (Lib.decDigits m ++ L))) := by
  induction m using Nat.strongRecOn with
  | _ m ih =>
    intro L D h1 hD hb hm
    cases D with
    | zero => omega
    | succ D =>
    by_cases h10 : m < 10
    · refine ⟨2, ?_⟩
      rw [neg_step 1 m L h1 (by omega) hm, show m / 10 = 0 by omega]
      show quadrigaref25_Number.l0 (0 + 1) _ _ = _
      rw [neg_end 0 _ (by simp only [List.length_cons]; omega), Lib.decDigits_one h10, Nat.mod_eq_of_lt h10]
      rfl
    · obtain ⟨k, hk⟩ := ih (m / 10) (by omega) (UInt8.ofNat (48 + m % 10) :: L) D (by omega) (by rw [Nat.pow_succ] at hD; omega) (by simp only [List.length_cons]; omega) (by omega)
      refine ⟨k + 1, ?_⟩
      rw [neg_step k m L h1 (by omega) hm, hk]
      have e : Lib.decDigits m = Lib.decDigits (m / 10) ++ [UInt8.ofNat (48 + m % 10)] := by rw [Lib.decDigits, dif_neg h10]
      rw [e]
      simp
theorem itoa_nonneg {n : Int} (h : 0 ≤ n) : itoaB n = mk (Lib.decDigits n.toNat) := by
  unfold itoaB Lib.itoa
  rw [if_neg (by omega)]
  rfl
theorem itoa_neg {n : Int} (h : n < 0) : itoaB n = mk (45 :: Lib.decDigits n.natAbs) := by
  unfold itoaB Lib.itoa
  rw [if_pos h]
  rfl
theorem number_eq (n : Int) (h0 : -9223372036854775808 ≤ n) (h1 : n ≤ 9223372036854775807) : ∃ k, quadrigaref25_Number.f k n = some (itoaB n) := by
  by_cases hn : 0 ≤ n
  · obtain ⟨m, rfl⟩ : ∃ m : Nat, n = m := ⟨n.toNat, by omega⟩
    obtain ⟨k, hk⟩ := num_go m [] (.inr rfl) (by simp only [List.length_nil]; omega) (by omega)
    refine ⟨k, ?_⟩
    rw [List.append_nil] at hk
    unfold quadrigaref25_Number.f quadrigaref04_Number.f quadrigaref04_number.f
    have hk' : quadrigaref04_number.l0 k (m : Int) ⟨#[]⟩ = _ := hk
    rw [if_pos hn, hk', itoa_nonneg hn]
    rfl
  · obtain ⟨m, hm, rfl⟩ : ∃ m : Nat, 1 ≤ m ∧ n = -(m : Int) := ⟨n.natAbs, by omega, by omega⟩
    obtain ⟨k, hk⟩ := neg_go m [] 20 hm (by omega) (by simp) (by omega)
    refine ⟨k, ?_⟩
    rw [List.append_nil] at hk
    unfold quadrigaref25_Number.f
    have hk' : quadrigaref25_Number.l0 k (-(m : Int)) ⟨#[]⟩ = _ := hk
    rw [if_neg hn, hk', itoa_neg (by omega)]
    have : (-(m : Int)).natAbs = m := by omega
    rw [this]
theorem decDigits_len (n D : Nat) (h : n < 10 ^ (D + 1)) : (Lib.decDigits n).length ≤ D + 1 := by
  induction D generalizing n with
  | zero => rw [Lib.decDigits_one (by omega)]; simp
  | succ D ih =>
    by_cases h10 : n < 10
    · rw [Lib.decDigits_one h10]; simp
    · rw [Lib.decDigits, dif_neg h10, List.length_append]
      have := ih (n / 10) (by rw [Nat.pow_succ] at h; omega)
      simp only [List.length_singleton]
      omega
theorem itoa_size (n : Int) (h0 : -9223372036854775808 ≤ n) (h1 : n ≤ 9223372036854775807) : (itoaB n).size ≤ 21 := by
  by_cases h : 0 ≤ n
  · rw [itoa_nonneg h, mk_size]
    have := decDigits_len n.toNat 19 (by omega)
    omega
  · rw [itoa_neg (by omega), mk_size]
    have := decDigits_len n.natAbs 19 (by omega)
    simp only [List.length_cons]
    omega

/-! ### texts as they are told -/
theorem bt_hexU (d : Nat) (h : d < 16) : bt (⟨#[48, 49, 50, 51, 52, 53, 54, 55, 56, 57, 65, 66, 67, 68, 69, 70]⟩ : ByteArray) (d : Int) = ((hexU d).toNat : Int) := by
  have : d = 0 ∨ d = 1 ∨ d = 2 ∨ d = 3 ∨ d = 4 ∨ d = 5 ∨ d = 6 ∨ d = 7 ∨ d = 8 ∨ d = 9 ∨ d = 10 ∨ d = 11 ∨ d = 12 ∨ d = 13 ∨ d = 14 ∨ d = 15 := by omega
  rcases this with rfl | rfl | rfl | rfl | rfl | rfl | rfl | rfl | rfl | rfl | rfl | rfl | rfl | rfl | rfl | rfl <;> rfl
theorem plainN_iff (n : Nat) : plainN n = true ↔ ((97 ≤ n ∧ n ≤ 122) ∨ (65 ≤ n ∧ n ≤ 90) ∨ (48 ≤ n ∧ n ≤ 57) ∨ n = 46 ∨ n = 95) := by
  unfold plainN
  simp only [Bool.or_eq_true, Bool.and_eq_true, Nat.ble_eq, Nat.beq_eq]
  omega
set_option maxHeartbeats 2000000 in
theorem text_step (s : ByteArray) (k i : Nat) (o : List UInt8) (hi : i < s.size) (hs : s.size ≤ 1000000) (ho : o.length ≤ 3000000) (b : UInt8) (hb : bt s (i : Int) = (b.toNat : Int)) (hx : s.extract i (i + 1) = mk [b]) :
    quadrigaref32_Text.l0 (k + 1) s (mk o) (i : Int) = quadrigaref32_Text.l0 k s (mk (o ++ tellB b)) ((i + 1 : Nat) : Int) := by
  have hlt := b.toNat_lt
  have e1 : (Int.tdiv (bt s (i : Int)) 16) % 256 = ((b.toNat / 16 : Nat) : Int) := by
    rw [hb, Int.tdiv_eq_ediv_of_nonneg (by omega)]
    omega
  have e2 : Int.tmod (bt s (i : Int)) 16 = ((b.toNat % 16 : Nat) : Int) := by
    rw [hb, Int.tmod_eq_emod_of_nonneg (by omega)]
    omega
  rw [hb] at e1 e2
  have e3 : wrap64 ((i : Int) + 1) = ((i + 1 : Nat) : Int) := by unfold wrap64; omega
  have e4 : s.extract ((i : Int).toNat) (((i + 1 : Nat) : Int).toNat) = mk [b] := by rw [Int.toNat_natCast, Int.toNat_natCast]; exact hx
  have e5 : strOfNums [37, ((hexU (b.toNat / 16)).toNat : Int), ((hexU (b.toNat % 16)).toNat : Int)] = mk [37, hexU (b.toNat / 16), hexU (b.toNat % 16)] := strOf_map [37, hexU (b.toNat / 16), hexU (b.toNat % 16)]
  have c1 : (i : Int) < (s.size : Int) := by omega
  have c2 : (0 : Int) ≤ (i : Int) := by omega
  have c3 : (i : Int) ≤ ((i + 1 : Nat) : Int) := by omega
  have c4 : ((i + 1 : Nat) : Int) ≤ (s.size : Int) := by omega
  have c5 : o.length + 1 ≤ 9223372036854775807 := by omega
  have c6 : o.length + 3 ≤ 9223372036854775807 := by omega
  have c7 : (0 : Int) ≤ ((b.toNat / 16 : Nat) : Int) := by omega
  have c8 : ((b.toNat / 16 : Nat) : Int) < 16 := by omega
  have c9 : (0 : Int) ≤ ((b.toNat % 16 : Nat) : Int) := by omega
  have c10 : ((b.toNat % 16 : Nat) : Int) < 16 := by omega
  simp only [quadrigaref32_Text.l0, hb, e1, e2, e3, e4, mk_size, mk_append, List.length_singleton, if_pos c1, if_pos c2, if_pos c3, if_pos c4, if_pos c5, if_pos c7, if_pos c8, if_pos c9, if_pos c10, bt_hexU _ (show b.toNat / 16 < 16 by omega), bt_hexU _ (show b.toNat % 16 < 16 by omega), Option.bind_some, e5, List.length_cons, List.length_nil, if_pos c6]
  cases hp : plainN b.toNat with
  | true =>
    have et : tellB b = [b] := by unfold tellB; rw [hp]; rfl
    have h := (plainN_iff b.toNat).1 hp
    rw [et]
    generalize quadrigaref32_Text.l0 k s (mk (o ++ [b])) _ = A
    generalize quadrigaref32_Text.l0 k s (mk (o ++ [37, hexU (b.toNat / 16), hexU (b.toNat % 16)])) _ = B
    clear e1 e2 e3 e4 e5 hb hx
    rcases h with h | h | h | h | h
    all_goals repeat first | rw [if_pos (by omega)] | rw [if_neg (by omega)]
  | false =>
    have et : tellB b = [37, hexU (b.toNat / 16), hexU (b.toNat % 16)] := by unfold tellB; rw [hp]; rfl
    have h := mt (plainN_iff b.toNat).2 (by rw [hp]; decide)
    rw [et]
    generalize quadrigaref32_Text.l0 k s (mk (o ++ [b])) _ = A
    generalize quadrigaref32_Text.l0 k s (mk (o ++ [37, hexU (b.toNat / 16), hexU (b.toNat % 16)])) _ = B
    clear e1 e2 e3 e4 e5 hb hx
    have h' : 122 < b.toNat ∨ (90 < b.toNat ∧ b.toNat < 97 ∧ b.toNat ≠ 95) ∨ (57 < b.toNat ∧ b.toNat < 65) ∨ (b.toNat < 48 ∧ b.toNat ≠ 46) := by omega
    clear h
    rcases h' with h | h | h | h
    all_goals repeat first | rw [if_pos (by omega)] | rw [if_neg (by omega)]
theorem text_end (s : ByteArray) (k : Nat) (o : List UInt8) : quadrigaref32_Text.l0 (k + 1) s (mk o) (s.size : Int) = some (if s.size = 0 then mk [37] else mk o) := by
  simp only [quadrigaref32_Text.l0]
  rw [if_neg (by omega)]
  by_cases h : s.size = 0
  · have : s.toList = [] := by
      rw [Go.ByteArray.toList_eq]
      have h2 : s.data.size = 0 := h
      rw [Array.eq_empty_of_size_eq_zero h2]
    rw [if_pos this, if_pos h]
    rfl
  · have : ¬ s.toList = [] := by
      rw [Go.ByteArray.toList_eq]
      intro h2
      have : s.data.size = 0 := by rw [← Array.length_toList, h2]; rfl
      exact h this
    rw [if_neg this, if_neg h]
theorem text_go (s : ByteArray) (hs : s.size ≤ 1000000) (m : Nat) : ∀ i, i + m = s.size → quadrigaref32_Text.l0 (m + 1) s (mk (tellL (s.data.toList.take i))) (i : Int) = some (tellS s) := by
  have hsz : s.data.toList.length = s.size := by simp
  induction m with
  | zero =>
    intro i h
    obtain rfl : i = s.size := by omega
    rw [text_end, List.take_of_length_le (by omega)]
    rfl
  | succ m ih =>
    intro i h
    have hi : i < s.data.toList.length := by omega
    obtain ⟨b, hbe⟩ : ∃ b, b = s.data.toList[i] := ⟨_, rfl⟩
    have hb : bt s (i : Int) = (b.toNat : Int) := by
      rw [← bt_at s (i : Int) (by rw [Int.toNat_natCast]; omega), hbe]
      rfl
    have hx : s.extract i (i + 1) = mk [b] := by
      have : (s.extract i (i + 1)).data.toList = [b] := by
        rw [ByteArray.data_extract, Array.toList_extract, List.extract_eq_take_drop]
        rw [show i + 1 - i = 1 by omega, hbe, ← List.getElem_cons_drop hi]
        rfl
      rw [← mk_of (s.extract i (i + 1)), this]
    have ho : (tellL (s.data.toList.take i)).length ≤ 3000000 := by
      have := tellL_length (s.data.toList.take i)
      rw [List.length_take] at this
      omega
    rw [text_step s (m + 1) i _ (by omega) hs ho b hb hx, ← tellL_snoc, hbe, ← List.take_succ_eq_append_getElem hi]
    exact ih (i + 1) (by omega)
theorem text_eq (s : ByteArray) (hs : s.size ≤ 1000000) : quadrigaref32_Text.f (s.size + 1) s = some (tellS s) := text_go s hs s.size 0 (by omega)
theorem tellS_size (s : ByteArray) (hs : s.size ≤ 1000000) : (tellS s).size ≤ 3000000 := by
  unfold tellS
  split
  · show 1 ≤ _
    omega
  · show (mk (tellL s.data.toList)).size ≤ _
    rw [mk_size]
    have := tellL_length s.data.toList
    have h2 : s.data.toList.length = s.size := by simp
    omega

/-! ### the law -/
theorem itoa18 (n : Int) (h0 : -9223372036854775808 ≤ n) (h1 : n ≤ 9223372036854775807) : strconv_Itoa_18.f n = some (itoaB n) := by
  unfold strconv_Itoa_18.f
  rw [if_pos ⟨h0, h1⟩]
theorem text17 (s : ByteArray) (h : s.size ≤ 1000000) : client_text.f s = some (tellS s) := by
  unfold client_text.f
  rw [if_pos h]
theorem eq_toList_iff (a b : ByteArray) : a = b → a.toList = b.toList := fun h => by rw [h]
set_option maxHeartbeats 1000000 in
theorem tells_tail (K : Nat) (no gsn : Int) (has : Bool) (s x8 : ByteArray) (hx : x8.size ≤ 1000) (hw : client_word.f no = some x8) (hs : s.size ≤ 1000000) (hT : ∀ m, K ≤ m → quadrigaref32_Text.f m s = some (tellS s))
    (hG : ∀ m, K ≤ m → quadrigaref25_Number.f m gsn = some (itoaB gsn)) (h0 : -9223372036854775808 ≤ gsn) (h1 : gsn ≤ 9223372036854775807) : quadrigalaw32_ClientTells.j2 (K + 4) no gsn x8 has s = some true := by
  have ht := tellS_size s hs
  have hi := itoa_size gsn h0 h1
  have aw : (quadrigalaw32_awake.f.bind fun t => some t) = some true := rfl
  have z1 : (⟨#[32]⟩ : ByteArray).size = 1 := rfl
  have z2 : (⟨#[32, 64]⟩ : ByteArray).size = 2 := rfl
  simp only [quadrigalaw32_ClientTells.j2, quadrigalaw32_ClientTells.j3, quadrigalaw32_ClientTells.j4, quadrigalaw32_ClientTells.j5, hT _ (show K ≤ K + 2 by omega), hG K (Nat.le_refl _), client_Tell.f, hw, itoa18 gsn h0 h1, text17 s hs, Option.bind_some, aw, ByteArray.size_append, z1, z2]
  have b1 : x8.size + 1 ≤ 9223372036854775807 := by omega
  have b2 : x8.size + 1 + (tellS s).size ≤ 9223372036854775807 := by omega
  have b3 : 1 + (tellS s).size ≤ 9223372036854775807 := by omega
  have b4 : x8.size + (1 + (tellS s).size) ≤ 9223372036854775807 := by omega
  have b5 : 2 + (itoaB gsn).size ≤ 9223372036854775807 := by omega
  have b6 : x8.size + (2 + (itoaB gsn).size) ≤ 9223372036854775807 := by omega
  have b7 : x8.size + (1 + (tellS s).size) + (2 + (itoaB gsn).size) ≤ 9223372036854775807 := by omega
  have b8 : x8.size + 2 ≤ 9223372036854775807 := by omega
  have b9 : x8.size + 2 + (itoaB gsn).size ≤ 9223372036854775807 := by omega
  have b10 : x8.size + 1 + (tellS s).size + 2 ≤ 9223372036854775807 := by omega
  have b11 : x8.size + 1 + (tellS s).size + 2 + (itoaB gsn).size ≤ 9223372036854775807 := by omega
  have f1 : ¬ (false = true) := by decide
  by_cases hn : no = 0
  · rw [if_pos hn, if_pos hn]
    by_cases hg : gsn = 0
    · have hb : (gsn != 0) = false := by rw [hg]; rfl
      cases has with
      | true => simp only [if_true, if_pos b1, if_pos b2, if_pos b3, if_pos b4, if_pos hn, if_pos hg, hb, if_neg f1, Option.bind_some, ByteArray.append_assoc]
      | false => simp only [if_true, if_pos hn, if_pos hg, hb, if_neg f1, Option.bind_some]
    · have hb : (gsn != 0) = true := by simpa using hg
      cases has with
      | true => simp only [if_true, if_pos b1, if_pos b2, if_pos b3, if_pos b4, if_pos b5, if_pos b7, if_pos b10, if_pos b11, if_pos hn, if_neg hg, hb, if_neg f1, Option.bind_some, ByteArray.append_assoc]
      | false => simp only [if_true, if_pos b5, if_pos b6, if_pos b8, if_pos b9, if_pos hn, if_neg hg, hb, if_neg f1, Option.bind_some, ByteArray.append_assoc]
  · simp only [if_neg hn, if_neg f1, Option.bind_some, if_true]
set_option maxHeartbeats 1000000 in
theorem tells_law (no gsn : Int) (has : Bool) (s : ByteArray) (h0 : -9223372036854775808 ≤ gsn) (h1 : gsn ≤ 9223372036854775807) : ∃ k, quadrigalaw32_ClientTells.f k no has s gsn = some true := by
  have aw : (quadrigalaw32_awake.f.bind fun t => some t) = some true := rfl
  unfold quadrigalaw32_ClientTells.f
  by_cases hs : (s.size : Int) > 100
  · exact ⟨1, by rw [if_pos hs]; simp only [quadrigalaw32_ClientTells.j0, if_true, aw]⟩
  by_cases hn : no < 0
  · exact ⟨1, by rw [if_neg hs, if_pos hn]; simp only [quadrigalaw32_ClientTells.j0, if_true, aw]⟩
  by_cases hn2 : no > 100
  · exact ⟨1, by rw [if_neg hs, if_neg hn, decide_eq_true hn2]; simp only [quadrigalaw32_ClientTells.j0, if_true, aw]⟩
  obtain ⟨ka, ha⟩ := number_eq no (by omega) (by omega)
  obtain ⟨kb, hb⟩ := number_eq gsn h0 h1
  obtain ⟨K, hK⟩ : ∃ K, K = ka + kb + (s.size + 1) := ⟨_, rfl⟩
  have hA : ∀ m, K ≤ m → quadrigaref25_Number.f m no = some (itoaB no) := fun m hm => le_mono (F := fun k => quadrigaref25_Number.f k no) (quadrigaref25_Number.mono no) ha (by omega)
  have hB : ∀ m, K ≤ m → quadrigaref25_Number.f m gsn = some (itoaB gsn) := fun m hm => le_mono (F := fun k => quadrigaref25_Number.f k gsn) (quadrigaref25_Number.mono gsn) hb (by omega)
  have hT : ∀ m, K ≤ m → quadrigaref32_Text.f m s = some (tellS s) := fun m hm => le_mono (F := fun k => quadrigaref32_Text.f k s) (quadrigaref32_Text.mono s) (text_eq s (by omega)) (by omega)
  refine ⟨K + 6, ?_⟩
  rw [if_neg hs, if_neg hn, decide_eq_false hn2]
  have f1 : ¬ (false = true) := by decide
  have hi := itoa_size no (by omega) (by omega)
  have T := fun x8 hx hw => tells_tail K no gsn has s x8 hx hw (by omega) hT hB h0 h1
  have z6 : (⟨#[101, 114, 114, 111, 114, 32]⟩ : ByteArray).size = 6 := rfl
  have b1 : 6 + (itoaB no).size ≤ 9223372036854775807 := by omega
  have W : ∀ {w : ByteArray}, client_word.f no = some w → client_word.f no = some w := id
  have hc : no = 0 ∨ no = 1 ∨ no = 2 ∨ no = 3 ∨ no = 4 ∨ no = 5 ∨ no = 6 ∨ no = 7 ∨ no = 8 ∨ no = 9 ∨ no = 10 ∨ no = 11 ∨ 12 ≤ no := by omega
  simp only [quadrigalaw32_ClientTells.j0, if_neg f1, Option.bind_some, hA (K + 5) (by omega), if_pos b1]
  have werr : client_word.f no = some ((⟨#[101, 114, 114, 111, 114, 32]⟩ : ByteArray) ++ itoaB no) ∨ no = 0 ∨ no = 10 ∨ no = 11 ∨ no = 7 ∨ no = 8 ∨ no = 4 ∨ no = 5 := by
    by_cases e : no = 0 ∨ no = 10 ∨ no = 11 ∨ no = 7 ∨ no = 8 ∨ no = 4 ∨ no = 5
    · exact .inr e
    · refine .inl ?_
      unfold client_word.f
      rw [if_neg (by omega), if_neg (by omega), if_neg (by omega), if_neg (by omega), if_neg (by omega), if_neg (by omega), if_neg (by omega), itoa18 no (by omega) (by omega), Option.bind_some, if_pos b1]
  have herr : ((⟨#[101, 114, 114, 111, 114, 32]⟩ : ByteArray) ++ itoaB no).size ≤ 1000 := by rw [ByteArray.size_append, z6]; omega
  have f2 : ∀ (x : ByteArray) (l : List ByteArray), rdOf ByteArray.empty (x :: l) 0 = x := fun _ _ => rfl
  rcases hc with rfl | rfl | rfl | rfl | rfl | rfl | rfl | rfl | rfl | rfl | rfl | rfl | h12
  case inr.inr.inr.inr.inr.inr.inr.inr.inr.inr.inr.inr => rw [if_neg (by simp only [List.length_cons, List.length_nil]; omega)]; simp only [quadrigalaw32_ClientTells.j1]; rw [if_neg f1]; exact T _ herr (werr.elim id (fun h => absurd h (by omega)))
  all_goals rw [if_pos (by simp only [List.length_cons, List.length_nil]; omega), if_pos (by omega)]; simp only [quadrigalaw32_ClientTells.j1]
  all_goals first
    | (rw [if_neg (by rw [Go.ByteArray.toList_eq]; decide)]; exact T _ herr (werr.elim id (fun h => absurd h (by decide))))
    | (rw [if_pos (by rw [Go.ByteArray.toList_eq]; decide), if_pos (by omega), if_pos (by simp only [List.length_cons, List.length_nil]; omega)]; exact T _ (by decide) rfl)
end Go.Proofs.YtiidffblbpoijaaDoor
