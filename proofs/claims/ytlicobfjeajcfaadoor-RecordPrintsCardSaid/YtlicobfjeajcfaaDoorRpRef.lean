/-
  RecordPrints: the plain law, first part: the document's numbers and hex digits.
-/
import Derived.Test.YtlicobfjeajcfaaDoorQ04n9
import Derived.Test.YtlicobfjeajcfaaDoorRcDigits
import Derived.Lib.ItoaNum
import Derived.Test.YtlicobfjeajcfaaDoorPureRec
import Derived.Lib.Join
import Derived.Test.YtlicobfjeajcfaaDoorQ04r
namespace Go.Proofs.YtlicobfjeajcfaaDoor
open Go.RowKit Go.Proofs.YtlicobfjeajcfaaDoor.Q04 Go.Proofs.YtlicobfjeajcfaaDoorW.PrintWords
set_option linter.unusedVariables false
set_option linter.unusedSimpArgs false

def mk (l : List UInt8) : ByteArray := ⟨l.toArray⟩
theorem mk_append (a b : List UInt8) : mk a ++ mk b = mk (a ++ b) := by
  unfold mk
  apply ByteArray.ext
  simp [ByteArray.data_append]
theorem mk_size (a : List UInt8) : (mk a).size = a.length := by simp [mk, ByteArray.size]
theorem mk_toList (a : List UInt8) : (mk a).toList = a := by rw [Go.ByteArray.toList_eq]; simp [mk]
theorem strOf_one (c : Nat) (h : c < 256) : strOfNums [(c : Int)] = mk [UInt8.ofNat c] := by
  unfold strOfNums mk
  simp

theorem num_step (k n : Nat) (L : List UInt8) (hn : 1 ≤ n ∨ L = []) (hb : L.length + n < 9223372036854775807) :
    quadrigaref04_number.l0 (k + 1) (n : Int) (mk L) = quadrigaref04_number.l0 k ((n / 10 : Nat) : Int) (mk (UInt8.ofNat (48 + n % 10) :: L)) := by
  have e1 : wrap64 (Int.tdiv (n : Int) 10) = ((n / 10 : Nat) : Int) := by
    rw [Int.tdiv_eq_ediv_of_nonneg (by omega)]
    unfold wrap64
    omega
  have e2 : (wrap64 (48 + (Int.tmod (n : Int) 10))) % 256 = ((48 + n % 10 : Nat) : Int) := by
    rw [Int.tmod_eq_emod_of_nonneg (by omega)]
    unfold wrap64
    omega
  have e3 := strOf_one (48 + n % 10) (by omega)
  simp only [quadrigaref04_number.l0, e1, e2, Option.bind_some, e3, mk_append, mk_size, mk_toList, List.length_singleton, List.singleton_append]
  by_cases h0 : (n : Int) > 0
  · rw [if_pos h0, if_pos (by omega)]
  · rw [if_neg h0, if_pos (by rcases hn with h | h; omega; exact h), if_pos (by omega)]
theorem num_end (k : Nat) (L : List UInt8) (hL : L ≠ []) : quadrigaref04_number.l0 (k + 1) 0 (mk L) = some (mk L) := by
  simp only [quadrigaref04_number.l0, mk_toList]
  rw [if_neg (by decide), if_neg hL]
theorem num_go (n : Nat) : ∀ L : List UInt8, (1 ≤ n ∨ L = []) → L.length + n + 2 < 9223372036854775807 → ∃ k, quadrigaref04_number.l0 k (n : Int) (mk L) = some (mk (Lib.decDigits n ++ L)) := by
  induction n using Nat.strongRecOn with
  | _ n ih =>
    intro L hn hb
    by_cases h10 : n < 10
    · refine ⟨2, ?_⟩
      rw [num_step 1 n L hn (by omega), show n / 10 = 0 by omega]
      show quadrigaref04_number.l0 (0 + 1) 0 _ = _
      rw [num_end 0 _ (by simp), Lib.decDigits_one h10, Nat.mod_eq_of_lt h10]
      rfl
    · obtain ⟨k, hk⟩ := ih (n / 10) (by omega) (UInt8.ofNat (48 + n % 10) :: L) (.inl (by omega)) (by simp only [List.length_cons]; omega)
      refine ⟨k + 1, ?_⟩
      rw [num_step k n L hn (by omega), hk]
      have e : Lib.decDigits n = Lib.decDigits (n / 10) ++ [UInt8.ofNat (48 + n % 10)] := by rw [Lib.decDigits, dif_neg h10]
      rw [e]
      simp
theorem number_eq (n : Int) (h0 : 0 ≤ n) (h1 : n ≤ 4611686018427387903) : ∃ k, quadrigaref04_number.f k n = some (mk (Lib.decDigits n.toNat)) := by
  obtain ⟨m, rfl⟩ : ∃ m : Nat, n = m := ⟨n.toNat, by omega⟩
  obtain ⟨k, hk⟩ := num_go m [] (.inr rfl) (by simp only [List.length_nil]; omega)
  rw [List.append_nil] at hk
  exact ⟨k, hk⟩

/-! ### hex digits -/
theorem bt_hex (d : Nat) (h : d < 16) : bt (⟨#[48, 49, 50, 51, 52, 53, 54, 55, 56, 57, 97, 98, 99, 100, 101, 102]⟩ : ByteArray) (d : Int) = ((hexB d).toNat : Int) := by
  have : d = 0 ∨ d = 1 ∨ d = 2 ∨ d = 3 ∨ d = 4 ∨ d = 5 ∨ d = 6 ∨ d = 7 ∨ d = 8 ∨ d = 9 ∨ d = 10 ∨ d = 11 ∨ d = 12 ∨ d = 13 ∨ d = 14 ∨ d = 15 := by omega
  rcases this with rfl | rfl | rfl | rfl | rfl | rfl | rfl | rfl | rfl | rfl | rfl | rfl | rfl | rfl | rfl | rfl <;> rfl
def hexN (l : List UInt8) : List Int := (hexL l).map fun b => (b.toNat : Int)
theorem strOf_map (l : List UInt8) : strOfNums (l.map fun b => (b.toNat : Int)) = mk l := by
  unfold strOfNums mk
  congr 2
  rw [List.map_map]
  conv => rhs; rw [← List.map_id l]
  congr 1
  funext b
  simp
theorem hexL_len (l : List UInt8) : (hexL l).length = 2 * l.length := by
  induction l with
  | nil => rfl
  | cons a l ih =>
    unfold hexL at ih ⊢
    rw [List.flatMap_cons, List.length_append, ih]
    simp only [List.length_cons, List.length_nil]
    omega
theorem hex_step (s : ByteArray) (k i : Nat) (o : List Int) (hi : i < s.size) (hs : s.size ≤ 1000) (ho : o.length ≤ 2000) (b : UInt8) (hb : bt s (i : Int) = (b.toNat : Int)) :
    quadrigaref04_Hex.l0 (k + 1) s o (i : Int) = quadrigaref04_Hex.l0 k s (o ++ [((hexB (b.toNat / 16)).toNat : Int), ((hexB (b.toNat % 16)).toNat : Int)]) ((i + 1 : Nat) : Int) := by
  have hlt := b.toNat_lt
  have e1 : (Int.tdiv (bt s (i : Int)) 16) % 256 = ((b.toNat / 16 : Nat) : Int) := by
    rw [hb, Int.tdiv_eq_ediv_of_nonneg (by omega)]
    omega
  have e2 : Int.tmod (bt s (i : Int)) 16 = ((b.toNat % 16 : Nat) : Int) := by
    rw [hb, Int.tmod_eq_emod_of_nonneg (by omega)]
    omega
  have e3 : wrap64 ((i : Int) + 1) = ((i + 1 : Nat) : Int) := by unfold wrap64; omega
  simp only [quadrigaref04_Hex.l0, e1, e2, e3]
  rw [if_pos (by omega), if_pos (by omega), if_pos (by omega), if_pos (by omega), if_pos (by omega), if_pos (by omega), bt_hex _ (by omega), bt_hex _ (by omega), Option.bind_some,
    if_pos (by simp only [List.length_cons, List.length_nil]; omega)]
theorem hex_end (s : ByteArray) (k : Nat) (o : List Int) : quadrigaref04_Hex.l0 (k + 1) s o (s.size : Int) = some (strOfNums o) := by
  simp only [quadrigaref04_Hex.l0]
  rw [if_neg (by omega)]
theorem hexN_snoc (l : List UInt8) (b : UInt8) : hexN (l ++ [b]) = hexN l ++ [((hexB (b.toNat / 16)).toNat : Int), ((hexB (b.toNat % 16)).toNat : Int)] := by
  unfold hexN hexL
  rw [List.flatMap_append, List.map_append]
  rfl
theorem hex_go (s : ByteArray) (hs : s.size ≤ 1000) (m : Nat) : ∀ i, i + m = s.size → quadrigaref04_Hex.l0 (m + 1) s (hexN (s.data.toList.take i)) (i : Int) = some (mk (hexL s.data.toList)) := by
  have hsz : s.data.toList.length = s.size := by simp
  induction m with
  | zero =>
    intro i h
    obtain rfl : i = s.size := by omega
    rw [hex_end, List.take_of_length_le (by omega)]
    unfold hexN
    rw [strOf_map]
  | succ m ih =>
    intro i h
    have hi : i < s.data.toList.length := by omega
    obtain ⟨b, hbe⟩ : ∃ b, b = s.data.toList[i] := ⟨_, rfl⟩
    have hb : bt s (i : Int) = (b.toNat : Int) := by
      rw [← bt_at s (i : Int) (by rw [Int.toNat_natCast]; omega), hbe]
      rfl
    have ho : (hexN (s.data.toList.take i)).length ≤ 2000 := by
      unfold hexN
      rw [List.length_map, hexL_len, List.length_take]
      omega
    rw [hex_step s (m + 1) i _ (by omega) hs ho b hb, ← hexN_snoc, hbe, ← List.take_succ_eq_append_getElem hi]
    exact ih (i + 1) (by omega)
theorem hex_eq (s : ByteArray) (hs : s.size ≤ 1000) : quadrigaref04_Hex.f (s.size + 1) s = some (mk (hexL s.data.toList)) := hex_go s hs s.size 0 (by omega)
/-- A value, as it is printed. -/
def toldL (v : S23) : List UInt8 := if v.f0 then 118 :: hexL v.f1.data.toList else [45]
theorem told_eq (v : S23) (hs : v.f1.size ≤ 1000) : quadrigaref04_Told.f (v.f1.size + 1) v.f0 v.f1 = some (mk (toldL v)) := by
  unfold quadrigaref04_Told.f toldL
  cases h : v.f0 with
  | true =>
    rw [if_pos rfl, hex_eq _ hs, Option.bind_some, if_pos (by
      rw [mk_size, hexL_len, Array.length_toList]
      have : v.f1.data.size = v.f1.size := rfl
      omega)]
    rfl
  | false => rfl
end Go.Proofs.YtlicobfjeajcfaaDoor
namespace Go.Proofs.YtlicobfjeajcfaaDoor
open Go.RowKit Go.Proofs.YtlicobfjeajcfaaDoor.Q04 Go.Proofs.YtlicobfjeajcfaaDoorW.PrintWords
set_option linter.unusedVariables false
set_option linter.unusedSimpArgs false

/-! ### words with blanks between -/
theorem join_cons (a b : List UInt8) (r : List (List UInt8)) : Lib.join (a :: b :: r) [32] = a ++ 32 :: Lib.join (b :: r) [32] := by
  simp [Lib.join, List.intercalate, List.intersperse]
theorem join_one (a : List UInt8) : Lib.join [a] [32] = a := by simp [Lib.join, List.intercalate, List.intersperse]
theorem cut_inj {a b x y : List UInt8} (ha : (32 : UInt8) ∉ a) (hb : (32 : UInt8) ∉ b) (h : a ++ 32 :: x = b ++ 32 :: y) : a = b ∧ x = y := by
  induction a generalizing b with
  | nil =>
    cases b with
    | nil => simp at h; exact ⟨rfl, h⟩
    | cons c b => simp at h; exact absurd h.1 (fun e => hb (by rw [e]; simp))
  | cons c a ih =>
    cases b with
    | nil => simp at h; exact absurd h.1 (fun e => ha (by rw [e]; simp))
    | cons d b =>
      simp only [List.cons_append, List.cons.injEq] at h
      obtain ⟨rfl, h⟩ := h
      obtain ⟨rfl, rfl⟩ := ih (fun e => ha (by simp [e])) (fun e => hb (by simp [e])) h
      exact ⟨rfl, rfl⟩
theorem join_inj : ∀ (a b : List (List UInt8)), a ≠ [] → b ≠ [] → (∀ w ∈ a, (32 : UInt8) ∉ w) → (∀ w ∈ b, (32 : UInt8) ∉ w) → Lib.join a [32] = Lib.join b [32] → a = b
  | [], _, h, _, _, _, _ => absurd rfl h
  | _, [], _, h, _, _, _ => absurd rfl h
  | [x], [y], _, _, _, _, h => by rw [join_one, join_one] at h; rw [h]
  | [x], y :: z :: r, _, _, hx, _, h => by
    rw [join_one, join_cons] at h
    exact absurd (by rw [h]; simp) (hx x (by simp))
  | x :: z :: r, [y], _, _, _, hy, h => by
    rw [join_one, join_cons] at h
    exact absurd (by rw [← h]; simp) (hy y (by simp))
  | x :: z :: r, y :: u :: s, _, _, hx, hy, h => by
    rw [join_cons, join_cons] at h
    obtain ⟨rfl, h3⟩ := cut_inj (hx x (by simp)) (hy y (by simp)) h
    rw [join_inj (z :: r) (u :: s) (by simp) (by simp) (fun w hw => hx w (by simp at hw ⊢; exact .inr hw)) (fun w hw => hy w (by simp at hw ⊢; exact .inr hw)) h3]
theorem join_join (a r : List (List UInt8)) (ha : a ≠ []) : Lib.join (Lib.join a [32] :: r) [32] = Lib.join (a ++ r) [32] := by
  induction a with
  | nil => exact absurd rfl ha
  | cons x a ih =>
    cases a with
    | nil => rw [join_one]; rfl
    | cons y a =>
      rw [join_cons]
      have e := ih (by simp)
      cases r with
      | nil => rw [join_one, List.append_nil, join_cons]
      | cons z r =>
        rw [join_cons] at e ⊢
        rw [List.append_assoc, List.cons_append, e]
        exact (join_cons x y (a ++ z :: r)).symm

/-! ### numbers, hex digits -/
theorem dec_no32 (n : Nat) : (32 : UInt8) ∉ Lib.decDigits n := by
  induction n using Nat.strongRecOn with
  | _ n ih =>
    have hd : ∀ d, d < 10 → (32 : UInt8) ≠ UInt8.ofNat (48 + d) := by
      intro d h
      have : d = 0 ∨ d = 1 ∨ d = 2 ∨ d = 3 ∨ d = 4 ∨ d = 5 ∨ d = 6 ∨ d = 7 ∨ d = 8 ∨ d = 9 := by omega
      rcases this with rfl | rfl | rfl | rfl | rfl | rfl | rfl | rfl | rfl | rfl <;> decide
    by_cases h : n < 10
    · rw [Lib.decDigits_one h]
      simp only [List.mem_singleton]
      exact hd n h
    · rw [Lib.decDigits, dif_neg h]
      simp only [List.mem_append, List.mem_singleton, not_or]
      exact ⟨ih _ (by omega), hd _ (by omega)⟩
theorem dec_ne (n : Nat) : Lib.decDigits n ≠ [] := by
  rw [Lib.decDigits]
  split <;> simp
theorem dg_inj {a b : Nat} (ha : a < 10) (hb : b < 10) (h : UInt8.ofNat (48 + a) = UInt8.ofNat (48 + b)) : a = b := by
  have h2 := congrArg UInt8.toNat h
  simp only [UInt8.toNat_ofNat'] at h2
  omega
theorem dec_inj (n : Nat) : ∀ m, Lib.decDigits n = Lib.decDigits m → n = m := by
  induction n using Nat.strongRecOn with
  | _ n ih =>
    intro m h
    by_cases h1 : n < 10
    · rw [Lib.decDigits_one h1] at h
      by_cases h2 : m < 10
      · rw [Lib.decDigits_one h2] at h
        simp only [List.cons.injEq, and_true] at h
        exact dg_inj h1 h2 h
      · rw [Lib.decDigits, dif_neg h2] at h
        have hl := congrArg List.length h
        simp only [List.length_append, List.length_cons, List.length_nil] at hl
        exact absurd (List.eq_nil_of_length_eq_zero (by omega)) (dec_ne (m / 10))
    · have e1 : Lib.decDigits n = Lib.decDigits (n / 10) ++ [UInt8.ofNat (48 + n % 10)] := by rw [Lib.decDigits, dif_neg h1]
      rw [e1] at h
      by_cases h2 : m < 10
      · rw [Lib.decDigits_one h2] at h
        have hl := congrArg List.length h
        simp only [List.length_append, List.length_cons, List.length_nil] at hl
        exact absurd (List.eq_nil_of_length_eq_zero (by omega)) (dec_ne (n / 10))
      · have e2 : Lib.decDigits m = Lib.decDigits (m / 10) ++ [UInt8.ofNat (48 + m % 10)] := by rw [Lib.decDigits, dif_neg h2]
        rw [e2] at h
        obtain ⟨ha, hb⟩ := List.append_inj' h rfl
        have := ih (n / 10) (by omega) (m / 10) ha
        simp only [List.cons.injEq, and_true] at hb
        have := dg_inj (by omega) (by omega) hb
        omega
theorem hexB_facts (d : Nat) (h : d < 16) : (32 : UInt8) ≠ hexB d ∧ ∀ e, e < 16 → hexB d = hexB e → d = e := by
  have : d = 0 ∨ d = 1 ∨ d = 2 ∨ d = 3 ∨ d = 4 ∨ d = 5 ∨ d = 6 ∨ d = 7 ∨ d = 8 ∨ d = 9 ∨ d = 10 ∨ d = 11 ∨ d = 12 ∨ d = 13 ∨ d = 14 ∨ d = 15 := by omega
  refine ⟨by rcases this with rfl | rfl | rfl | rfl | rfl | rfl | rfl | rfl | rfl | rfl | rfl | rfl | rfl | rfl | rfl | rfl <;> decide, ?_⟩
  intro e he
  have h2 : e = 0 ∨ e = 1 ∨ e = 2 ∨ e = 3 ∨ e = 4 ∨ e = 5 ∨ e = 6 ∨ e = 7 ∨ e = 8 ∨ e = 9 ∨ e = 10 ∨ e = 11 ∨ e = 12 ∨ e = 13 ∨ e = 14 ∨ e = 15 := by omega
  rcases this with rfl | rfl | rfl | rfl | rfl | rfl | rfl | rfl | rfl | rfl | rfl | rfl | rfl | rfl | rfl | rfl <;>
    rcases h2 with rfl | rfl | rfl | rfl | rfl | rfl | rfl | rfl | rfl | rfl | rfl | rfl | rfl | rfl | rfl | rfl <;> decide
theorem hex_no32 (l : List UInt8) : (32 : UInt8) ∉ hexL l := by
  unfold hexL
  rw [List.mem_flatMap]
  rintro ⟨b, _, hb⟩
  have hlt := b.toNat_lt
  simp only [List.mem_cons, List.not_mem_nil, or_false] at hb
  rcases hb with hb | hb
  · exact (hexB_facts _ (by omega)).1 hb
  · exact (hexB_facts _ (by omega)).1 hb
theorem hex_inj : ∀ a b : List UInt8, hexL a = hexL b → a = b
  | [], [], _ => rfl
  | [], y :: b, h => by simp [hexL] at h
  | x :: a, [], h => by simp [hexL] at h
  | x :: a, y :: b, h => by
    have hx := x.toNat_lt
    have hy := y.toNat_lt
    have h' : hexB (x.toNat / 16) :: hexB (x.toNat % 16) :: hexL a = hexB (y.toNat / 16) :: hexB (y.toNat % 16) :: hexL b := h
    simp only [List.cons.injEq] at h'
    obtain ⟨h1, h2, h3⟩ := h'
    have e1 := (hexB_facts _ (by omega)).2 _ (by omega) h1
    have e2 := (hexB_facts _ (by omega)).2 _ (by omega) h2
    rw [hex_inj a b h3, show x = y from UInt8.toNat_inj.1 (by omega)]
end Go.Proofs.YtlicobfjeajcfaaDoor
namespace Go.Proofs.YtlicobfjeajcfaaDoor
open Go.RowKit Go.Proofs.YtlicobfjeajcfaaDoor.Q04 Go.Proofs.YtlicobfjeajcfaaDoorW.PrintWords
set_option linter.unusedVariables false
set_option linter.unusedSimpArgs false

def wordL (k : Int) : List UInt8 := if k = 1 then [98, 101, 103, 105, 110] else if k = 2 then [117, 112, 100, 97, 116, 101] else if k = 3 then [99, 108, 114] else if k = 4 then [115, 97, 118, 101] else if k = 5 then [99, 111, 109, 109, 105, 116] else [101, 110, 100]
def dl (n : Int) : List UInt8 := Lib.decDigits n.toNat
def words (x : S25) : List (List UInt8) := wordL x.f0 :: dl x.f2 :: dl x.f1 :: dl x.f3 :: ((if chB x.f0 = true then [dl x.f4, hexL x.f5.data.toList, toldL x.f6, toldL x.f7] else []) ++ (if x.f0 = 3 ∨ x.f0 = 4 then [dl x.f8] else []))
def lineOf (x : S25) : List UInt8 := Lib.join (words x) [32]
theorem kinds {k : Int} (h1 : 1 ≤ k) (h2 : k ≤ 6) : k = 1 ∨ k = 2 ∨ k = 3 ∨ k = 4 ∨ k = 5 ∨ k = 6 := by omega
theorem word_no32 (k : Int) : (32 : UInt8) ∉ wordL k := by
  unfold wordL
  repeat' split
  all_goals decide
theorem told_no32 (v : S23) : (32 : UInt8) ∉ toldL v := by
  unfold toldL
  split
  · simp only [List.mem_cons, not_or]
    exact ⟨by decide, hex_no32 _⟩
  · decide
theorem words_no32 (x : S25) : ∀ w ∈ words x, (32 : UInt8) ∉ w := by
  intro w hw
  unfold words at hw
  simp only [List.mem_cons, List.mem_append] at hw
  rcases hw with rfl | rfl | rfl | rfl | hw | hw
  · exact word_no32 _
  · exact dec_no32 _
  · exact dec_no32 _
  · exact dec_no32 _
  · split at hw
    · simp only [List.mem_cons, List.not_mem_nil, or_false] at hw
      rcases hw with rfl | rfl | rfl | rfl
      · exact dec_no32 _
      · exact hex_no32 _
      · exact told_no32 _
      · exact told_no32 _
    · cases hw
  · split at hw
    · simp only [List.mem_cons, List.not_mem_nil, or_false] at hw
      rw [hw]
      exact dec_no32 _
    · cases hw
theorem word_inj {a b : Int} (ha1 : 1 ≤ a) (ha2 : a ≤ 6) (hb1 : 1 ≤ b) (hb2 : b ≤ 6) (h : wordL a = wordL b) : a = b := by
  rcases kinds ha1 ha2 with rfl | rfl | rfl | rfl | rfl | rfl <;> rcases kinds hb1 hb2 with rfl | rfl | rfl | rfl | rfl | rfl <;> first | rfl | (exact absurd h (by decide))
theorem dl_inj {a b : Int} (ha : 0 ≤ a) (hb : 0 ≤ b) (h : dl a = dl b) : a = b := by
  have := dec_inj _ _ h
  omega
theorem told_inj {u v : S23} (hu : valB u = true) (hv : valB v = true) (h : toldL u = toldL v) : u = v := by
  obtain ⟨a, s⟩ := u
  obtain ⟨b, t⟩ := v
  unfold toldL at h
  cases a <;> cases b
  · have e : ∀ s : ByteArray, valB ⟨false, s⟩ = true → s = ⟨#[]⟩ := by
      intro s hs
      simp only [valB, Bool.and_eq_true, Bool.false_or, decide_eq_true_eq] at hs
      have : s.toList = [] := toList_nil.2 hs.2
      exact (empty_toList s).1 this
    rw [e s hu, e t hv]
  · simp at h
  · simp at h
  · simp only [if_true, List.cons.injEq, true_and] at h
    have := hex_inj _ _ h
    congr 1
    cases s; cases t
    congr 1
    exact Array.toList_inj.1 this
theorem data_inj {s t : ByteArray} (h : s.data.toList = t.data.toList) : s = t := by
  cases s; cases t
  congr 1
  exact Array.toList_inj.1 h
theorem words_inj (a b : S25) (ha : RightP a) (hb : RightP b) (h : words a = words b) : a = b := by
  unfold words at h
  simp only [List.cons.injEq] at h
  obtain ⟨h0, h2, h1, h3, h⟩ := h
  have e0 := word_inj ha.k1 ha.k2 hb.k1 hb.k2 h0
  have e2 := dl_inj (by have := ha.t1; omega) (by have := hb.t1; omega) h2
  have e1 := dl_inj (by have := ha.g1; omega) (by have := hb.g1; omega) h1
  have e3 := dl_inj ha.p1 hb.p1 h3
  rw [← e0] at h
  have hb0 := hb.b1
  have hb2 := hb.b2
  have hbu := hb.u0
  have hb3 := hb.u3
  have hb4 := hb.u4
  rw [← e0] at hb0 hb2 hbu hb3 hb4
  have hpg : a.f4 = b.f4 ∧ a.f5 = b.f5 ∧ a.f6 = b.f6 ∧ a.f7 = b.f7 := by
    cases hc : chB a.f0 with
    | true =>
      rw [if_pos hc, if_pos hc] at h
      simp only [List.cons_append, List.cons.injEq] at h
      obtain ⟨p1, _, k1, v1, v2, _⟩ := ha.b1 hc
      obtain ⟨q1, _, k2, u1, u2, _⟩ := hb0 hc
      exact ⟨dl_inj p1 q1 h.1, data_inj (hex_inj _ _ h.2.1), told_inj v1 u1 h.2.2.1, told_inj v2 u2 h.2.2.2.1⟩
    | false =>
      obtain ⟨p1, p2, p3, p4⟩ := ha.b2 hc
      obtain ⟨q1, q2, q3, q4⟩ := hb2 hc
      exact ⟨p1.trans q1.symm, p2.trans q2.symm, p3.trans q3.symm, p4.trans q4.symm⟩
  have hun : a.f8 = b.f8 := by
    by_cases hk : a.f0 = 3 ∨ a.f0 = 4
    · rw [if_pos hk, if_pos hk] at h
      have hl : [dl a.f8] = [dl b.f8] := (List.append_inj' h rfl).2
      simp only [List.cons.injEq, and_true] at hl
      refine dl_inj ?_ ?_ hl
      · rcases hk with hk | hk
        · have := ha.u3 hk; omega
        · have := ha.u4 hk; omega
      · rcases hk with hk | hk
        · have := hb3 hk; omega
        · have := hb4 hk; omega
    · rw [ha.u0 (fun e => hk (.inl e)) (fun e => hk (.inr e)), hbu (fun e => hk (.inl e)) (fun e => hk (.inr e))]
  obtain ⟨a0, a1, a2, a3, a4, a5, a6, a7, a8⟩ := a
  obtain ⟨b0, b1, b2, b3, b4, b5, b6, b7, b8⟩ := b
  obtain ⟨h4, h5, h6, h7⟩ := hpg
  simp only at e0 e1 e2 e3 h4 h5 h6 h7 hun
  subst e0 e1 e2 e3 h4 h5 h6 h7 hun
  rfl
theorem line_inj (a b : S25) (ha : rightB a = true) (hb : rightB b = true) (h : lineOf a = lineOf b) : a = b :=
  words_inj a b ((right_iff a).1 ha) ((right_iff b).1 hb) (join_inj _ _ (by simp [words]) (by simp [words]) (words_no32 a) (words_no32 b) h)
end Go.Proofs.YtlicobfjeajcfaaDoor
namespace Go.Proofs.YtlicobfjeajcfaaDoor
open Go.RowKit Go.Proofs.YtlicobfjeajcfaaDoor.Q04 Go.Proofs.YtlicobfjeajcfaaDoorW.PrintWords
set_option linter.unusedVariables false
set_option linter.unusedSimpArgs false

theorem dec_len (k : Nat) : ∀ n, n < 10 ^ (k + 1) → (Lib.decDigits n).length ≤ k + 1 := by
  induction k with
  | zero =>
    intro n h
    rw [Lib.decDigits_one (by omega)]
    simp
  | succ k ih =>
    intro n h
    by_cases h1 : n < 10
    · rw [Lib.decDigits_one h1]
      simp
    · rw [Lib.decDigits, dif_neg h1]
      have h2 : n / 10 < 10 ^ (k + 1) := by
        rw [Nat.pow_succ] at h
        omega
      have := ih _ h2
      simp only [List.length_append, List.length_cons, List.length_nil]
      omega
theorem dl_len (n : Int) (h0 : 0 ≤ n) (h1 : n ≤ 4611686018427387903) : (dl n).length ≤ 20 := by
  have := dec_len 18 n.toNat (by have : (10 : Nat) ^ 19 = 10000000000000000000 := by decide
                                 omega)
  unfold dl
  omega
theorem num_calls (n : Int) (h0 : 0 ≤ n) (h1 : n ≤ 4611686018427387903) (w : World) : Calls Tryd.prog 31 #[.int .i64 n] w fun e w' => e = .returned (.string (mk (dl n))) ∧ Below w.heap.size w w' := by
  obtain ⟨k, hk⟩ := number_eq n h0 h1
  exact quadrigaref04_number.calls k n _ w hk
theorem hex_calls (s : ByteArray) (h : s.size ≤ 1000) (w : World) : Calls Tryd.prog 32 #[.string s] w fun e w' => e = .returned (.string (mk (hexL s.data.toList))) ∧ Below w.heap.size w w' :=
  quadrigaref04_Hex.calls _ s _ w (hex_eq s h)
theorem told_calls (v : S23) (h : v.f1.size ≤ 1000) (w : World) : Calls Tryd.prog 33 #[.agg #[.bool v.f0, .string v.f1]] w fun e w' => e = .returned (.string (mk (toldL v))) ∧ Below w.heap.size w w' :=
  quadrigaref04_Told.calls _ _ _ _ w (told_eq v h)
theorem told_len (v : S23) (h : v.f1.size ≤ 1000) : (toldL v).length ≤ 2001 := by
  unfold toldL
  split
  · simp only [List.length_cons, hexL_len, Array.length_toList]
    have : v.f1.data.size = v.f1.size := rfl
    omega
  · simp
theorem word_len (k : Int) : (wordL k).length ≤ 6 := by
  unfold wordL
  repeat' split
  all_goals decide
def six (x : S25) : List UInt8 := wordL x.f0 ++ [32] ++ dl x.f2 ++ [32] ++ dl x.f1 ++ [32] ++ dl x.f3
def pageL (x : S25) : List UInt8 := [32] ++ dl x.f4 ++ [32] ++ hexL x.f5.data.toList ++ [32] ++ toldL x.f6 ++ [32] ++ toldL x.f7
theorem line_np (x : S25) (hc : chB x.f0 = false) (h : ¬ (x.f0 = 3 ∨ x.f0 = 4)) : lineOf x = six x := by
  unfold lineOf words six
  rw [hc, if_neg (by decide), if_neg h]
  simp [join_cons, join_one]
theorem line_nu (x : S25) (hc : chB x.f0 = false) (h : x.f0 = 3 ∨ x.f0 = 4) : lineOf x = six x ++ [32] ++ dl x.f8 := by
  unfold lineOf words six
  rw [hc, if_neg (by decide), if_pos h]
  simp [join_cons, join_one]
theorem line_pp (x : S25) (hc : chB x.f0 = true) (h : ¬ (x.f0 = 3 ∨ x.f0 = 4)) : lineOf x = six x ++ pageL x := by
  unfold lineOf words six pageL
  rw [hc, if_pos rfl, if_neg h]
  simp [join_cons, join_one]
theorem line_pu (x : S25) (hc : chB x.f0 = true) (h : x.f0 = 3 ∨ x.f0 = 4) : lineOf x = six x ++ pageL x ++ [32] ++ dl x.f8 := by
  unfold lineOf words six pageL
  rw [hc, if_pos rfl, if_pos h]
  simp [join_cons, join_one]
theorem rpage_eq (k : Int) : quadrigaref04_page.f k = some (chB k) := by
  unfold quadrigaref04_page.f chB
  by_cases h : k = 2
  · rw [if_pos h]; simp [h]
  · rw [if_neg h]; simp [h]
theorem page_calls (k : Int) (w : World) : Calls Tryd.prog 30 #[.int .i64 k] w fun e w' => e = .returned (.bool (chB k)) ∧ Below w.heap.size w w' :=
  (quadrigaref04_page.calls k _ w (rpage_eq k)).mono fun e w' h => ⟨h.1, h.2.below⟩
end Go.Proofs.YtlicobfjeajcfaaDoor
