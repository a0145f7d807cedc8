/-
  ClientBack: the plain law, over the printed functions.
-/
import Derived.Test.YtiidffblbpoijaaDoorQ33d1
import Derived.Test.YtiidffblbpoijaaDoorCbPureW
namespace Go.Proofs.YtiidffblbpoijaaDoor
open Go.RowKit Go.Proofs.YtiidffblbpoijaaDoor.Q33 Go.Proofs.YtiidffblbpoijaaDoorW.PrintWords
set_option linter.unnecessarySimpa false
set_option linter.unusedVariables false
set_option linter.unusedSimpArgs false

/-! ### from some point on -/
def Ev {α : Type} (F : Nat → Option α) (v : α) : Prop := ∃ K, ∀ k, K ≤ k → F k = some v
theorem Ev.step {α : Type} {F G : Nat → Option α} {v : α} {K : Nat} (hG : Ev G v) (h : ∀ k, K ≤ k → F (k + 1) = G k) : Ev F v := by
  obtain ⟨L, hL⟩ := hG
  refine ⟨max K L + 1, fun k hk => ?_⟩
  obtain ⟨j, rfl⟩ : ∃ j, k = j + 1 := ⟨k - 1, by omega⟩
  rw [h j (by omega), hL j (by omega)]
theorem Ev.now {α : Type} {F : Nat → Option α} {v : α} {K : Nat} (h : ∀ k, K ≤ k → F (k + 1) = some v) : Ev F v := ⟨K + 1, fun k hk => by
  obtain ⟨j, rfl⟩ : ∃ j, k = j + 1 := ⟨k - 1, by omega⟩
  exact h j (by omega)⟩
theorem wrap_succ (i : Nat) (h : i < 4000000000) : wrap64 ((i : Int) + 1) = ((i + 1 : Nat) : Int) := by unfold wrap64; omega

/-! ### few -/
theorem few_loop (l : List S42) (hl : l.length ≤ 201) : ∀ n i, n + i = l.length → ∃ v, Ev (fun k => quadrigalaw32_few.l0 k l (i : Int)) v
  | 0, i, h => ⟨true, Ev.now (K := 0) fun k _ => by
      simp only [quadrigalaw32_few.l0]
      rw [if_neg (by omega)]⟩
  | n + 1, i, h => by
    obtain ⟨v, hv⟩ := few_loop l hl n (i + 1) (by omega)
    by_cases h2 : (((rd_T42 l (i : Int)).f2).size : Int) > 100
    · exact ⟨false, Ev.now (K := 0) fun k _ => by
        simp only [quadrigalaw32_few.l0]
        rw [if_pos (by omega), if_pos (by omega), if_pos h2]⟩
    · by_cases h3 : (((rd_T42 l (i : Int)).f3).size : Int) > 100
      · exact ⟨false, Ev.now (K := 0) fun k _ => by
          simp only [quadrigalaw32_few.l0]
          rw [if_pos (by omega), if_pos (by omega), if_neg h2, if_pos h3]⟩
      · exact ⟨v, hv.step (K := 0) fun k _ => by
          simp only [quadrigalaw32_few.l0]
          rw [if_pos (by omega), if_pos (by omega), if_neg h2, if_neg h3, wrap_succ i (by omega)]⟩
theorem few_go (l : List S42) : ∃ v, Ev (fun k => quadrigalaw32_few.f k l) v ∧ (v = true → l.length ≤ 201) := by
  have hj1 : Ev (fun k => quadrigalaw32_few.j0 k l true) false := Ev.now (K := 0) fun k _ => by simp only [quadrigalaw32_few.j0, if_true]
  by_cases hl : l.length ≤ 201
  · have hj0 : ∃ v, Ev (fun k => quadrigalaw32_few.j0 k l false) v := by
      obtain ⟨v, hv⟩ := few_loop l hl l.length 0 (by omega)
      exact ⟨v, hv.step (K := 0) fun k _ => by simp only [quadrigalaw32_few.j0, Bool.false_eq_true, if_false]; rfl⟩
    obtain ⟨v, hv⟩ := hj0
    by_cases h30 : (l.length : Int) > 30
    · cases hb : ((l.length : Int) != 201) with
      | true =>
        refine ⟨false, ?_, fun h => by cases h⟩
        obtain ⟨K, hK⟩ := hj1
        exact ⟨K, fun k hk => by unfold quadrigalaw32_few.f; dsimp only; rw [if_pos h30, hb]; exact hK k hk⟩
      | false =>
        refine ⟨v, ?_, fun _ => hl⟩
        obtain ⟨K, hK⟩ := hv
        exact ⟨K, fun k hk => by unfold quadrigalaw32_few.f; dsimp only; rw [if_pos h30, hb]; exact hK k hk⟩
    · refine ⟨v, ?_, fun _ => hl⟩
      obtain ⟨K, hK⟩ := hv
      exact ⟨K, fun k hk => by unfold quadrigalaw32_few.f; dsimp only; rw [if_neg h30]; exact hK k hk⟩
  · refine ⟨false, ?_, fun h => by cases h⟩
    obtain ⟨K, hK⟩ := hj1
    have hb : ((l.length : Int) != 201) = true := by simp; omega
    exact ⟨K, fun k hk => by unfold quadrigalaw32_few.f; dsimp only; rw [if_pos (by omega), hb]; exact hK k hk⟩

/-! ### of -/
def conv (x : S42) : Op := ⟨x.f0, x.f1, x.f2, x.f3⟩
theorem rd_at (l : List S42) (i : Nat) (h : i < l.length) : rd_T42 l (i : Int) = l[i] := by
  unfold rd_T42
  rw [Int.toNat_natCast, List.getD_eq_getElem?_getD, List.getElem?_eq_getElem h]
  rfl
theorem of_loop (l : List S42) (hl : l.length ≤ 201) : ∀ n i, n + i = l.length → Ev (fun k => quadrigalaw32_of.l0 k l ((l.take i).map conv) (i : Int)) (l.map conv)
  | 0, i, h => Ev.now (K := 0) fun k _ => by
      simp only [quadrigalaw32_of.l0]
      rw [if_neg (by omega), List.take_of_length_le (by omega)]
  | n + 1, i, h => (of_loop l hl n (i + 1) (by omega)).step (K := 0) fun k _ => by
      have hi : i < l.length := by omega
      simp only [quadrigalaw32_of.l0]
      rw [if_pos (by omega), if_pos (by omega), if_pos (by simp only [List.length_map, List.length_take]; omega), wrap_succ i (by omega), rd_at l i hi, List.take_succ_eq_append_getElem hi, List.map_append]
      rfl
theorem of_go (l : List S42) (hl : l.length ≤ 201) : Ev (fun k => quadrigalaw32_of.f k l) (l.map conv) := by
  obtain ⟨K, hK⟩ := of_loop l hl l.length 0 (by omega)
  exact ⟨K, fun k hk => hK k hk⟩

/-! ### a line is read as it was -/
theorem count_one : ∀ (n : Nat) (l : List UInt8), l.length ≤ n → Lib.count l [32] = l.count 32
  | 0, l, h => by
    obtain rfl : l = [] := List.length_eq_zero_iff.1 (by omega)
    exact Lib.count_miss (index_none 32 [] (by simp))
  | n + 1, l, h => by
    by_cases hm : (32 : UInt8) ∈ l
    · obtain ⟨a, r, rfl, ha⟩ := mid_of_mem 32 l hm
      rw [Lib.count_hit (by simp) (index_mid 32 r a ha)]
      have e : (a ++ 32 :: r).drop (a.length + [(32 : UInt8)].length) = r := by
        rw [← List.drop_drop, List.drop_left]
        rfl
      simp only [List.length_append, List.length_cons] at h
      rw [e, count_one n r (by omega), List.count_append, List.count_eq_zero.2 ha, List.count_cons_self]
      omega
    · rw [Lib.count_miss (index_none 32 l hm), List.count_eq_zero.2 hm]
theorem wsOf_line (x : Op) (h : rightO x = true) : wsOf (lineB x) = wordsB x := by
  obtain ⟨h1, h2, h3, h4, h5, h6⟩ := right_facts h
  have inj : ∀ a b : List ByteArray, a.map (·.data.toList) = b.map (·.data.toList) → a = b := by
    intro a
    induction a with
    | nil => intro b hb; cases b with | nil => rfl | cons => simp at hb
    | cons x a ih =>
      intro b hb
      cases b with
      | nil => simp at hb
      | cons y b =>
        simp only [List.map_cons, List.cons.injEq] at hb
        rw [ih b hb.2]
        have : x = y := by
          cases x; cases y
          congr 1
          exact Array.toList_inj.1 hb.1
        rw [this]
  apply inj
  unfold wsOf
  have hcnt : Lib.countB (lineB x) blank = (Lib.join ((wordsB x).map (·.data.toList)) [32]).count 32 := count_one _ _ (Nat.le_refl _)
  rw [Lib.splitB_data, hcnt]
  refine split_join _ (by unfold wordsB; simp) (fun w hw => ?_)
  obtain ⟨s, hs, rfl⟩ := List.mem_map.1 hw
  have hword : (32 : UInt8) ∉ (wordB x.f0).data.toList := by
    rcases kinds h1 h2 with e | e | e | e | e | e | e | e | e <;> rw [e] <;> decide
  have hit : (32 : UInt8) ∉ (itoaB x.f1).data.toList := by rw [itoa_small _ h3]; exact (dec_ne _).1
  unfold wordsB at hs
  simp only [List.mem_cons, List.mem_append] at hs
  rcases hs with rfl | hs | hs | hs
  · exact hword
  · split at hs
    · rw [List.mem_singleton.1 hs]; exact hit
    · cases hs
  · split at hs
    · rw [List.mem_singleton.1 hs]; exact (tellS_ne _).1
    · cases hs
  · split at hs
    · rw [List.mem_singleton.1 hs]; exact (tellS_ne _).1
    · cases hs
theorem join_no (c : UInt8) (hc : c ≠ 32) : ∀ ws : List (List UInt8), (∀ w ∈ ws, c ∉ w) → c ∉ Lib.join ws [32]
  | [], _ => by simp [Lib.join, List.intercalate]
  | [a], h => by rw [join_one]; exact h a (by simp)
  | a :: b :: r, h => by
    rw [join_cons]
    have ih := join_no c hc (b :: r) (fun w hw => h w (by simp only [List.mem_cons] at hw ⊢; exact .inr hw))
    have ha := h a (by simp)
    simp only [List.mem_append, List.mem_cons, not_or]
    exact ⟨ha, hc, ih⟩
theorem line_no (x : Op) (h : rightO x = true) : (10 : UInt8) ∉ lineL x := by
  obtain ⟨h1, h2, h3, h4, h5, h6⟩ := right_facts h
  refine join_no 10 (by decide) _ (fun w hw => ?_)
  obtain ⟨s, hs, rfl⟩ := List.mem_map.1 hw
  have hword : (10 : UInt8) ∉ (wordB x.f0).data.toList := by
    rcases kinds h1 h2 with e | e | e | e | e | e | e | e | e <;> rw [e] <;> decide
  have hit : (10 : UInt8) ∉ (itoaB x.f1).data.toList := by rw [itoa_small _ h3]; exact (dec_ne _).2
  unfold wordsB at hs
  simp only [List.mem_cons, List.mem_append] at hs
  rcases hs with rfl | hs | hs | hs
  · exact hword
  · split at hs
    · rw [List.mem_singleton.1 hs]; exact hit
    · cases hs
  · split at hs
    · rw [List.mem_singleton.1 hs]; exact (tellS_ne _).2
    · cases hs
  · split at hs
    · rw [List.mem_singleton.1 hs]; exact (tellS_ne _).2
    · cases hs
theorem kind_word (k : Int) (h1 : 1 ≤ k) (h2 : k ≤ 9) : kindOf (wordB k) = k := by
  rcases kinds h1 h2 with rfl | rfl | rfl | rfl | rfl | rfl | rfl | rfl | rfl <;> decide
theorem cand_line (x : Op) (h : rightO x = true) : candO x.f0 (lineB x) = x := by
  obtain ⟨h1, h2, h3, h4, h5, h6⟩ := right_facts h
  have hw := wsOf_line x h
  obtain ⟨k, n, ke, va⟩ := x
  dsimp only at h1 h2 h3 h4 h5 h6
  have hr := h
  unfold rightO numO keyO valO at hr
  simp only [Bool.and_eq_true, Bool.or_eq_true, decide_eq_true_eq] at hr
  obtain ⟨_, hn, hk, hv⟩ := hr
  unfold candO wdAt
  rw [hw]
  unfold wordsB
  dsimp only
  have e1 := atoi_itoa n h3 h4
  have e2 := untS_tell ke
  have e3 := untS_tell va
  rcases kinds h1 h2 with rfl | rfl | rfl | rfl | rfl | rfl | rfl | rfl | rfl
  all_goals
    simp [partsOf] at hn hk hv ⊢
    simp_all [size_zero]
theorem parse_line (x : Op) (h : rightO x = true) : parseR (lineB x) = (x, 0) := by
  obtain ⟨h1, h2, h3, h4, h5, h6⟩ := right_facts h
  have h0 : wdAt (lineB x) 0 = wordB x.f0 := by unfold wdAt; rw [wsOf_line x h]; rfl
  unfold parseR
  rw [h0, kind_word _ h1 h2, if_neg (by omega), cand_line x h, if_pos ⟨h, rfl⟩]
theorem parse_ok (s : ByteArray) (h : (parseR s).2 = 0) : rightO (parseR s).1 = true ∧ lineB (parseR s).1 = s := by
  unfold parseR at h ⊢
  split at h
  · cases h
  · rename_i hk
    rw [if_neg hk]
    split at h
    · rename_i hc
      rw [if_pos hc]
      exact hc
    · cases h
/-! ### a program -/
theorem data_nil (L : List UInt8) : (mk L).toList = ([] : List UInt8) ↔ L = [] := by rw [Go.ByteArray.toList_eq, mk_data]
theorem cut_f (L : List UInt8) (hL : L.length ≤ 900000) : strings_Cut.f (mk L) (⟨#[10]⟩ : ByteArray) = some (mk (Lib.cut L [10]).1, mk (Lib.cut L [10]).2.1, (Lib.cut L [10]).2.2) := by
  unfold strings_Cut.f
  rw [if_pos (by show L.toArray.size < _; simp only [List.size_toArray]; omega)]
  rfl
theorem parse_f (L : List UInt8) (hL : L.length ≤ 900000) : client_Parse.f (mk L) = some ((parseR (mk L)).1.f0, (parseR (mk L)).1.f1, (parseR (mk L)).1.f2, (parseR (mk L)).1.f3, (parseR (mk L)).2) := by
  unfold client_Parse.f
  rw [if_pos (by show L.toArray.size ≤ _; simp only [List.size_toArray]; omega)]
theorem prog_any : ∀ (n : Nat) (L : List UInt8) (x : List Op) (i : Nat), L.length ≤ n → L.length ≤ 900000 → x.length + L.length ≤ 2000000 → i + L.length ≤ 2000000 →
    ∃ r, Ev (fun k => client_Program.l0 k (mk L) x (i : Int)) r ∧ (r.2.2 = 0 → ∃ ys, r.1 = x ++ ys ∧ (∀ y ∈ ys, rightO y = true) ∧ progL ys = L ∧ (x ++ ys).length ≤ 200)
  | 0, L, x, i, hn, hL, hx, hi => by
    obtain rfl : L = [] := List.length_eq_zero_iff.1 (by omega)
    by_cases h : (x.length : Int) > 200
    · refine ⟨([], 0, 3), Ev.now (K := 0) fun k _ => ?_, fun h => by cases h⟩
      simp only [client_Program.l0]
      rw [if_pos ((data_nil []).2 rfl), if_pos h]
    · refine ⟨(x, 0, 0), Ev.now (K := 0) fun k _ => ?_, fun _ => ⟨[], by simp, by simp, rfl, by simp; omega⟩⟩
      simp only [client_Program.l0]
      rw [if_pos ((data_nil []).2 rfl), if_neg h]
  | n + 1, L, x, i, hn, hL, hx, hi => by
    by_cases hnil : L = []
    · subst hnil
      exact prog_any n [] x i (by simp) (by simp) (by simpa using hx) (by simpa using hi)
    · have hne : ¬ (mk L).toList = ([] : List UInt8) := fun h => hnil ((data_nil L).1 h)
      have hcf := cut_f L hL
      by_cases hm : (10 : UInt8) ∈ L
      · obtain ⟨a, r, rfl, ha⟩ := mid_of_mem 10 L hm
        rw [cut_mid 10 a r ha] at hcf
        simp only [List.length_append, List.length_cons] at hn hL hx hi
        have hpf := parse_f a (by omega)
        by_cases h0 : (parseR (mk a)).2 = 0
        · obtain ⟨hr, hl⟩ := parse_ok _ h0
          obtain ⟨r1, hr1, hr2⟩ := prog_any n r (x ++ [(parseR (mk a)).1]) (i + 1) (by omega) (by omega) (by simp only [List.length_append, List.length_singleton]; omega) (by omega)
          refine ⟨r1, hr1.step (K := 0) fun k _ => ?_, fun h => ?_⟩
          · simp only [client_Program.l0]
            rw [if_neg hne, hcf]
            simp only [Option.bind_some]
            rw [hpf]
            simp only [Option.bind_some]
            rw [if_pos h0, if_pos trivial, if_pos (by omega), wrap_succ i (by omega)]
          · obtain ⟨ys, e1, e2, e3, e4⟩ := hr2 h
            refine ⟨(parseR (mk a)).1 :: ys, by rw [e1]; simp, ?_, ?_, by simpa using e4⟩
            · intro y hy
              rcases List.mem_cons.1 hy with rfl | hy
              · exact hr
              · exact e2 y hy
            · have e5 : lineL (parseR (mk a)).1 = a := by
                have := congrArg (fun s : ByteArray => s.data.toList) hl
                exact this
              show (lineL (parseR (mk a)).1 ++ [10]) ++ progL ys = _
              rw [e5, e3]
              simp
        · refine ⟨([], (i : Int), 2), Ev.now (K := 0) fun k _ => ?_, fun h => by cases h⟩
          simp only [client_Program.l0]
          rw [if_neg hne, hcf]
          simp only [Option.bind_some]
          rw [hpf]
          simp only [Option.bind_some]
          rw [if_neg h0]
      · rw [cut_none 10 L hm] at hcf
        have hpf := parse_f L hL
        refine ⟨([], (i : Int), 2), Ev.now (K := 0) fun k _ => ?_, fun h => by cases h⟩
        simp only [client_Program.l0]
        rw [if_neg hne, hcf]
        simp only [Option.bind_some]
        rw [hpf]
        simp only [Option.bind_some]
        by_cases h0 : (parseR (mk L)).2 = 0
        · rw [if_pos h0, if_neg (by decide)]
        · rw [if_neg h0]
theorem prog_own : ∀ (l : List Op) (x : List Op) (i : Nat), (∀ y ∈ l, rightO y = true) → x.length + l.length ≤ 200 → i + l.length ≤ 1000 → Ev (fun k => client_Program.l0 k (mk (progL l)) x (i : Int)) (x ++ l, 0, 0)
  | [], x, i, _, hx, _ => Ev.now (K := 0) fun k _ => by
      simp only [List.length_nil] at hx
      simp only [client_Program.l0]
      rw [if_pos (show (mk (progL [])).toList = ([] : List UInt8) from (data_nil _).2 rfl), if_neg (by omega), List.append_nil]
  | o :: l, x, i, hr, hx, hi => by
    have ho := hr o (by simp)
    have hrest : ∀ y ∈ l, rightO y = true := fun y hy => hr y (by simp [hy])
    simp only [List.length_cons] at hx hi
    have ih := prog_own l (x ++ [o]) (i + 1) hrest (by simp only [List.length_append, List.length_singleton]; omega) (by omega)
    have e : progL (o :: l) = lineL o ++ 10 :: progL l := by
      show (lineL o ++ [10]) ++ progL l = _
      simp
    have hlen := prog_len (o :: l) hr
    simp only [List.length_cons] at hlen
    have hcf := cut_f (progL (o :: l)) (by omega)
    rw [e, cut_mid 10 _ _ (line_no o ho)] at hcf
    have hll := line_len o ho
    have hpf := parse_f (lineL o) (by omega)
    have hpl : parseR (mk (lineL o)) = (o, 0) := parse_line o ho
    rw [hpl] at hpf
    have hne : ¬ (mk (progL (o :: l))).toList = ([] : List UInt8) := fun h => by rw [data_nil, e] at h; simp at h
    rw [e] at hne ⊢
    rw [List.append_assoc] at ih
    refine ih.step (K := 0) fun k _ => ?_
    simp only [client_Program.l0]
    rw [if_neg hne, hcf]
    simp only [Option.bind_some]
    rw [hpf]
    simp only [Option.bind_some]
    rw [if_pos trivial, if_pos trivial, if_pos (by omega), wrap_succ i (by omega)]

/-! ### the law -/
theorem j3_go (t : ByteArray) (ht : t.size ≤ 5000) : Ev (fun k => quadrigalaw32_ClientBack.j3 k t) true := by
  have hts : t.data.toList.length = t.size := by simp
  obtain ⟨r, ⟨K, hK⟩, hr⟩ := prog_any t.data.toList.length t.data.toList [] 1 (Nat.le_refl _) (by omega) (by simp only [List.length_nil]; omega) (by omega)
  rw [mk_of] at hK
  refine Ev.now (K := K) fun k hk => ?_
  have hp : client_Program.f k t = some r := hK k hk
  simp only [quadrigalaw32_ClientBack.j3]
  rw [hp]
  simp only [Option.bind_some]
  by_cases h0 : r.2.2 = 0
  · obtain ⟨ys, e1, e2, e3, e4⟩ := hr h0
    have hpr : client_Print.f r.1 = some (t, 0) := by
      have ey : r.1 = ys := by rw [e1]; rfl
      rw [ey]
      unfold client_Print.f
      rw [if_pos (List.all_eq_true.2 e2), if_pos (by simpa using e4), e3, mk_of]
    rw [if_pos h0, hpr]
    simp only [Option.bind_some]
    rw [if_pos trivial, if_pos trivial]
    rfl
  · rw [if_neg h0]
    rfl
theorem l0_go (l : List S42) (t : ByteArray) (hl : l.length ≤ 201) (ht : t.size ≤ 5000) : ∀ n i, n + i = l.length → Ev (fun k => quadrigalaw32_ClientBack.l0 k l t (l.map conv) (i : Int)) true
  | 0, i, h => (j3_go t ht).step (K := 0) fun k _ => by
      simp only [quadrigalaw32_ClientBack.l0]
      rw [if_neg (by simp only [List.length_map]; omega)]
  | n + 1, i, h => (l0_go l t hl ht n (i + 1) (by omega)).step (K := 0) fun k _ => by
      have hi : i < l.length := by omega
      have e : rd_T43 (l.map conv) (i : Int) = conv l[i] := by
        unfold rd_T43
        rw [Int.toNat_natCast, List.getD_eq_getElem?_getD, List.getElem?_map, List.getElem?_eq_getElem hi]
        rfl
      simp only [quadrigalaw32_ClientBack.l0]
      rw [if_pos (by simp only [List.length_map]; omega), if_pos (by omega), if_pos (by omega), e, rd_at l i hi, wrap_succ i (by omega)]
      simp [conv]
theorem j0_go (l : List S42) (t : ByteArray) (hl : l.length ≤ 201) (ht : t.size ≤ 5000) : Ev (fun k => quadrigalaw32_ClientBack.j0 k l t false) true := by
  obtain ⟨K1, h1⟩ := of_go l hl
  by_cases hr : ((l.map conv).all rightO = true ∧ (l.map conv).length ≤ 200)
  · have hrr := List.all_eq_true.1 hr.1
    have hpr : client_Print.f (l.map conv) = some (mk (progL (l.map conv)), 0) := by
      unfold client_Print.f
      rw [if_pos hr.1, if_pos hr.2]
    obtain ⟨K2, h2⟩ := prog_own (l.map conv) [] 1 hrr (by simpa using hr.2) (by have := hr.2; omega)
    have hj1 : Ev (fun k => quadrigalaw32_ClientBack.j1 k l t (l.map conv) false) true := (l0_go l t hl ht l.length 0 (by omega)).step (K := 0) fun k _ => by
      simp only [quadrigalaw32_ClientBack.j1, Bool.false_eq_true, if_false]
      rfl
    refine hj1.step (K := max K1 K2) fun k hk => ?_
    have e1 : quadrigalaw32_of.f k l = some (l.map conv) := h1 k (by omega)
    have e2 : client_Program.f k (mk (progL (l.map conv))) = some (l.map conv, 0, 0) := h2 k (by omega)
    simp only [quadrigalaw32_ClientBack.j0, Bool.false_eq_true, if_false]
    rw [e1]
    simp only [Option.bind_some]
    rw [hpr]
    simp only [Option.bind_some]
    rw [if_pos trivial, e2]
    simp only [Option.bind_some, if_true]
    have hb : (((l.map conv).length : Int) != (l.length : Int)) = false := by simp
    rw [hb]
  · obtain ⟨s, e, hpr, he⟩ : ∃ s e, client_Print.f (l.map conv) = some (s, e) ∧ e ≠ 0 := by
      unfold client_Print.f
      by_cases h1 : (l.map conv).all rightO = true
      · rw [if_pos h1, if_neg (fun h => hr ⟨h1, h⟩)]
        exact ⟨_, _, rfl, by decide⟩
      · rw [if_neg h1]
        exact ⟨_, _, rfl, by decide⟩
    refine (j3_go t ht).step (K := K1) fun k hk => ?_
    have e1 : quadrigalaw32_of.f k l = some (l.map conv) := h1 k hk
    simp only [quadrigalaw32_ClientBack.j0, Bool.false_eq_true, if_false]
    rw [e1]
    simp only [Option.bind_some]
    rw [hpr]
    simp only [Option.bind_some]
    rw [if_neg he]
theorem back_true (l : List S42) (t : ByteArray) : ∃ k, quadrigalaw32_ClientBack.f k l t = some true := by
  obtain ⟨v, ⟨K, hK⟩, hv⟩ := few_go l
  have hj : ∀ b, (b = true ∨ l.length ≤ 201 ∧ t.size ≤ 5000) → ∃ K, ∀ k, K ≤ k → quadrigalaw32_ClientBack.j0 k l t b = some true := by
    intro b hb
    cases b with
    | true => exact ⟨1, fun k hk => by
        obtain ⟨j, rfl⟩ : ∃ j, k = j + 1 := ⟨k - 1, by omega⟩
        simp only [quadrigalaw32_ClientBack.j0, if_true]
        rfl⟩
    | false =>
      rcases hb with hb | ⟨h1, h2⟩
      · cases hb
      · exact j0_go l t h1 h2
  cases hvv : v with
  | true =>
    have hl := hv hvv
    obtain ⟨K2, h2⟩ := hj (decide ((t.size : Int) > 5000)) (by
      by_cases h : (t.size : Int) > 5000
      · exact .inl (decide_eq_true h)
      · exact .inr ⟨hl, by omega⟩)
    refine ⟨max K K2, ?_⟩
    have hf : quadrigalaw32_few.f (max K K2) l = some v := hK _ (by omega)
    unfold quadrigalaw32_ClientBack.f
    rw [hf, hvv]
    simp only [Option.bind_some, if_true]
    exact h2 _ (by omega)
  | false =>
    obtain ⟨K2, h2⟩ := hj true (.inl rfl)
    refine ⟨max K K2, ?_⟩
    have hf : quadrigalaw32_few.f (max K K2) l = some v := hK _ (by omega)
    unfold quadrigalaw32_ClientBack.f
    rw [hf, hvv]
    simp only [Option.bind_some, Bool.false_eq_true, if_false]
    exact h2 _ (by omega)
end Go.Proofs.YtiidffblbpoijaaDoor
