/-
  client.untext: the text that is told so.
-/
import Derived.Test.YtiidffblbpoijaaDoorCbPu
import Derived.Test.YtiidffblbpoijaaDoorQ33x0
import Derived.StillTailTactics
namespace Go.Proofs.YtiidffblbpoijaaDoor
open Go.RowKit Go.Proofs.YtiidffblbpoijaaDoor.Q33 Go.Proofs.YtiidffblbpoijaaDoorW.PrintWords
set_option linter.unusedVariables false
set_option linter.unusedSimpArgs false
theorem infoU8 : (Tryd.prog.info? 5).map (fun i => (i.zero, i.size, i.bytes)) = some (some (.int .u8 0), 1, 1) := by kernel_rfl
def nm (l : List UInt8) : List Int := l.map fun b => (b.toNat : Int)
theorem strOf_nm (l : List UInt8) : strOfNums (nm l) = mk l := by
  unfold strOfNums mk nm
  congr 2
  rw [List.map_map]
  conv => rhs; rw [← List.map_id l]
  congr 1
  funext b
  simp
def hexB2 (b c : UInt8) : UInt8 := UInt8.ofNat ((hexP 0 [b, c]).getD 0)
/-- What bytes tell. -/
def untL : List UInt8 → List UInt8
  | [] => []
  | [a] => [a]
  | [a, b] => [a, b]
  | a :: b :: c :: r => if a.toNat = 37 then hexB2 b c :: untL r else a :: untL (b :: c :: r)
/-- What a text tells. -/
def untS (s : ByteArray) : ByteArray := if s.data.toList = [37] then ⟨#[]⟩ else mk (untL s.data.toList)
theorem untL_one (a : UInt8) (l : List UInt8) (h : ¬ (a.toNat = 37 ∧ 2 ≤ l.length)) : untL (a :: l) = a :: untL l := by
  match l, h with
  | [], _ => rfl
  | [b], _ => rfl
  | b :: c :: r, h =>
    have : ¬ a.toNat = 37 := fun e => h ⟨e, by simp⟩
    rw [untL, if_neg this]
theorem untL_pct (a b c : UInt8) (r : List UInt8) (h : a.toNat = 37) : untL (a :: b :: c :: r) = hexB2 b c :: untL r := by
  rw [untL, if_pos h]
theorem hexP_lt {b c : UInt8} : (hexP 0 [b, c]).getD 0 < 256 := by
  simp only [hexP]
  cases hb : hexD b with
  | none => simp
  | some d =>
    have := hexD_lt hb
    cases hc : hexD c with
    | none => simp
    | some e =>
      have := hexD_lt hc
      simp
      omega
theorem untL_len : ∀ l : List UInt8, (untL l).length ≤ l.length
  | [] => Nat.le_refl _
  | [a] => Nat.le_refl _
  | [a, b] => Nat.le_refl _
  | a :: b :: c :: r => by
    rw [untL]
    split
    · have := untL_len r
      simp only [List.length_cons]
      omega
    · have := untL_len (b :: c :: r)
      simp only [List.length_cons] at this ⊢
      omega

set_option maxRecDepth 100000 in
set_option maxHeartbeats 4000000 in
theorem untext_any (s : ByteArray) (w : World) (hs : s.size ≤ 1000000) (ht : Tabs w) : Calls Tryd.prog 29 #[.string s] w fun e w' => e = .returned (.string (untS s)) ∧ Below w.heap.size w w' := by
  have HT := Lib.hid (fun (W : World) (hb : Below w.heap.size w W) => ht.below hb)
  clear ht
  have hsz : s.data.toList.length = s.size := by simp
  obtain ⟨bs, hbs⟩ : ∃ bs, bs = s.data.toList := ⟨_, rfl⟩
  have hbl : bs.length = s.size := by rw [hbs, hsz]
  clear hsz
  have hget : ∀ (k : Nat) (hk : k < s.size), s[k] = bs[k]'(by omega) := fun k hk => by subst hbs; rfl
  obtain ⟨res, hres⟩ : ∃ r, r = untS s := ⟨_, rfl⟩
  rw [← hres]
  have Hres : Hid (res = if bs = [37] then ⟨#[]⟩ else mk (untL bs)) := Lib.hid (by rw [hres, hbs]; rfl)
  have Hget := Lib.hid hget
  clear hres hget
  go_enter Tryd.func29, Tryd.ntmps29
  go_wp2
  go_loopw [3, 4] (fun v i wr => ∃ (k : Nat) (done : List Int), i = .int .i64 k ∧ Kd.R (Kd.int .u8) 5 wr w.heap.size (fun _ => True) v done ∧ Below w.heap.size w wr ∧ Hid (done ++ nm (untL (bs.drop k)) = nm (untL bs) ∧ done.length ≤ k ∧ k ≤ s.size)) (fun _ i _ => s.size - (intOf i).toNat)
  case atStart => exact ⟨0, [], rfl, Kd.R_nil _ _ _ _ _, Below.refl _ _, Lib.hid ⟨rfl, Nat.le_refl _, Nat.zero_le _⟩⟩
  case round =>
    obtain ⟨k, done, rfl, hR, hbw, Hd⟩ := hrel
    have hk := Hd.out.2.2
    by_cases hlt : k < s.size
    · have hdrop : bs.drop k = bs[k]'(by omega) :: bs.drop (k + 1) := List.drop_eq_getElem_cons (by omega)
      obtain ⟨c, hc⟩ : ∃ c : UInt8, c = s[k] := ⟨_, rfl⟩
      have hc2 : bs[k]'(by omega) = c := by rw [hc, Hget.out k hlt]
      rw [hc2] at hdrop
      have hc256 : c.toNat < 256 := c.toNat_lt
      by_cases hp : c.toNat = 37 ∧ k + 2 < s.size
      · obtain ⟨h37, h2⟩ := hp
        have hk1 : k + 1 < bs.length := by omega
        have hk2 : k + 2 < bs.length := by omega
        have hd1 : bs.drop (k + 1) = bs[k + 1] :: bs.drop (k + 2) := List.drop_eq_getElem_cons hk1
        have hd2 : bs.drop (k + 2) = bs[k + 2] :: bs.drop (k + 3) := List.drop_eq_getElem_cons hk2
        obtain ⟨sub, hsub⟩ : ∃ t : ByteArray, t = s.extract (k + 1) (k + 3) := ⟨_, rfl⟩
        have hsl : sub.data.toList = [bs[k + 1], bs[k + 2]] := by
          rw [hsub, ByteArray.data_extract, Array.toList_extract, List.extract_eq_take_drop, ← hbs, show k + 3 - (k + 1) = 2 by omega, hd1, hd2]
          rfl
        have hsz2 : sub.size = 2 := by
          have : sub.data.toList.length = 2 := by rw [hsl]; rfl
          simpa using this
        have hx2 : hex2 sub = ((hexP 0 [bs[k + 1], bs[k + 2]]).getD 0) := by unfold hex2; rw [hsl]
        have hlt2 : hex2 sub < 256 := by rw [hx2]; exact hexP_lt
        obtain ⟨n, hn⟩ : ∃ n : Int, (hex2 sub : Int) = n := ⟨_, rfl⟩
        have hn0 : 0 ≤ n := by omega
        have hn1 : n ≤ 255 := by omega
        have HN : Hid ((done ++ [n]) ++ nm (untL (bs.drop (k + 3))) = nm (untL bs) ∧ (done ++ [n]).length ≤ k + 3 ∧ k + 3 ≤ s.size) := Lib.hid ⟨by
          rw [← Hd.out.1, hdrop, hd1, hd2, untL_pct c _ _ _ h37]
          have e : ((hexB2 bs[k + 1] bs[k + 2]).toNat : Int) = n := by
            rw [← hn, hx2]
            unfold hexB2
            have := @hexP_lt bs[k + 1] bs[k + 2]
            rw [UInt8.toNat_ofNat']
            omega
          simp [nm, e], by have := Hd.out.2.1; simp; omega, by omega⟩
        have Hlen := Hd.out.2.1
        have hpu := pu_any sub hsz2 wr (HT.out wr hbw)
        rw [hn] at hpu
        have hst : ∀ W : World, (Instr.slice 9 (.string s) (some (.int .i64 ((k : Int) + 1))) (some (.int .i64 ((k : Int) + 3))) none).run Tryd.prog W = .ok (.string sub) W := fun W => by
          rw [run_slice_string _ 9 s .i64 .i64 ((k : Int) + 1) ((k : Int) + 3) Tryd.underlying9 (by omega) (by omega) (by omega), hsub]
          rfl
        have HPU := Lib.hid hpu
        have HR := Lib.hid hR
        have HB := Lib.hid hbw
        have hc' : (s[k].toNat : Int) = 37 := by rw [← hc]; omega
        have h22 : ¬ (s.size : Int) ≤ (k : Int) + 2 := by omega
        clear hpu hR hbw hdrop hc2 Hd hd1 hd2 hsl hx2 hlt2 hn hsub hsz2 hc
        go_wp2_with (first | (go_at_call 43; refine HPU.out.mono ?_; rintro e w1 ⟨ev, rfl, hb1⟩; have HR1 := Lib.hid (Kd.R_below HR.out hb1); have HB1 := Lib.hid (HB.out.trans (hb1.mono HB.out.size)); clear hb1) | ((with_reducible refine gate_builtin (b := .append) (xs := #[.tmp 40, .tmp 43]) rfl ?_); at_builtin; refine Kd.R_append (Kd.int .u8) (w0 := w) w.heap.size rfl (.tmp 40) (.tmp 43) 48 5 (.int .u8 0) 1 rfl Tryd.underlying48 infoU8 rfl (by decide) (by omega) _ done n [.int .u8 n] (fun _ => True) (fun _ => False) rfl rfl rfl (fun _ hk => hk.elim) (fun _ _ => trivial) HR1.out HB1.out HB1.out.size (by omega) ?_))
        intro v3 w3 hR3 hb3 hg3 hat3
        have HR3 := Lib.hid hR3
        have HB3 := Lib.hid hb3
        clear hR3 hb3 hg3 hat3
        go_wp2
        go_roundw
        case rel => exact ⟨k + 3, done ++ [n], by go_num, HR3.out, HB3.out, HN⟩
        case measure => simp [intOf]; omega
      · have HN : Hid ((done ++ [(c.toNat : Int)]) ++ nm (untL (bs.drop (k + 1))) = nm (untL bs) ∧ (done ++ [(c.toNat : Int)]).length ≤ k + 1 ∧ k + 1 ≤ s.size) := Lib.hid ⟨by
          rw [← Hd.out.1, hdrop, untL_one c _ (by rw [List.length_drop, hbl]; omega)]
          simp [nm], by have := Hd.out.2.1; simp; omega, hlt⟩
        have Hlen := Hd.out.2.1
        have HR := Lib.hid hR
        have HB := Lib.hid hbw
        clear hR hbw hdrop hc2 Hd
        have hc' : (s[k].toNat : Int) = (c.toNat : Int) := by rw [hc]
        clear hc
        by_cases h37 : c.toNat = 37
        · have h2 : (s.size : Int) ≤ (k : Int) + 2 := by
            have : ¬ k + 2 < s.size := fun h => hp ⟨h37, h⟩
            omega
          have h38 : (c.toNat : Int) = 37 := by omega
          rw [h38] at hc'
          go_wp2_with ((with_reducible refine gate_builtin (b := .append) (xs := #[.tmp 24, .tmp 28]) rfl ?_); at_builtin; refine Kd.R_append (Kd.int .u8) (w0 := w) w.heap.size rfl (.tmp 24) (.tmp 28) 48 5 (.int .u8 0) 1 rfl Tryd.underlying48 infoU8 rfl (by decide) (by omega) _ done 37 [.int .u8 37] (fun _ => True) (fun _ => False) rfl rfl rfl (fun _ hk => hk.elim) (fun _ _ => trivial) HR.out HB.out HB.out.size (by omega) ?_)
          intro v3 w3 hR3 hb3 hg3 hat3
          have HR3 := Lib.hid hR3
          have HB3 := Lib.hid hb3
          clear hR3 hb3 hg3 hat3
          go_wp2
          go_roundw
          case rel => exact ⟨k + 1, done ++ [37], rfl, HR3.out, HB3.out, by rw [h38] at HN; exact HN⟩
          case measure => simp [intOf]; omega
        · have h38 : ¬ (c.toNat : Int) = 37 := by omega
          go_wp2_with ((with_reducible refine gate_builtin (b := .append) (xs := #[.tmp 24, .tmp 28]) rfl ?_); at_builtin; refine Kd.R_append (Kd.int .u8) (w0 := w) w.heap.size rfl (.tmp 24) (.tmp 28) 48 5 (.int .u8 0) 1 rfl Tryd.underlying48 infoU8 rfl (by decide) (by omega) _ done (c.toNat : Int) [.int .u8 (c.toNat : Int)] (fun _ => True) (fun _ => False) rfl rfl rfl (fun _ hk => hk.elim) (fun _ _ => trivial) HR.out HB.out HB.out.size (by omega) ?_)
          intro v3 w3 hR3 hb3 hg3 hat3
          have HR3 := Lib.hid hR3
          have HB3 := Lib.hid hb3
          clear hR3 hb3 hg3 hat3
          go_wp2
          go_roundw
          case rel => exact ⟨k + 1, done ++ [(c.toNat : Int)], rfl, HR3.out, HB3.out, HN⟩
          case measure => simp [intOf]; omega
    · have hk' : k = s.size := by omega
      have hfin : done = nm (untL bs) := by
        have h := Hd.out.1
        rw [hk', List.drop_eq_nil_of_le (by omega)] at h
        simpa [untL, nm] using h
      have hcv := own_string (P := Tryd.prog) Tryd.underlying48 Tryd.underlying5 Tryd.underlying9 (Kd.own_of_R hR)
      rw [hfin, strOf_nm] at hcv
      have hst : s.toList = bs := by rw [ByteArray.toList_eq, hbs]
      have Hst := Lib.hid hst
      have HR := Lib.hid hR
      clear hR hfin hst
      by_cases h37 : bs = [37]
      · have hq : (s.toList == [37]) = true := by rw [Hst.out, h37]; rfl
        have hq2 : s.toList = [37] := by rw [Hst.out, h37]
        have Hf : Hid (res = ⟨#[]⟩) := Lib.hid (by rw [Hres.out, if_pos h37])
        clear h37
        go_wp2
        go_ret
        exact ⟨by rw [Hf.out]; rfl, hbw⟩
      · have hq2 : ¬ s.toList = [37] := by rw [Hst.out]; exact h37
        have hq : (s.toList == [37]) = false := beq_eq_false_iff_ne.2 hq2
        have Hf : Hid (res = mk (untL bs)) := Lib.hid (by rw [Hres.out, if_neg h37])
        clear h37
        go_wp2
        go_ret
        exact ⟨by rw [Hf.out, hbs]; rfl, hbw⟩
end Go.Proofs.YtiidffblbpoijaaDoor
