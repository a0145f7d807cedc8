/-
  nums.Put: numbers, laid.
-/
import Derived.Test.YtlicobfjeajcfaaDoorQ04x0
import Derived.Test.YtlicobfjeajcfaaDoorQ04f
import Derived.Lib.Hide
import Derived.WalkKit
import Derived.WalkSpells
import Derived.WalkLawsBesides
namespace Go.Proofs.YtlicobfjeajcfaaDoor
open Go.RowKit Go.Proofs.YtlicobfjeajcfaaDoor.Q04 Go.Proofs.YtlicobfjeajcfaaDoorW.PrintWords
set_option linter.unusedVariables false
set_option linter.unusedSimpArgs false

/-- Does a number fit so many bytes? -/
def fitsB (size n : Int) : Bool := decide (0 ≤ n) && (size == 8 || n / 2 ^ (8 * size).toNat == 0)

theorem bel_base {B : Nat} {w x y : World} (h : Below B w x) (hb : Below x.heap.size x y) (hB : B ≤ x.heap.size) : Below B w y := h.trans (hb.mono hB)
theorem shr64 (n m : Int) (h : m ≤ 64) : shr .i64 n m = n / 2 ^ m.toNat := by
  unfold shr
  rw [Nat.min_eq_left]
  have : IntKind.i64.bits = 64 := rfl
  omega
theorem wrap_id (x : Int) (h1 : -9223372036854775808 ≤ x) (h2 : x ≤ 9223372036854775807) : wrap64 x = x := by
  unfold wrap64
  omega
theorem fits_calls (n size : Int) (w : World) (h1 : 1 ≤ size) (h2 : size ≤ 8) : Calls Tryd.prog 62 #[.int .i64 n, .int .i64 size] w fun e w' => e = .returned (.bool (fitsB size n)) ∧ Drawn0 w w' := by
  refine nums_fits.calls n size _ w ?_
  unfold nums_fits.f fitsB
  rw [wrap_id (8 * size) (by omega) (by omega), shr64 _ _ (by omega)]
  by_cases h0 : 0 ≤ n
  · rw [if_pos h0]
    by_cases h8 : size = 8
    · rw [if_pos h8]; simp [h0, h8]
    · rw [if_neg h8, if_pos (by omega)]; simp [h0, h8]
  · rw [if_neg (by omega)]; simp [h0]

/-- A number's bytes, the highest first: so many. -/
def putDown (n : Int) : Nat → List Int
  | 0 => []
  | m + 1 => n / 2 ^ (8 * m) % 256 :: putDown n m
theorem putDown_length (n : Int) : ∀ m, (putDown n m).length = m
  | 0 => rfl
  | m + 1 => by simp [putDown, putDown_length n m]
/-- Many numbers' bytes. -/
def putAll (size : Int) (l : List Int) : List Int := l.flatMap fun n => putDown n size.toNat
theorem putAll_snoc (size : Int) (l : List Int) (n : Int) : putAll size (l ++ [n]) = putAll size l ++ putDown n size.toNat := by simp [putAll]
theorem putAll_length (size : Int) : ∀ l, (putAll size l).length = l.length * size.toNat
  | [] => by simp [putAll]
  | a :: r => by
    have := putAll_length size r
    simp only [putAll, List.flatMap_cons, List.length_append, putDown_length] at this ⊢
    simp only [List.length_cons, this]
    rw [Nat.succ_mul]
    omega

set_option maxRecDepth 100000 in
set_option maxHeartbeats 1000000 in
theorem put_any (size : Int) (A : Option Addr) (c : Nat) (l : List Int) (w : World) (h1 : 1 ≤ size) (h2 : size ≤ 8) (hr : Kd.C (Kd.int .i64) w A l.length l) (hl : l.length ≤ 1000000) :
    Calls Tryd.prog 39 #[.int .i64 size, .slice A l.length c] w fun e w' => e = .returned (.string (if l.all (fitsB size) then strOfNums (putAll size l) else ⟨#[]⟩)) ∧ Below w.heap.size w w' := by
  have hm : IntKind.i64.wrap (size * (l.length : Int)) = size * (l.length : Int) := by
    have ha : size * (l.length : Int) ≤ 8 * 1000000 := by
      have := Int.mul_le_mul h2 (show (l.length : Int) ≤ 1000000 by omega) (by omega) (by omega)
      simpa using this
    have hb : 0 ≤ size * (l.length : Int) := Int.mul_nonneg (by omega) (by omega)
    rw [IntKind.wrap_i64]
    omega
  obtain ⟨q, hq⟩ : ∃ q : Nat, (q : Int) = size * (l.length : Int) := ⟨(size * (l.length : Int)).toNat, by
    have hb : 0 ≤ size * (l.length : Int) := Int.mul_nonneg (by omega) (by omega)
    omega⟩
  rw [← hq] at hm
  have hq1 : size * (l.length : Int) = q := hq.symm
  have Hq := Lib.hid hq
  have hq2 : q ≤ 8000000 := by
    have := Int.mul_le_mul h2 (show (l.length : Int) ≤ 1000000 by omega) (by omega) (by omega)
    omega
  clear hq
  obtain ⟨i0, hi, hzz⟩ := Option.map_eq_some_iff.1 info5
  simp only [Prod.mk.injEq] at hzz
  obtain ⟨hz0, hz1, hz2⟩ := hzz
  have Hr := Lib.hid hr
  clear hr
  obtain ⟨res, hres⟩ : ∃ r, r = (if l.all (fitsB size) then strOfNums (putAll size l) else (⟨#[]⟩ : ByteArray)) := ⟨_, rfl⟩
  rw [← hres]
  have Hres := Lib.hid hres
  clear hres
  go_enter Tryd.func39, Tryd.ntmps39
  go_wp2_with (at_make; refine wpList_make_own _ rfl _ _ 69 rfl w.heap.size 5 i0 _ 1 Tryd.underlying69 hi hz0 hz1 _ _ _ q rfl rfl rfl (by rw [hz2]; omega) (by unfold maxLen; omega) (Nat.le_refl _) ?_)
  intro w1 hown1 hg1
  have hb1 : Below w.heap.size w w1 := (Below.refl _ w).grown hg1 (Nat.le_refl _) (by intro k hk; cases hk)
  have hr1 := Kd.C_below Hr.out hb1
  have hR1 : Kd.R (Kd.int .u8) 5 w1 w.heap.size (fun _ => True) (.slice (some ⟨w.heap.size, 0, none⟩) 0 q) ([] : List Int) := Kd.R_of_own hown1 (fun _ _ => trivial)
  go_wp2
  go_loopw [5, 22] (fun v i wr => ∃ k : Nat, k ≤ l.length ∧ i = .int .i64 k ∧ Kd.R (Kd.int .u8) 5 wr w.heap.size (fun _ => True) v (putAll size (l.take k)) ∧ Below w.heap.size w wr ∧ Kd.C (Kd.int .i64) wr A l.length l ∧ Hid ((l.take k).all (fitsB size) = true)) (fun _ i _ => l.length - (intOf i).toNat)
  case atStart => exact ⟨0, Nat.zero_le _, rfl, by simpa [putAll] using hR1, hb1, hr1, Lib.hid (by simp)⟩
  case round =>
    obtain ⟨k, hk, rfl, hR, hbw, hC, Hall⟩ := hrel
    by_cases hlt : k < l.length
    · obtain ⟨ad, rfl, hcell⟩ := Kd.at_int hC (k : Int) (by omega) (by omega)
      obtain ⟨n, hn⟩ : ∃ n, n = l.getD k 0 := ⟨_, rfl⟩
      have hrd : rd l (k : Int) = n := by rw [hn]; simp [rd]
      rw [hrd] at hcell
      simp only [Int.toNat_natCast] at hcell
      have Htk : Hid (l.take (k + 1) = l.take k ++ [n]) := Lib.hid (by rw [hn, List.take_succ_eq_append_getElem hlt, List.getD_eq_getElem?_getD, List.getElem?_eq_getElem hlt]; rfl)
      have Hn := Lib.hid hn
      clear hrd hn
      cases hft : fitsB size n with
      | false =>
        have Hfail : Hid (res = (⟨#[]⟩ : ByteArray)) := Lib.hid (by
          have : l.all (fitsB size) = false := by
            rw [List.all_eq_false]
            refine ⟨n, ?_, by simp [hft]⟩
            rw [Hn.out, List.getD_eq_getElem?_getD, List.getElem?_eq_getElem hlt]
            exact List.getElem_mem hlt
          rw [Hres.out, this]
          rfl)
        have hfc := fits_calls n size wr h1 h2
        rw [hft] at hfc
        have Hfc := Lib.hid hfc
        clear hft hfc
        have HR := Lib.hid hR
        clear hR
        go_wp2_with (go_at_call 62; refine Hfc.out.mono ?_; rintro e w' ⟨rfl, hdr⟩)
        go_ret
        exact ⟨by rw [Hfail.out]; rfl, bel_base hbw (Drawn0.below hdr) hbw.size⟩
      | true =>
        have hfc := fits_calls n size wr h1 h2
        rw [hft] at hfc
        have Hfc := Lib.hid hfc
        have Hft := Lib.hid hft
        clear hft hfc
        obtain ⟨done0, hd0⟩ : ∃ d, d = putAll size (l.take k) := ⟨_, rfl⟩
        rw [← hd0] at hR
        have Hd0 := Lib.hid hd0
        clear hd0
        obtain ⟨sz, rfl⟩ : ∃ sz : Nat, size = sz := ⟨size.toNat, by omega⟩
        have hszw : IntKind.i64.wrap ((sz : Int) - 1) = (sz : Int) - 1 := by rw [IntKind.wrap_i64]; omega
        go_wp2_with (go_at_call 62; refine Hfc.out.mono ?_; rintro e w2 ⟨rfl, ⟨⟨nd, rfl⟩⟩⟩)
        have hbw2 : Below w.heap.size w (wr.drewN nd) := below_drewN hbw nd
        have hR2 : Kd.R (Kd.int .u8) 5 (wr.drewN nd) w.heap.size (fun _ => True) u5 done0 := Kd.R_drewN hR nd
        have hC2 : Kd.C (Kd.int .i64) (wr.drewN nd) (some ad) l.length l := Kd.C_below hC (below_drewN (Below.refl _ _) nd)
        have HR2 := Lib.hid hR2
        have HC2 := Lib.hid hC2
        have Hbw2 := Lib.hid hbw2
        clear hR hR2 hC hC2 hbw hbw2 hcell
        go_loopw [5, 8] (fun v i wr2 => ∃ (m : Nat) (done : List Int), m ≤ sz ∧ i = .int .i64 ((m : Int) - 1) ∧ Kd.R (Kd.int .u8) 5 wr2 w.heap.size (fun _ => True) v (done0 ++ done) ∧ Below w.heap.size w wr2 ∧ Kd.C (Kd.int .i64) wr2 (some ad) l.length l ∧ Hid (done ++ putDown n m = putDown n sz)) (fun _ i _ => (intOf i + 1).toNat)
        case atStart => exact ⟨sz, [], Nat.le_refl _, rfl, by simpa using HR2.out, Hbw2.out, HC2.out, Lib.hid rfl⟩
        case round =>
          obtain ⟨m, done, hm1, rfl, hR3, hb3, hC3, Hd⟩ := hrel
          have HR3 := Lib.hid hR3
          have Hb3 := Lib.hid hb3
          have HC3 := Lib.hid hC3
          clear hR3 hb3 hC3
          cases m with
          | zero =>
            have e0 : (((0 : Nat) : Int) - 1) = -1 := rfl
            rw [e0]
            go_wp2
            go_roundw
            case rel =>
              have hd := Hd.out
              have hd' : done = putDown n sz := by simpa [putDown] using hd
              refine ⟨k + 1, hlt, by go_num, ?_, Hb3.out, HC3.out, Lib.hid ?_⟩
              · rw [Htk.out, putAll_snoc, ← Hd0.out, Int.toNat_natCast, ← hd']
                exact HR3.out
              · rw [Htk.out, List.all_append, Hall.out]
                simp [Hft.out]
            case measure => simp [intOf]; omega
          | succ m' =>
            have e0 : (((m' + 1 : Nat) : Int) - 1) = (m' : Int) := by omega
            have Hd' := Lib.hid Hd.out
            rw [e0]
            obtain ⟨a, ha⟩ : ∃ a, a = 8 * (m' : Int) := ⟨_, rfl⟩
            have ha1 : 0 ≤ a := by omega
            have ha2 : a ≤ 64 := by omega
            have ha3 : IntKind.i64.wrap (8 * (m' : Int)) = a := by rw [IntKind.wrap_i64]; omega
            have hm0 : decide (0 ≤ (m' : Int)) = true := by simp
            have hw1 : IntKind.i64.wrap ((m' : Int) - 1) = (m' : Int) - 1 := by rw [IntKind.wrap_i64]; omega
            obtain ⟨x, hx⟩ : ∃ x, x = n / 2 ^ a.toNat := ⟨_, rfl⟩
            have hx1 : n / 2 ^ min a.toNat 64 = x := by rw [hx, Nat.min_eq_left (by omega)]
            have hx2 : n / 2 ^ a.toNat = x := hx.symm
            have ha4 : decide (0 ≤ a) = true := by simpa using ha1
            have Hx : Hid (x % 256 :: putDown n m' = putDown n (m' + 1)) := Lib.hid (by
              rw [hx, ha]
              show _ = n / 2 ^ (8 * m') % 256 :: putDown n m'
              rw [show (8 * (m' : Int)).toNat = 8 * m' by omega])
            have Hlen : Hid ((done0 ++ done).length ≤ 8000100) := Lib.hid (by
              have e1 := congrArg List.length Hd.out
              have e2 := congrArg List.length Hd0.out
              rw [putAll_length, List.length_take, Int.toNat_natCast] at e2
              simp only [List.length_append, putDown_length] at e1
              rw [List.length_append]
              have e3 : min k l.length * sz ≤ 1000000 * 8 := Nat.mul_le_mul (by omega) (by omega)
              omega)
            clear hx ha
            go_wp2_with ((with_reducible refine gate_builtin (b := .append) (xs := #[.tmp 36, .tmp 42]) rfl ?_); at_builtin; refine Kd.R_append (Kd.int .u8) (w0 := w) w.heap.size rfl (.tmp 36) (.tmp 42) 69 5 (.int .u8 0) 1 rfl Tryd.underlying69 info5 rfl (by decide) (by omega) _ (done0 ++ done) (x % 256) [.int .u8 (x % 256)] (fun _ => True) (fun _ => False) rfl rfl rfl (fun _ hk => hk.elim) (fun _ _ => trivial) HR3.out Hb3.out Hb3.out.size (by have := Hlen.out; omega) ?_)
            intro v3 w3 hR3 hb3 hg3 hat3
            have hC3 : Kd.C (Kd.int .i64) w3 (some ad) l.length l := Kd.C_below Hr.out hb3
            have HR3 := Lib.hid hR3
            have Hb3 := Lib.hid hb3
            have HC3 := Lib.hid hC3
            clear hR3 hb3 hC3 hat3 hg3
            go_wp2
            go_roundw
            case rel =>
              refine ⟨m', done ++ [x % 256], by omega, rfl, HR3.out, Hb3.out, HC3.out, Lib.hid ?_⟩
              rw [List.append_assoc, List.singleton_append, Hx.out]
              exact Hd.out
            case measure => simp [intOf]
    · have hk' : k = l.length := by omega
      have Hfin : Hid (res = strOfNums (putAll size (l.take k))) := Lib.hid (by
        have ha := Hall.out
        rw [hk', List.take_length] at ha ⊢
        rw [Hres.out, ha]
        rfl)
      obtain ⟨fin, hfin⟩ : ∃ d, d = putAll size (l.take k) := ⟨_, rfl⟩
      rw [← hfin] at hR Hfin
      have hcv := own_string (P := Tryd.prog) Tryd.underlying69 Tryd.underlying5 Tryd.underlying9 (Kd.own_of_R hR)
      have HR := Lib.hid hR
      clear hR hfin
      go_wp2
      go_ret
      exact ⟨by rw [Hfin.out]; rfl, hbw⟩

/-- What nums.Put gives. -/
def nums_Put.f (size : Int) (l : List Int) : Option ByteArray :=
  if 1 ≤ size ∧ size ≤ 8 ∧ l.length ≤ 1000000 then some (if l.all (fitsB size) then strOfNums (putAll size l) else ⟨#[]⟩) else none
theorem nums_Put.calls (a0 : Int) (A1 : Option Addr) (c1 : Nat) (l1 : List Int) (r : ByteArray) (w : World) (hr1 : Kd.C (Kd.int .i64) w A1 l1.length l1) (hc1 : l1.length ≤ c1) (h : nums_Put.f a0 l1 = some r) :
    Calls Tryd.prog 39 #[.int .i64 a0, .slice A1 l1.length c1] w fun e w' => e = .returned (.string r) ∧ Below w.heap.size w w' := by
  unfold nums_Put.f at h
  split at h
  · rename_i hh
    obtain rfl := Option.some.inj h
    exact put_any a0 A1 c1 l1 w hh.1 hh.2.1 hr1 hh.2.2
  · cases h
end Go.Proofs.YtlicobfjeajcfaaDoor
