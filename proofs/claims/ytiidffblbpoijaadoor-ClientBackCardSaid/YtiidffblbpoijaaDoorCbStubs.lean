/-
  strings.Join, strings.Cut and strconv.Atoi, in the form that the print gives a function.
-/
import Derived.Test.YtiidffblbpoijaaDoorQ33x0
import Derived.Test.YtiidffblbpoijaaDoorCbShelf
import Derived.Test.YtiidffblbpoijaaDoorCbTabs
import Derived.WalkKit
namespace Go.Proofs.YtiidffblbpoijaaDoor
open Go.RowKit Go.Proofs.YtiidffblbpoijaaDoorW.PrintWords
set_option linter.unusedVariables false
def mk (l : List UInt8) : ByteArray := ⟨l.toArray⟩
def joinL (l : List ByteArray) (sep : ByteArray) : List UInt8 := Lib.join (l.map (·.data.toList)) sep.data.toList
def strings_Join.f (l : List ByteArray) (sep : ByteArray) : Option ByteArray := if l ≠ [] ∧ l.length ≤ 1000000 ∧ (joinL l sep).length ≤ 140737488355328 then some (mk (joinL l sep)) else none
theorem plain_of_cell {w : World} {ad : Addr} {v : Value} (h : w.cell? ad = some v) : ad = ⟨ad.block, ad.off, none⟩ ∧ ad.block < w.heap.size := by
  refine ⟨?_, World.block_lt_of_cell? _ _ h⟩
  obtain ⟨b, o, sp⟩ := ad
  cases sp with
  | none => rfl
  | some n =>
    unfold World.cell? at h
    split at h
    · simp at h
    · cases h
theorem strings_Join.calls (A0 : Option Addr) (c0 : Nat) (l0 : List ByteArray) (a1 : ByteArray) (r : ByteArray) (w : World) (hr0 : Kd.C Kd.string w A0 l0.length l0) (hc0 : l0.length ≤ c0) (h : strings_Join.f l0 a1 = some r) :
    Calls Tryd.prog 31 #[.slice A0 l0.length c0, .string a1] w fun e w' => e = .returned (.string r) ∧ Below w.heap.size w w' := by
  unfold strings_Join.f at h
  split at h
  · rename_i hh
    obtain ⟨hne, hl, hj⟩ := hh
    obtain rfl := Option.some.inj h
    have hpos : 0 < l0.length := List.length_pos_iff.2 hne
    obtain ⟨ad, rfl, h0⟩ := Kd.at_string hr0 0 (Int.le_refl _) (by omega)
    have hp := plain_of_cell h0
    have ha : ad.add (0 : Int).toNat = ad := rfl
    rw [ha] at hp
    obtain ⟨e, hlt⟩ := hp
    generalize ad.block = b at e hlt
    generalize ad.off = o at e
    subst e
    have H := Tryd.strings_Join b o c0 l0 a1 w (fun j x hj => by
      have hjl : j < l0.length := (List.getElem?_eq_some_iff.1 hj).1
      obtain ⟨ad', e', h'⟩ := Kd.at_string hr0 (j : Int) (by omega) (by omega)
      cases e'
      have hx : rdOf ByteArray.empty l0 (j : Int) = x := by
        unfold rdOf
        rw [Int.toNat_natCast, List.getD_eq_getElem?_getD, hj]
        rfl
      rw [hx, Int.toNat_natCast] at h'
      rwa [show ((⟨b, o + j, none⟩ : Addr)) = (⟨b, o, none⟩ : Addr).add j by unfold Addr.add; split <;> simp_all]) hlt (by omega) hc0 hj
    exact H
  · cases h
def cutL (s sep : ByteArray) : List UInt8 × List UInt8 × Bool := Lib.cut s.data.toList sep.data.toList
def strings_Cut.f (s sep : ByteArray) : Option (ByteArray × ByteArray × Bool) := if s.size < 4294967281 then some (mk (cutL s sep).1, mk (cutL s sep).2.1, (cutL s sep).2.2) else none
theorem strings_Cut.calls (a0 : ByteArray) (a1 : ByteArray) (r1 : ByteArray) (r2 : ByteArray) (r3 : Bool) (w : World) (h : strings_Cut.f a0 a1 = some (r1, r2, r3)) (ht : Tabs w) :
    Calls Tryd.prog 22 #[.string a0, .string a1] w fun e w' => e = .returned (.tuple #[.string r1, .string r2, .bool r3]) ∧ Below w.heap.size w w' := by
  unfold strings_Cut.f at h
  split at h
  · rename_i hh
    obtain ⟨m, hm⟩ := ht.maxLen
    simp only [Option.some.injEq, Prod.mk.injEq] at h
    obtain ⟨rfl, rfl, rfl⟩ := h
    refine (Tryd.strings_Cut a0 a1 m w hh hm).mono ?_
    rintro e w' ⟨rfl, n, rfl⟩
    exact ⟨rfl, pw_below_drewN (Below.refl _ _) n⟩
  · cases h
/-- The number that strconv.Atoi gives, beside an error too. -/
def atoiN (s : ByteArray) : Int := match Lib.atoiAll s.data.toList with | .ok v => v | .range => Lib.atoiSat s.data.toList | _ => 0
theorem below_bytes (w : World) (e : TypeId) (t : ByteArray) : Below w.heap.size w (Lib.bytesWorld w e t) := Lib.bytesWorld_below w e t
theorem atoi_any (s : ByteArray) (w : World) (hs : s.size ≤ 281474976710656) (ht : Tabs w) : Calls Tryd.prog 28 #[.string s] w fun e w' => ∃ ev, e = .returned (.tuple #[.int .i64 (atoiN s), ev]) ∧ Below w.heap.size w w' := by
  cases h : Lib.atoiAll s.data.toList with
  | ok v =>
    have e : atoiN s = v := by unfold atoiN; rw [h]
    rw [e]
    refine (Tryd.strconv_Atoi_ok s (by omega) v h w).mono ?_
    rintro e w' ⟨rfl, hw⟩
    refine ⟨_, rfl, ?_⟩
    rcases hw with rfl | ⟨t, rfl⟩
    · exact Below.refl _ _
    · exact below_bytes _ _ _
  | range =>
    have e : atoiN s = Lib.atoiSat s.data.toList := by unfold atoiN; rw [h]
    rw [e]
    obtain ⟨tp, p, hv⟩ := ht.rng
    refine (Tryd.strconv_Atoi_range_var s hs h tp p w hv).mono ?_
    rintro e w' ⟨N, rfl, _, _, hb⟩
    exact ⟨_, rfl, hb⟩
  | _ =>
    have e : atoiN s = 0 := by unfold atoiN; rw [h]
    rw [e]
    obtain ⟨tp, p, hv⟩ := ht.syn
    refine (Tryd.strconv_Atoi_syntax_var s hs h tp p w hv).mono ?_
    rintro e w' ⟨N, rfl, _, _, hb⟩
    exact ⟨_, rfl, hb⟩
end Go.Proofs.YtiidffblbpoijaaDoor
