/-
  The library's contracts on slices.Sorted at what maps.Keys hands back (keys of the kind int), laid at this translation (plain form).
-/
import Derived.Shelf.SlIterI.Nil
import Derived.Shelf.SlIterI.Sorted
import Derived.Shelf.SortM.Plain
import Derived.Shelf.SortM.SortNone
import Derived.Test.YtncdnenkjfighaaGreatEvE
import Derived.Test.YtncdnenkjfighaaGreatProg
namespace Go.Proofs.YtncdnenkjfighaaGreat
open Go.RowKit Go.Maps Go.Sort Go.Shelf Go.Ek Go.Proofs
set_option linter.unusedVariables false
set_option linter.unusedSimpArgs false
def Tryz.keys23_ren : Go.Shelf.Ren := ⟨fun | 7 => 23 | 10 => 38 | n => n, fun | 23 => 75 | 26 => 3 | 3 => 48 | 28 => 88 | 0 => 0 | 27 => 87 | 33 => 105 | 4 => 4 | n => n, fun | n => n⟩
theorem Tryz.keys23 : SlLaysZI.n7 Tryz.prog Tryz.keys23_ren := {
  mixed := by kernel_rfl
  f7 := ⟨Tryz.f23.name, by kernel_rfl, Tryz.func23.trans (congrArg some (by kernel_rfl))⟩
  f10 := ⟨Tryz.f38.name, by kernel_rfl, Tryz.func38.trans (congrArg some (by kernel_rfl))⟩
  t0 := Tryz.underlying0
  a0 := Tryz.isAgg0
  z0 := Tryz.sizeOf0
  v0 := Tryz.zeroValue0
  t4 := Tryz.underlying4
  a4 := Tryz.isAgg4
  z4 := Tryz.sizeOf4
  v4 := Tryz.zeroValue4
  t23 := Tryz.underlying75
  a23 := Tryz.isAgg75
  z23 := Tryz.sizeOf75
  v23 := Tryz.zeroValue75
  t26 := Tryz.underlying3
  a26 := Tryz.isAgg3
  z26 := Tryz.sizeOf3
  v26 := Tryz.zeroValue3
  t27 := Tryz.underlying87
  a27 := Tryz.isAgg87
  z27 := Tryz.sizeOf87
  v27 := Tryz.zeroValue87
  t28 := Tryz.underlying88
  a28 := Tryz.isAgg88
  z28 := Tryz.sizeOf88
  v28 := Tryz.zeroValue88
  t33 := Tryz.underlying105
  a33 := Tryz.isAgg105
  z33 := Tryz.sizeOf105
  v33 := Tryz.zeroValue105 }
def Tryz.sorted22_ren : Go.Shelf.Ren := ⟨fun | 6 => 22 | 8 => 36 | 9 => 37 | 11 => 52 | 13 => 51 | 12 => 53 | 23 => 76 | 24 => 77 | 14 => 78 | 15 => 79 | 16 => 80 | 17 => 81 | 18 => 82 | 19 => 83 | 20 => 84 | 21 => 85 | 22 => 86 | 25 => 102 | 26 => 97 | 27 => 98 | 28 => 103 | 29 => 104 | 30 => 59 | 31 => 111 | n => n, fun | 26 => 3 | 28 => 88 | 24 => 44 | 0 => 0 | 3 => 3 | 37 => 132 | 48 => 154 | 50 => 156 | 4 => 4 | 40 => 146 | 39 => 145 | 45 => 151 | 5 => 5 | 9 => 9 | 51 => 172 | 55 => 176 | 57 => 184 | 58 => 39 | 33 => 105 | n => n, fun | n => n⟩
theorem Tryz.sorted22 : SlLaysZI.n6 Tryz.prog Tryz.sorted22_ren := {
  mixed := by kernel_rfl
  f6 := ⟨Tryz.f22.name, by kernel_rfl, Tryz.func22.trans (congrArg some (by kernel_rfl))⟩
  f8 := ⟨Tryz.f36.name, by kernel_rfl, Tryz.func36.trans (congrArg some (by kernel_rfl))⟩
  f11 := ⟨Tryz.f52.name, by kernel_rfl, Tryz.func52.trans (congrArg some (by kernel_rfl))⟩
  t0 := Tryz.underlying0
  a0 := Tryz.isAgg0
  z0 := Tryz.sizeOf0
  v0 := Tryz.zeroValue0
  t24 := Tryz.underlying44
  a24 := Tryz.isAgg44
  z24 := Tryz.sizeOf44
  v24 := Tryz.zeroValue44
  t26 := Tryz.underlying3
  a26 := Tryz.isAgg3
  z26 := Tryz.sizeOf3
  v26 := Tryz.zeroValue3
  t28 := Tryz.underlying88
  a28 := Tryz.isAgg88
  z28 := Tryz.sizeOf88
  v28 := Tryz.zeroValue88
  i26 := by kernel_rfl }
def Tryz.sort37_ren : Go.Shelf.Ren := ⟨fun | 5 => 37 | 8 => 51 | 7 => 53 | 19 => 76 | 20 => 77 | 10 => 78 | 11 => 79 | 12 => 80 | 13 => 81 | 14 => 82 | 15 => 83 | 16 => 84 | 17 => 85 | 18 => 86 | 30 => 102 | 31 => 97 | 32 => 98 | 33 => 103 | 34 => 104 | 35 => 59 | 40 => 111 | n => n, fun | 23 => 44 | 25 => 3 | 3 => 3 | 32 => 132 | 22 => 44 | 0 => 0 | 44 => 154 | 46 => 156 | 4 => 4 | 36 => 146 | 35 => 145 | 41 => 151 | 5 => 5 | 9 => 9 | 53 => 172 | 57 => 176 | 63 => 184 | 64 => 39 | n => n, fun | n => n⟩
theorem Tryz.sort37 : SlLaysM.n5 Tryz.prog Tryz.sort37_ren := {
  mixed := by kernel_rfl
  f5 := ⟨Tryz.f37.name, by kernel_rfl, Tryz.func37.trans (congrArg some (by kernel_rfl))⟩
  f7 := ⟨Tryz.f53.name, by kernel_rfl, Tryz.func53.trans (congrArg some (by kernel_rfl))⟩
  f8 := Tryz.func51.trans (congrArg some (by kernel_rfl))
  f10 := ⟨Tryz.f78.name, by kernel_rfl, Tryz.func78.trans (congrArg some (by kernel_rfl))⟩
  f11 := ⟨Tryz.f79.name, by kernel_rfl, Tryz.func79.trans (congrArg some (by kernel_rfl))⟩
  f12 := ⟨Tryz.f80.name, by kernel_rfl, Tryz.func80.trans (congrArg some (by kernel_rfl))⟩
  f13 := ⟨Tryz.f81.name, by kernel_rfl, Tryz.func81.trans (congrArg some (by kernel_rfl))⟩
  f14 := ⟨Tryz.f82.name, by kernel_rfl, Tryz.func82.trans (congrArg some (by kernel_rfl))⟩
  f15 := ⟨Tryz.f83.name, by kernel_rfl, Tryz.func83.trans (congrArg some (by kernel_rfl))⟩
  f16 := ⟨Tryz.f84.name, by kernel_rfl, Tryz.func84.trans (congrArg some (by kernel_rfl))⟩
  f17 := ⟨Tryz.f85.name, by kernel_rfl, Tryz.func85.trans (congrArg some (by kernel_rfl))⟩
  f18 := ⟨Tryz.f86.name, by kernel_rfl, Tryz.func86.trans (congrArg some (by kernel_rfl))⟩
  f19 := Tryz.func76.trans (congrArg some (by kernel_rfl))
  f20 := Tryz.func77.trans (congrArg some (by kernel_rfl))
  f30 := ⟨Tryz.f102.name, by kernel_rfl, Tryz.func102.trans (congrArg some (by kernel_rfl))⟩
  f31 := Tryz.func97.trans (congrArg some (by kernel_rfl))
  f32 := Tryz.func98.trans (congrArg some (by kernel_rfl))
  f33 := ⟨Tryz.f103.name, by kernel_rfl, Tryz.func103.trans (congrArg some (by kernel_rfl))⟩
  f34 := ⟨Tryz.f104.name, by kernel_rfl, Tryz.func104.trans (congrArg some (by kernel_rfl))⟩
  f35 := ⟨Tryz.f59.name, by kernel_rfl, Tryz.func59.trans (congrArg some (by kernel_rfl))⟩
  f40 := ⟨Tryz.f111.name, by kernel_rfl, Tryz.func111.trans (congrArg some (by kernel_rfl))⟩
  t0 := Tryz.underlying0
  a0 := Tryz.isAgg0
  z0 := Tryz.sizeOf0
  v0 := Tryz.zeroValue0
  t3 := Tryz.underlying3
  a3 := Tryz.isAgg3
  z3 := Tryz.sizeOf3
  v3 := Tryz.zeroValue3
  t4 := Tryz.underlying4
  a4 := Tryz.isAgg4
  z4 := Tryz.sizeOf4
  v4 := Tryz.zeroValue4
  t5 := Tryz.underlying5
  a5 := Tryz.isAgg5
  z5 := Tryz.sizeOf5
  v5 := Tryz.zeroValue5
  t9 := Tryz.underlying9
  a9 := Tryz.isAgg9
  z9 := Tryz.sizeOf9
  v9 := Tryz.zeroValue9
  t22 := Tryz.underlying44
  a22 := Tryz.isAgg44
  z22 := Tryz.sizeOf44
  v22 := Tryz.zeroValue44
  t23 := Tryz.underlying44
  a23 := Tryz.isAgg44
  z23 := Tryz.sizeOf44
  v23 := Tryz.zeroValue44
  t25 := Tryz.underlying3
  a25 := Tryz.isAgg3
  z25 := Tryz.sizeOf3
  v25 := Tryz.zeroValue3
  t32 := Tryz.underlying132
  a32 := Tryz.isAgg132
  z32 := Tryz.sizeOf132
  v32 := Tryz.zeroValue132
  t35 := Tryz.underlying145
  a35 := Tryz.isAgg145
  z35 := Tryz.sizeOf145
  v35 := Tryz.zeroValue145
  t36 := Tryz.underlying146
  a36 := Tryz.isAgg146
  z36 := Tryz.sizeOf146
  v36 := Tryz.zeroValue146
  t41 := Tryz.underlying151
  a41 := Tryz.isAgg151
  z41 := Tryz.sizeOf151
  v41 := Tryz.zeroValue151
  t44 := Tryz.underlying154
  a44 := Tryz.isAgg154
  z44 := Tryz.sizeOf154
  v44 := Tryz.zeroValue154
  t46 := Tryz.underlying156
  a46 := Tryz.isAgg156
  z46 := Tryz.sizeOf156
  v46 := Tryz.zeroValue156
  t53 := Tryz.underlying172
  a53 := Tryz.isAgg172
  z53 := Tryz.sizeOf172
  v53 := Tryz.zeroValue172
  t57 := Tryz.underlying176
  a57 := Tryz.isAgg176
  z57 := Tryz.sizeOf176
  v57 := Tryz.zeroValue176
  t63 := Tryz.underlying184
  a63 := Tryz.isAgg184
  z63 := Tryz.sizeOf184
  v63 := Tryz.zeroValue184
  t64 := Tryz.underlying39
  a64 := Tryz.isAgg39
  z64 := Tryz.sizeOf39
  v64 := Tryz.zeroValue39 }
theorem Tryz.sorts22 (m : Nat) : AnyZI.SortsIn Tryz.prog Tryz.sorted22_ren Fence.wide m :=
  ⟨fun blk off cap ss W hH hblk hsz => callsIn_wide.2 (AnyM.slices_Sort_int Tryz.sort37 blk off cap ss W hH hblk hsz),
   fun p cap W => callsIn_wide.2 (AnyM.slices_Sort_int_none Tryz.sort37 p cap W)⟩
set_option maxHeartbeats 1000000 in
theorem Tryz.sorted_22_38 : SortsAt Tryz.prog 22 38 3 (Value.int .i64) (fun x y => decide (x ≤ y)) (fun x => (Lit.int .i64 x).wf = true) := by
  intro W c mb xs hc hcs hcase
  refine (callsIn_wide (n := 5)).1 ?_
  rcases hcase with ⟨rfl, rfl⟩ | ⟨b, es, clock, rfl, hb, hst, hsz, hk, hwf⟩
  · have hseq : SeqGives Fence.wide 2 Tryz.prog 38 #[.pointer (some ⟨c, 0, none⟩)] encZ (fun ss : List Int => ss = []) 0 W :=
      AnyZI.keys_gives_nil (ρ := Tryz.keys23_ren) { Tryz.keys23 with } Fence.wide _ trivial rfl c W hcs hc
    have cS := AnyZI.sorted_in Tryz.sorted22 Fence.wide 5 trivial trivial trivial trivial rfl (by omega) (Tryz.sorts22 _) (enters_of Tryz.func37 (by kernel_rfl) rfl) 38 #[.pointer (some ⟨c, 0, none⟩)] trivial (enters_of Tryz.func38 (by kernel_rfl) rfl) _ 0 (Nat.zero_le _) (by omega) W hseq
    change CallsIn _ _ Tryz.prog 22 _ _ _ at cS
    refine cS.mono ?_
    rintro e w' ⟨v, ss, rfl, hS, hrow, hnil, hbel⟩
    exact ⟨v, ss, rfl, by rw [hS], hrow, hnil, hbel⟩
  · obtain ⟨D0, d1, d2, d3⟩ := ownsI (kt := 3) Tryz.underlying3 hb hst hsz hk hwf
    have hseq : SeqGives Fence.wide 2 Tryz.prog 38 #[.pointer (some ⟨c, 0, none⟩)] encZ (fun ss => ss.Perm (intKeys D0)) (Maps.size D0) W :=
      AnyZI.keys_gives (ρ := Tryz.keys23_ren) { Tryz.keys23 with } Fence.wide _ trivial rfl (by omega) c b _ D0 W hcs hc d1
    have cS := AnyZI.sorted_in Tryz.sorted22 Fence.wide 5 trivial trivial trivial trivial rfl (by omega) (Tryz.sorts22 _) (enters_of Tryz.func37 (by kernel_rfl) rfl) 38 #[.pointer (some ⟨c, 0, none⟩)] trivial (enters_of Tryz.func38 (by kernel_rfl) rfl) _ _ (Nat.le_trans d2 (by decide)) (by omega) W hseq
    change CallsIn _ _ Tryz.prog 22 _ _ _ at cS
    refine cS.mono ?_
    rintro e w' ⟨v, ss, rfl, hS, hrow, hnil, hbel⟩
    exact ⟨v, ss, rfl, hS.trans d3, hrow, hnil, hbel⟩
-- SORTED 22 3 38
theorem Tryz.sorted_22 (g : Nat) (h : (Nat.beq g 38) = true) : SortsAt Tryz.prog 22 g 3 (Value.int .i64) (fun x y => decide (x ≤ y)) (fun x => (Lit.int .i64 x).wf = true) := by
  simp only [Bool.or_eq_true, Nat.beq_eq] at h
  subst h
  · exact Tryz.sorted_22_38
end Go.Proofs.YtncdnenkjfighaaGreat
