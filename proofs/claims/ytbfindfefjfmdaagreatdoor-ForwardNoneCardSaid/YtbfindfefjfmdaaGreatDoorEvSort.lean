/-
  The library's contracts on slices.Sorted at what maps.Keys hands back, laid at this translation (plain form).
-/
import Derived.Shelf.SlIter.Nil
import Derived.Shelf.SlIter.Sorted
import Derived.Shelf.SlIterI.Nil
import Derived.Shelf.SlIterI.Sorted
import Derived.Shelf.SortM.Plain
import Derived.Shelf.SortM.SortNone
import Derived.Test.YtbfindfefjfmdaaGreatDoorEvE
import Derived.Test.YtbfindfefjfmdaaGreatDoorProg
namespace Go.Proofs.YtbfindfefjfmdaaGreatDoor
open Go.RowKit Go.Maps Go.Sort Go.Shelf Go.Ek Go.Proofs
set_option linter.unusedVariables false
set_option linter.unusedSimpArgs false
def Tryz.keys180_ren : Go.Shelf.Ren := ⟨fun | 7 => 180 | 10 => 229 | n => n, fun | 23 => 138 | 26 => 3 | 3 => 137 | 28 => 255 | 0 => 0 | 27 => 254 | 33 => 258 | 4 => 4 | n => n, fun | n => n⟩
theorem Tryz.keys180 : SlLaysZI.n7 Tryz.prog Tryz.keys180_ren := {
  mixed := by kernel_rfl
  f7 := ⟨Tryz.f180.name, by kernel_rfl, Tryz.func180.trans (congrArg some (by kernel_rfl))⟩
  f10 := ⟨Tryz.f229.name, by kernel_rfl, Tryz.func229.trans (congrArg some (by kernel_rfl))⟩
  t0 := Tryz.underlying0
  a0 := Tryz.isAgg0
  z0 := Tryz.sizeOf0
  v0 := Tryz.zeroValue0
  t4 := Tryz.underlying4
  a4 := Tryz.isAgg4
  z4 := Tryz.sizeOf4
  v4 := Tryz.zeroValue4
  t23 := Tryz.underlying138
  a23 := Tryz.isAgg138
  z23 := Tryz.sizeOf138
  v23 := Tryz.zeroValue138
  t26 := Tryz.underlying3
  a26 := Tryz.isAgg3
  z26 := Tryz.sizeOf3
  v26 := Tryz.zeroValue3
  t27 := Tryz.underlying254
  a27 := Tryz.isAgg254
  z27 := Tryz.sizeOf254
  v27 := Tryz.zeroValue254
  t28 := Tryz.underlying255
  a28 := Tryz.isAgg255
  z28 := Tryz.sizeOf255
  v28 := Tryz.zeroValue255
  t33 := Tryz.underlying258
  a33 := Tryz.isAgg258
  z33 := Tryz.sizeOf258
  v33 := Tryz.zeroValue258 }
def Tryz.keys222_ren : Go.Shelf.Ren := ⟨fun | 7 => 222 | 10 => 257 | n => n, fun | 23 => 218 | 26 => 3 | 3 => 9 | 28 => 255 | 0 => 0 | 27 => 254 | 33 => 258 | 4 => 4 | n => n, fun | n => n⟩
theorem Tryz.keys222 : SlLaysZI.n7 Tryz.prog Tryz.keys222_ren := {
  mixed := by kernel_rfl
  f7 := ⟨Tryz.f222.name, by kernel_rfl, Tryz.func222.trans (congrArg some (by kernel_rfl))⟩
  f10 := ⟨Tryz.f257.name, by kernel_rfl, Tryz.func257.trans (congrArg some (by kernel_rfl))⟩
  t0 := Tryz.underlying0
  a0 := Tryz.isAgg0
  z0 := Tryz.sizeOf0
  v0 := Tryz.zeroValue0
  t4 := Tryz.underlying4
  a4 := Tryz.isAgg4
  z4 := Tryz.sizeOf4
  v4 := Tryz.zeroValue4
  t23 := Tryz.underlying218
  a23 := Tryz.isAgg218
  z23 := Tryz.sizeOf218
  v23 := Tryz.zeroValue218
  t26 := Tryz.underlying3
  a26 := Tryz.isAgg3
  z26 := Tryz.sizeOf3
  v26 := Tryz.zeroValue3
  t27 := Tryz.underlying254
  a27 := Tryz.isAgg254
  z27 := Tryz.sizeOf254
  v27 := Tryz.zeroValue254
  t28 := Tryz.underlying255
  a28 := Tryz.isAgg255
  z28 := Tryz.sizeOf255
  v28 := Tryz.zeroValue255
  t33 := Tryz.underlying258
  a33 := Tryz.isAgg258
  z33 := Tryz.sizeOf258
  v33 := Tryz.zeroValue258 }
def Tryz.keys266_ren : Go.Shelf.Ren := ⟨fun | 7 => 266 | 10 => 295 | n => n, fun | 23 => 284 | 26 => 3 | 3 => 283 | 28 => 255 | 0 => 0 | 27 => 254 | 33 => 258 | 4 => 4 | n => n, fun | n => n⟩
theorem Tryz.keys266 : SlLaysZI.n7 Tryz.prog Tryz.keys266_ren := {
  mixed := by kernel_rfl
  f7 := ⟨Tryz.f266.name, by kernel_rfl, Tryz.func266.trans (congrArg some (by kernel_rfl))⟩
  f10 := ⟨Tryz.f295.name, by kernel_rfl, Tryz.func295.trans (congrArg some (by kernel_rfl))⟩
  t0 := Tryz.underlying0
  a0 := Tryz.isAgg0
  z0 := Tryz.sizeOf0
  v0 := Tryz.zeroValue0
  t4 := Tryz.underlying4
  a4 := Tryz.isAgg4
  z4 := Tryz.sizeOf4
  v4 := Tryz.zeroValue4
  t23 := Tryz.underlying284
  a23 := Tryz.isAgg284
  z23 := Tryz.sizeOf284
  v23 := Tryz.zeroValue284
  t26 := Tryz.underlying3
  a26 := Tryz.isAgg3
  z26 := Tryz.sizeOf3
  v26 := Tryz.zeroValue3
  t27 := Tryz.underlying254
  a27 := Tryz.isAgg254
  z27 := Tryz.sizeOf254
  v27 := Tryz.zeroValue254
  t28 := Tryz.underlying255
  a28 := Tryz.isAgg255
  z28 := Tryz.sizeOf255
  v28 := Tryz.zeroValue255
  t33 := Tryz.underlying258
  a33 := Tryz.isAgg258
  z33 := Tryz.sizeOf258
  v33 := Tryz.zeroValue258 }
def Tryz.sorted179_ren : Go.Shelf.Ren := ⟨fun | 6 => 179 | 8 => 227 | 9 => 228 | 11 => 262 | 13 => 264 | 12 => 263 | 23 => 292 | 24 => 293 | 14 => 283 | 15 => 284 | 16 => 285 | 17 => 286 | 18 => 287 | 19 => 288 | 20 => 289 | 21 => 290 | 22 => 291 | 25 => 308 | 26 => 309 | 27 => 310 | 28 => 311 | 29 => 312 | 30 => 182 | 31 => 318 | n => n, fun | 26 => 3 | 28 => 255 | 24 => 60 | 0 => 0 | 3 => 3 | 37 => 291 | 48 => 319 | 50 => 322 | 4 => 4 | 40 => 360 | 39 => 359 | 45 => 120 | 5 => 5 | 9 => 9 | 51 => 376 | 55 => 380 | 57 => 387 | 58 => 388 | 33 => 258 | n => n, fun | n => n⟩
theorem Tryz.sorted179 : SlLaysZI.n6 Tryz.prog Tryz.sorted179_ren := {
  mixed := by kernel_rfl
  f6 := ⟨Tryz.f179.name, by kernel_rfl, Tryz.func179.trans (congrArg some (by kernel_rfl))⟩
  f8 := ⟨Tryz.f227.name, by kernel_rfl, Tryz.func227.trans (congrArg some (by kernel_rfl))⟩
  f11 := ⟨Tryz.f262.name, by kernel_rfl, Tryz.func262.trans (congrArg some (by kernel_rfl))⟩
  t0 := Tryz.underlying0
  a0 := Tryz.isAgg0
  z0 := Tryz.sizeOf0
  v0 := Tryz.zeroValue0
  t24 := Tryz.underlying60
  a24 := Tryz.isAgg60
  z24 := Tryz.sizeOf60
  v24 := Tryz.zeroValue60
  t26 := Tryz.underlying3
  a26 := Tryz.isAgg3
  z26 := Tryz.sizeOf3
  v26 := Tryz.zeroValue3
  t28 := Tryz.underlying255
  a28 := Tryz.isAgg255
  z28 := Tryz.sizeOf255
  v28 := Tryz.zeroValue255
  i26 := by kernel_rfl }
def Tryz.sort228_ren : Go.Shelf.Ren := ⟨fun | 5 => 228 | 8 => 264 | 7 => 263 | 19 => 292 | 20 => 293 | 10 => 283 | 11 => 284 | 12 => 285 | 13 => 286 | 14 => 287 | 15 => 288 | 16 => 289 | 17 => 290 | 18 => 291 | 30 => 308 | 31 => 309 | 32 => 310 | 33 => 311 | 34 => 312 | 35 => 182 | 40 => 318 | n => n, fun | 23 => 60 | 25 => 3 | 3 => 3 | 32 => 291 | 22 => 60 | 0 => 0 | 44 => 319 | 46 => 322 | 4 => 4 | 36 => 360 | 35 => 359 | 41 => 120 | 5 => 5 | 9 => 9 | 53 => 376 | 57 => 380 | 63 => 387 | 64 => 388 | n => n, fun | n => n⟩
theorem Tryz.sort228 : SlLaysM.n5 Tryz.prog Tryz.sort228_ren := {
  mixed := by kernel_rfl
  f5 := ⟨Tryz.f228.name, by kernel_rfl, Tryz.func228.trans (congrArg some (by kernel_rfl))⟩
  f7 := ⟨Tryz.f263.name, by kernel_rfl, Tryz.func263.trans (congrArg some (by kernel_rfl))⟩
  f8 := Tryz.func264.trans (congrArg some (by kernel_rfl))
  f10 := ⟨Tryz.f283.name, by kernel_rfl, Tryz.func283.trans (congrArg some (by kernel_rfl))⟩
  f11 := ⟨Tryz.f284.name, by kernel_rfl, Tryz.func284.trans (congrArg some (by kernel_rfl))⟩
  f12 := ⟨Tryz.f285.name, by kernel_rfl, Tryz.func285.trans (congrArg some (by kernel_rfl))⟩
  f13 := ⟨Tryz.f286.name, by kernel_rfl, Tryz.func286.trans (congrArg some (by kernel_rfl))⟩
  f14 := ⟨Tryz.f287.name, by kernel_rfl, Tryz.func287.trans (congrArg some (by kernel_rfl))⟩
  f15 := ⟨Tryz.f288.name, by kernel_rfl, Tryz.func288.trans (congrArg some (by kernel_rfl))⟩
  f16 := ⟨Tryz.f289.name, by kernel_rfl, Tryz.func289.trans (congrArg some (by kernel_rfl))⟩
  f17 := ⟨Tryz.f290.name, by kernel_rfl, Tryz.func290.trans (congrArg some (by kernel_rfl))⟩
  f18 := ⟨Tryz.f291.name, by kernel_rfl, Tryz.func291.trans (congrArg some (by kernel_rfl))⟩
  f19 := Tryz.func292.trans (congrArg some (by kernel_rfl))
  f20 := Tryz.func293.trans (congrArg some (by kernel_rfl))
  f30 := ⟨Tryz.f308.name, by kernel_rfl, Tryz.func308.trans (congrArg some (by kernel_rfl))⟩
  f31 := Tryz.func309.trans (congrArg some (by kernel_rfl))
  f32 := Tryz.func310.trans (congrArg some (by kernel_rfl))
  f33 := ⟨Tryz.f311.name, by kernel_rfl, Tryz.func311.trans (congrArg some (by kernel_rfl))⟩
  f34 := ⟨Tryz.f312.name, by kernel_rfl, Tryz.func312.trans (congrArg some (by kernel_rfl))⟩
  f35 := ⟨Tryz.f182.name, by kernel_rfl, Tryz.func182.trans (congrArg some (by kernel_rfl))⟩
  f40 := ⟨Tryz.f318.name, by kernel_rfl, Tryz.func318.trans (congrArg some (by kernel_rfl))⟩
  t0 := Tryz.underlying0
  a0 := Tryz.isAgg0
  z0 := Tryz.sizeOf0
  v0 := Tryz.zeroValue0
  t3 := Tryz.underlying3
  a3 := Tryz.isAgg3
  z3 := Tryz.sizeOf3
  v3 := Tryz.zeroValue3
  t4 := Tryz.underlying4
  a4 := Tryz.isAgg4
  z4 := Tryz.sizeOf4
  v4 := Tryz.zeroValue4
  t5 := Tryz.underlying5
  a5 := Tryz.isAgg5
  z5 := Tryz.sizeOf5
  v5 := Tryz.zeroValue5
  t9 := Tryz.underlying9
  a9 := Tryz.isAgg9
  z9 := Tryz.sizeOf9
  v9 := Tryz.zeroValue9
  t22 := Tryz.underlying60
  a22 := Tryz.isAgg60
  z22 := Tryz.sizeOf60
  v22 := Tryz.zeroValue60
  t23 := Tryz.underlying60
  a23 := Tryz.isAgg60
  z23 := Tryz.sizeOf60
  v23 := Tryz.zeroValue60
  t25 := Tryz.underlying3
  a25 := Tryz.isAgg3
  z25 := Tryz.sizeOf3
  v25 := Tryz.zeroValue3
  t32 := Tryz.underlying291
  a32 := Tryz.isAgg291
  z32 := Tryz.sizeOf291
  v32 := Tryz.zeroValue291
  t35 := Tryz.underlying359
  a35 := Tryz.isAgg359
  z35 := Tryz.sizeOf359
  v35 := Tryz.zeroValue359
  t36 := Tryz.underlying360
  a36 := Tryz.isAgg360
  z36 := Tryz.sizeOf360
  v36 := Tryz.zeroValue360
  t41 := Tryz.underlying120
  a41 := Tryz.isAgg120
  z41 := Tryz.sizeOf120
  v41 := Tryz.zeroValue120
  t44 := Tryz.underlying319
  a44 := Tryz.isAgg319
  z44 := Tryz.sizeOf319
  v44 := Tryz.zeroValue319
  t46 := Tryz.underlying322
  a46 := Tryz.isAgg322
  z46 := Tryz.sizeOf322
  v46 := Tryz.zeroValue322
  t53 := Tryz.underlying376
  a53 := Tryz.isAgg376
  z53 := Tryz.sizeOf376
  v53 := Tryz.zeroValue376
  t57 := Tryz.underlying380
  a57 := Tryz.isAgg380
  z57 := Tryz.sizeOf380
  v57 := Tryz.zeroValue380
  t63 := Tryz.underlying387
  a63 := Tryz.isAgg387
  z63 := Tryz.sizeOf387
  v63 := Tryz.zeroValue387
  t64 := Tryz.underlying388
  a64 := Tryz.isAgg388
  z64 := Tryz.sizeOf388
  v64 := Tryz.zeroValue388 }
theorem Tryz.sorts179 (m : Nat) : AnyZI.SortsIn Tryz.prog Tryz.sorted179_ren Fence.wide m :=
  ⟨fun blk off cap ss W hH hblk hsz => callsIn_wide.2 (AnyM.slices_Sort_int Tryz.sort228 blk off cap ss W hH hblk hsz),
   fun p cap W => callsIn_wide.2 (AnyM.slices_Sort_int_none Tryz.sort228 p cap W)⟩
set_option maxHeartbeats 1000000 in
theorem Tryz.sorted_179_229 : SortsAt Tryz.prog 179 229 3 (Value.int .i64) (fun x y => decide (x ≤ y)) (fun x => (Lit.int .i64 x).wf = true) := by
  intro W c mb xs hc hcs hcase
  refine (callsIn_wide (n := 5)).1 ?_
  rcases hcase with ⟨rfl, rfl⟩ | ⟨b, es, clock, rfl, hb, hst, hsz, hk, hwf⟩
  · have hseq : SeqGives Fence.wide 2 Tryz.prog 229 #[.pointer (some ⟨c, 0, none⟩)] encZ (fun ss : List Int => ss = []) 0 W :=
      AnyZI.keys_gives_nil (ρ := Tryz.keys180_ren) { Tryz.keys180 with } Fence.wide _ trivial rfl c W hcs hc
    have cS := AnyZI.sorted_in Tryz.sorted179 Fence.wide 5 trivial trivial trivial trivial rfl (by omega) (Tryz.sorts179 _) (enters_of Tryz.func228 (by kernel_rfl) rfl) 229 #[.pointer (some ⟨c, 0, none⟩)] trivial (enters_of Tryz.func229 (by kernel_rfl) rfl) _ 0 (Nat.zero_le _) (by omega) W hseq
    change CallsIn _ _ Tryz.prog 179 _ _ _ at cS
    refine cS.mono ?_
    rintro e w' ⟨v, ss, rfl, hS, hrow, hnil, hbel⟩
    exact ⟨v, ss, rfl, by rw [hS], hrow, hnil, hbel⟩
  · obtain ⟨D0, d1, d2, d3⟩ := ownsI (kt := 3) Tryz.underlying3 hb hst hsz hk hwf
    have hseq : SeqGives Fence.wide 2 Tryz.prog 229 #[.pointer (some ⟨c, 0, none⟩)] encZ (fun ss => ss.Perm (intKeys D0)) (Maps.size D0) W :=
      AnyZI.keys_gives (ρ := Tryz.keys180_ren) { Tryz.keys180 with } Fence.wide _ trivial rfl (by omega) c b _ D0 W hcs hc d1
    have cS := AnyZI.sorted_in Tryz.sorted179 Fence.wide 5 trivial trivial trivial trivial rfl (by omega) (Tryz.sorts179 _) (enters_of Tryz.func228 (by kernel_rfl) rfl) 229 #[.pointer (some ⟨c, 0, none⟩)] trivial (enters_of Tryz.func229 (by kernel_rfl) rfl) _ _ (Nat.le_trans d2 (by decide)) (by omega) W hseq
    change CallsIn _ _ Tryz.prog 179 _ _ _ at cS
    refine cS.mono ?_
    rintro e w' ⟨v, ss, rfl, hS, hrow, hnil, hbel⟩
    exact ⟨v, ss, rfl, hS.trans d3, hrow, hnil, hbel⟩
set_option maxHeartbeats 1000000 in
theorem Tryz.sorted_179_257 : SortsAt Tryz.prog 179 257 3 (Value.int .i64) (fun x y => decide (x ≤ y)) (fun x => (Lit.int .i64 x).wf = true) := by
  intro W c mb xs hc hcs hcase
  refine (callsIn_wide (n := 5)).1 ?_
  rcases hcase with ⟨rfl, rfl⟩ | ⟨b, es, clock, rfl, hb, hst, hsz, hk, hwf⟩
  · have hseq : SeqGives Fence.wide 2 Tryz.prog 257 #[.pointer (some ⟨c, 0, none⟩)] encZ (fun ss : List Int => ss = []) 0 W :=
      AnyZI.keys_gives_nil (ρ := Tryz.keys222_ren) { Tryz.keys222 with } Fence.wide _ trivial rfl c W hcs hc
    have cS := AnyZI.sorted_in Tryz.sorted179 Fence.wide 5 trivial trivial trivial trivial rfl (by omega) (Tryz.sorts179 _) (enters_of Tryz.func228 (by kernel_rfl) rfl) 257 #[.pointer (some ⟨c, 0, none⟩)] trivial (enters_of Tryz.func257 (by kernel_rfl) rfl) _ 0 (Nat.zero_le _) (by omega) W hseq
    change CallsIn _ _ Tryz.prog 179 _ _ _ at cS
    refine cS.mono ?_
    rintro e w' ⟨v, ss, rfl, hS, hrow, hnil, hbel⟩
    exact ⟨v, ss, rfl, by rw [hS], hrow, hnil, hbel⟩
  · obtain ⟨D0, d1, d2, d3⟩ := ownsI (kt := 3) Tryz.underlying3 hb hst hsz hk hwf
    have hseq : SeqGives Fence.wide 2 Tryz.prog 257 #[.pointer (some ⟨c, 0, none⟩)] encZ (fun ss => ss.Perm (intKeys D0)) (Maps.size D0) W :=
      AnyZI.keys_gives (ρ := Tryz.keys222_ren) { Tryz.keys222 with } Fence.wide _ trivial rfl (by omega) c b _ D0 W hcs hc d1
    have cS := AnyZI.sorted_in Tryz.sorted179 Fence.wide 5 trivial trivial trivial trivial rfl (by omega) (Tryz.sorts179 _) (enters_of Tryz.func228 (by kernel_rfl) rfl) 257 #[.pointer (some ⟨c, 0, none⟩)] trivial (enters_of Tryz.func257 (by kernel_rfl) rfl) _ _ (Nat.le_trans d2 (by decide)) (by omega) W hseq
    change CallsIn _ _ Tryz.prog 179 _ _ _ at cS
    refine cS.mono ?_
    rintro e w' ⟨v, ss, rfl, hS, hrow, hnil, hbel⟩
    exact ⟨v, ss, rfl, hS.trans d3, hrow, hnil, hbel⟩
set_option maxHeartbeats 1000000 in
theorem Tryz.sorted_179_295 : SortsAt Tryz.prog 179 295 3 (Value.int .i64) (fun x y => decide (x ≤ y)) (fun x => (Lit.int .i64 x).wf = true) := by
  intro W c mb xs hc hcs hcase
  refine (callsIn_wide (n := 5)).1 ?_
  rcases hcase with ⟨rfl, rfl⟩ | ⟨b, es, clock, rfl, hb, hst, hsz, hk, hwf⟩
  · have hseq : SeqGives Fence.wide 2 Tryz.prog 295 #[.pointer (some ⟨c, 0, none⟩)] encZ (fun ss : List Int => ss = []) 0 W :=
      AnyZI.keys_gives_nil (ρ := Tryz.keys266_ren) { Tryz.keys266 with } Fence.wide _ trivial rfl c W hcs hc
    have cS := AnyZI.sorted_in Tryz.sorted179 Fence.wide 5 trivial trivial trivial trivial rfl (by omega) (Tryz.sorts179 _) (enters_of Tryz.func228 (by kernel_rfl) rfl) 295 #[.pointer (some ⟨c, 0, none⟩)] trivial (enters_of Tryz.func295 (by kernel_rfl) rfl) _ 0 (Nat.zero_le _) (by omega) W hseq
    change CallsIn _ _ Tryz.prog 179 _ _ _ at cS
    refine cS.mono ?_
    rintro e w' ⟨v, ss, rfl, hS, hrow, hnil, hbel⟩
    exact ⟨v, ss, rfl, by rw [hS], hrow, hnil, hbel⟩
  · obtain ⟨D0, d1, d2, d3⟩ := ownsI (kt := 3) Tryz.underlying3 hb hst hsz hk hwf
    have hseq : SeqGives Fence.wide 2 Tryz.prog 295 #[.pointer (some ⟨c, 0, none⟩)] encZ (fun ss => ss.Perm (intKeys D0)) (Maps.size D0) W :=
      AnyZI.keys_gives (ρ := Tryz.keys266_ren) { Tryz.keys266 with } Fence.wide _ trivial rfl (by omega) c b _ D0 W hcs hc d1
    have cS := AnyZI.sorted_in Tryz.sorted179 Fence.wide 5 trivial trivial trivial trivial rfl (by omega) (Tryz.sorts179 _) (enters_of Tryz.func228 (by kernel_rfl) rfl) 295 #[.pointer (some ⟨c, 0, none⟩)] trivial (enters_of Tryz.func295 (by kernel_rfl) rfl) _ _ (Nat.le_trans d2 (by decide)) (by omega) W hseq
    change CallsIn _ _ Tryz.prog 179 _ _ _ at cS
    refine cS.mono ?_
    rintro e w' ⟨v, ss, rfl, hS, hrow, hnil, hbel⟩
    exact ⟨v, ss, rfl, hS.trans d3, hrow, hnil, hbel⟩
-- SORTED int 179 3 229,257,295
theorem Tryz.sorted_179 (g : Nat) (h : (Nat.beq g 229 || Nat.beq g 257 || Nat.beq g 295) = true) : SortsAt Tryz.prog 179 g 3 (Value.int .i64) (fun x y => decide (x ≤ y)) (fun x => (Lit.int .i64 x).wf = true) := by
  simp only [Bool.or_eq_true, Nat.beq_eq] at h
  rcases h with ((rfl | rfl) | rfl)
  · exact Tryz.sorted_179_229
  · exact Tryz.sorted_179_257
  · exact Tryz.sorted_179_295
end Go.Proofs.YtbfindfefjfmdaaGreatDoor
