/-
  The library's contracts on strings.Repeat and strings.trimRightByte, laid at this translation (plain form).
-/
import Derived.Shelf.Strings.Repeat
import Derived.Shelf.Strings.Trim
import Derived.Test.YtbfindfefjfmdaaGreatDoorEvE
import Derived.Test.YtbfindfefjfmdaaGreatDoorProg
namespace Go.Proofs.YtbfindfefjfmdaaGreatDoor
open Go.RowKit Go.Shelf Go.Ek Go.Proofs
set_option linter.unusedVariables false
set_option linter.unusedSimpArgs false
def Tryz.repeat_ren : Go.Shelf.Ren := ⟨fun | 105 => 210 | 212 => 209 | 99 => 251 | 165 => 190 | 166 => 191 | 170 => 252 | 169 => 192 | 263 => 249 | 264 => 250 | 206 => 275 | 240 => 233 | 241 => 234 | 276 => 267 | 277 => 268 | n => n, fun | 9 => 9 | 3 => 3 | 4 => 4 | 20 => 20 | 0 => 0 | 46 => 291 | 109 => 292 | 5 => 5 | 72 => 274 | 76 => 277 | 51 => 319 | 146 => 320 | 53 => 322 | 148 => 323 | 70 => 271 | 37 => 272 | 75 => 276 | 127 => 310 | 164 => 338 | 80 => 217 | n => n, fun | n => n⟩
theorem Tryz.repeat : Lays.n105 Tryz.prog Tryz.repeat_ren := {
  mixed := by kernel_rfl
  f99 := Tryz.func251.trans (congrArg some (by kernel_rfl))
  f105 := Tryz.func210.trans (congrArg some (by kernel_rfl))
  f165 := Tryz.func190.trans (congrArg some (by kernel_rfl))
  f166 := Tryz.func191.trans (congrArg some (by kernel_rfl))
  f169 := Tryz.func192.trans (congrArg some (by kernel_rfl))
  f170 := Tryz.func252.trans (congrArg some (by kernel_rfl))
  f206 := Tryz.func275.trans (congrArg some (by kernel_rfl))
  f212 := Tryz.func209.trans (congrArg some (by kernel_rfl))
  f240 := Tryz.func233.trans (congrArg some (by kernel_rfl))
  f241 := Tryz.func234.trans (congrArg some (by kernel_rfl))
  f263 := Tryz.func249.trans (congrArg some (by kernel_rfl))
  f264 := Tryz.func250.trans (congrArg some (by kernel_rfl))
  f276 := Tryz.func267.trans (congrArg some (by kernel_rfl))
  f277 := Tryz.func268.trans (congrArg some (by kernel_rfl))
  t0 := Tryz.underlying0
  a0 := Tryz.isAgg0
  z0 := Tryz.sizeOf0
  v0 := Tryz.zeroValue0
  t3 := Tryz.underlying3
  a3 := Tryz.isAgg3
  z3 := Tryz.sizeOf3
  v3 := Tryz.zeroValue3
  t4 := Tryz.underlying4
  a4 := Tryz.isAgg4
  z4 := Tryz.sizeOf4
  v4 := Tryz.zeroValue4
  t5 := Tryz.underlying5
  a5 := Tryz.isAgg5
  z5 := Tryz.sizeOf5
  v5 := Tryz.zeroValue5
  t9 := Tryz.underlying9
  a9 := Tryz.isAgg9
  z9 := Tryz.sizeOf9
  v9 := Tryz.zeroValue9
  t20 := Tryz.underlying20
  a20 := Tryz.isAgg20
  z20 := Tryz.sizeOf20
  v20 := Tryz.zeroValue20
  t37 := Tryz.underlying272
  a37 := Tryz.isAgg272
  z37 := Tryz.sizeOf272
  v37 := Tryz.zeroValue272
  t46 := Tryz.underlying291
  a46 := Tryz.isAgg291
  z46 := Tryz.sizeOf291
  v46 := Tryz.zeroValue291
  t51 := Tryz.underlying319
  a51 := Tryz.isAgg319
  z51 := Tryz.sizeOf319
  v51 := Tryz.zeroValue319
  t53 := Tryz.underlying322
  a53 := Tryz.isAgg322
  z53 := Tryz.sizeOf322
  v53 := Tryz.zeroValue322
  t70 := Tryz.underlying271
  a70 := Tryz.isAgg271
  z70 := Tryz.sizeOf271
  v70 := Tryz.zeroValue271
  t72 := Tryz.underlying274
  a72 := Tryz.isAgg274
  z72 := Tryz.sizeOf274
  v72 := Tryz.zeroValue274
  t75 := Tryz.underlying276
  a75 := Tryz.isAgg276
  z75 := Tryz.sizeOf276
  v75 := Tryz.zeroValue276
  t76 := Tryz.underlying277
  a76 := Tryz.isAgg277
  z76 := Tryz.sizeOf277
  v76 := Tryz.zeroValue277
  t109 := Tryz.underlying292
  a109 := Tryz.isAgg292
  z109 := Tryz.sizeOf292
  v109 := Tryz.zeroValue292
  t127 := Tryz.underlying310
  a127 := Tryz.isAgg310
  z127 := Tryz.sizeOf310
  v127 := Tryz.zeroValue310
  t146 := Tryz.underlying320
  a146 := Tryz.isAgg320
  z146 := Tryz.sizeOf320
  v146 := Tryz.zeroValue320
  t148 := Tryz.underlying323
  a148 := Tryz.isAgg323
  z148 := Tryz.sizeOf323
  v148 := Tryz.zeroValue323
  t164 := Tryz.underlying338
  a164 := Tryz.isAgg338
  z164 := Tryz.sizeOf338
  v164 := Tryz.zeroValue338 }
theorem Tryz.repeatX : Builder.Extra Tryz.prog Tryz.repeat_ren where
  sizeBuilder := by kernel_rfl
  liesBuilder := by kernel_rfl
  t5 := Tryz.repeat.t5
  a5 := Tryz.repeat.a5
  z5 := Tryz.repeat.z5
  v5 := Tryz.repeat.v5
  infoByte := by kernel_rfl
  cellsByte := by kernel_rfl
  sizeByte := by kernel_rfl
  neB5 := by decide
theorem Tryz.repeat_hook : HookAt Tryz.prog 210 hRepeat := hRepeat_ok Tryz.func210 (by kernel_rfl) (by kernel_rfl) fun s c W h1 h2 => Any.strings_Repeat Tryz.repeat Tryz.repeatX s c W h1 h2
-- LIB repeat 210
def Tryz.trim_ren : Go.Shelf.Ren := ⟨fun | 232 => 297 | n => n, fun | 9 => 9 | 5 => 5 | 3 => 3 | 4 => 4 | n => n, fun | n => n⟩
theorem Tryz.trim : Lays.n232 Tryz.prog Tryz.trim_ren := {
  mixed := by kernel_rfl
  f232 := Tryz.func297.trans (congrArg some (by kernel_rfl))
  t3 := Tryz.underlying3
  a3 := Tryz.isAgg3
  z3 := Tryz.sizeOf3
  v3 := Tryz.zeroValue3
  t4 := Tryz.underlying4
  a4 := Tryz.isAgg4
  z4 := Tryz.sizeOf4
  v4 := Tryz.zeroValue4
  t5 := Tryz.underlying5
  a5 := Tryz.isAgg5
  z5 := Tryz.sizeOf5
  v5 := Tryz.zeroValue5
  t9 := Tryz.underlying9
  a9 := Tryz.isAgg9
  z9 := Tryz.sizeOf9
  v9 := Tryz.zeroValue9 }
theorem Tryz.trim_hook : HookAt Tryz.prog 297 hTrimR := hTrimR_ok Tryz.func297 (by kernel_rfl) (by kernel_rfl) fun s c W h1 => Any.strings_trimRightByte Tryz.trim s c W h1
-- LIB trim 297
end Go.Proofs.YtbfindfefjfmdaaGreatDoor
