-- Written by a program of this session (wip/bin/pick.py, out of a print); not trusted: Lean checks it.
import Derived.Test.YtiidffblbpoijaaDoorQ32x0
import Derived.Test.YtiidffblbpoijaaDoorQ32b0
import Derived.Test.YtiidffblbpoijaaDoorQ32a0
namespace Go.Proofs.YtiidffblbpoijaaDoor.Q32
open Go.RowKit Go.Proofs.YtiidffblbpoijaaDoorW.PrintWords Go.Proofs.YtiidffblbpoijaaDoorW.PrintLast Go.Proofs.YtiidffblbpoijaaDoorW.PrintMore
attribute [local go_sem] max2_int min2_int max_two min_two max_three min_three max_four min_four   -- for this text's walks alone
set_option linter.unusedVariables false
set_option linter.unusedSimpArgs false

/-! ### quadrigaref32_Text: function 7 -/
def quadrigaref32_Text.l0 : Nat → ByteArray → ByteArray → Int → Option (ByteArray)
  | 0, _, _, _ => none
  | k + 1, x0, x3, x4 => if x4 < (x0.size : Int) then (if 0 ≤ x4 then (if (bt x0 x4) ≥ 97 then (if (bt x0 x4) ≤ 122 then (if x4 ≤ (wrap64 (x4 + 1)) then (if (wrap64 (x4 + 1)) ≤ (x0.size : Int) then (if x3.size + (x0.extract (x4 : Int).toNat ((wrap64 (x4 + 1)) : Int).toNat).size ≤ 9223372036854775807 then (quadrigaref32_Text.l0 k x0 (x3 ++ (x0.extract (x4 : Int).toNat ((wrap64 (x4 + 1)) : Int).toNat)) (wrap64 (x4 + 1))) else (none)) else (none)) else (none)) else (if (bt x0 x4) ≥ 65 then (if (bt x0 x4) ≤ 90 then (if x4 ≤ (wrap64 (x4 + 1)) then (if (wrap64 (x4 + 1)) ≤ (x0.size : Int) then (if x3.size + (x0.extract (x4 : Int).toNat ((wrap64 (x4 + 1)) : Int).toNat).size ≤ 9223372036854775807 then (quadrigaref32_Text.l0 k x0 (x3 ++ (x0.extract (x4 : Int).toNat ((wrap64 (x4 + 1)) : Int).toNat)) (wrap64 (x4 + 1))) else (none)) else (none)) else (none)) else (if (bt x0 x4) ≥ 48 then (if (bt x0 x4) ≤ 57 then (if x4 ≤ (wrap64 (x4 + 1)) then (if (wrap64 (x4 + 1)) ≤ (x0.size : Int) then (if x3.size + (x0.extract (x4 : Int).toNat ((wrap64 (x4 + 1)) : Int).toNat).size ≤ 9223372036854775807 then (quadrigaref32_Text.l0 k x0 (x3 ++ (x0.extract (x4 : Int).toNat ((wrap64 (x4 + 1)) : Int).toNat)) (wrap64 (x4 + 1))) else (none)) else (none)) else (none)) else (if (bt x0 x4) = 46 then (if x4 ≤ (wrap64 (x4 + 1)) then (if (wrap64 (x4 + 1)) ≤ (x0.size : Int) then (if x3.size + (x0.extract (x4 : Int).toNat ((wrap64 (x4 + 1)) : Int).toNat).size ≤ 9223372036854775807 then (quadrigaref32_Text.l0 k x0 (x3 ++ (x0.extract (x4 : Int).toNat ((wrap64 (x4 + 1)) : Int).toNat)) (wrap64 (x4 + 1))) else (none)) else (none)) else (none)) else (if (bt x0 x4) = 95 then (if x4 ≤ (wrap64 (x4 + 1)) then (if (wrap64 (x4 + 1)) ≤ (x0.size : Int) then (if x3.size + (x0.extract (x4 : Int).toNat ((wrap64 (x4 + 1)) : Int).toNat).size ≤ 9223372036854775807 then (quadrigaref32_Text.l0 k x0 (x3 ++ (x0.extract (x4 : Int).toNat ((wrap64 (x4 + 1)) : Int).toNat)) (wrap64 (x4 + 1))) else (none)) else (none)) else (none)) else (if 0 ≤ ((Int.tdiv (bt x0 x4) 16) % 256) then (if ((Int.tdiv (bt x0 x4) 16) % 256) < 16 then (if 0 ≤ (Int.tmod (bt x0 x4) 16) then (if (Int.tmod (bt x0 x4) 16) < 16 then ((some (([37, bt (⟨#[48, 49, 50, 51, 52, 53, 54, 55, 56, 57, 65, 66, 67, 68, 69, 70]⟩ : ByteArray) ((Int.tdiv (bt x0 x4) 16) % 256), bt (⟨#[48, 49, 50, 51, 52, 53, 54, 55, 56, 57, 65, 66, 67, 68, 69, 70]⟩ : ByteArray) (Int.tmod (bt x0 x4) 16)] : List Int) : List Int)).bind fun y175 => (if x3.size + (strOfNums y175).size ≤ 9223372036854775807 then (quadrigaref32_Text.l0 k x0 (x3 ++ (strOfNums y175)) (wrap64 (x4 + 1))) else (none))) else (none)) else (none)) else (none)) else (none))))) else (if (bt x0 x4) = 46 then (if x4 ≤ (wrap64 (x4 + 1)) then (if (wrap64 (x4 + 1)) ≤ (x0.size : Int) then (if x3.size + (x0.extract (x4 : Int).toNat ((wrap64 (x4 + 1)) : Int).toNat).size ≤ 9223372036854775807 then (quadrigaref32_Text.l0 k x0 (x3 ++ (x0.extract (x4 : Int).toNat ((wrap64 (x4 + 1)) : Int).toNat)) (wrap64 (x4 + 1))) else (none)) else (none)) else (none)) else (if (bt x0 x4) = 95 then (if x4 ≤ (wrap64 (x4 + 1)) then (if (wrap64 (x4 + 1)) ≤ (x0.size : Int) then (if x3.size + (x0.extract (x4 : Int).toNat ((wrap64 (x4 + 1)) : Int).toNat).size ≤ 9223372036854775807 then (quadrigaref32_Text.l0 k x0 (x3 ++ (x0.extract (x4 : Int).toNat ((wrap64 (x4 + 1)) : Int).toNat)) (wrap64 (x4 + 1))) else (none)) else (none)) else (none)) else (if 0 ≤ ((Int.tdiv (bt x0 x4) 16) % 256) then (if ((Int.tdiv (bt x0 x4) 16) % 256) < 16 then (if 0 ≤ (Int.tmod (bt x0 x4) 16) then (if (Int.tmod (bt x0 x4) 16) < 16 then ((some (([37, bt (⟨#[48, 49, 50, 51, 52, 53, 54, 55, 56, 57, 65, 66, 67, 68, 69, 70]⟩ : ByteArray) ((Int.tdiv (bt x0 x4) 16) % 256), bt (⟨#[48, 49, 50, 51, 52, 53, 54, 55, 56, 57, 65, 66, 67, 68, 69, 70]⟩ : ByteArray) (Int.tmod (bt x0 x4) 16)] : List Int) : List Int)).bind fun y178 => (if x3.size + (strOfNums y178).size ≤ 9223372036854775807 then (quadrigaref32_Text.l0 k x0 (x3 ++ (strOfNums y178)) (wrap64 (x4 + 1))) else (none))) else (none)) else (none)) else (none)) else (none)))))) else (if (bt x0 x4) ≥ 48 then (if (bt x0 x4) ≤ 57 then (if x4 ≤ (wrap64 (x4 + 1)) then (if (wrap64 (x4 + 1)) ≤ (x0.size : Int) then (if x3.size + (x0.extract (x4 : Int).toNat ((wrap64 (x4 + 1)) : Int).toNat).size ≤ 9223372036854775807 then (quadrigaref32_Text.l0 k x0 (x3 ++ (x0.extract (x4 : Int).toNat ((wrap64 (x4 + 1)) : Int).toNat)) (wrap64 (x4 + 1))) else (none)) else (none)) else (none)) else (if (bt x0 x4) = 46 then (if x4 ≤ (wrap64 (x4 + 1)) then (if (wrap64 (x4 + 1)) ≤ (x0.size : Int) then (if x3.size + (x0.extract (x4 : Int).toNat ((wrap64 (x4 + 1)) : Int).toNat).size ≤ 9223372036854775807 then (quadrigaref32_Text.l0 k x0 (x3 ++ (x0.extract (x4 : Int).toNat ((wrap64 (x4 + 1)) : Int).toNat)) (wrap64 (x4 + 1))) else (none)) else (none)) else (none)) else (if (bt x0 x4) = 95 then (if x4 ≤ (wrap64 (x4 + 1)) then (if (wrap64 (x4 + 1)) ≤ (x0.size : Int) then (if x3.size + (x0.extract (x4 : Int).toNat ((wrap64 (x4 + 1)) : Int).toNat).size ≤ 9223372036854775807 then (quadrigaref32_Text.l0 k x0 (x3 ++ (x0.extract (x4 : Int).toNat ((wrap64 (x4 + 1)) : Int).toNat)) (wrap64 (x4 + 1))) else (none)) else (none)) else (none)) else (if 0 ≤ ((Int.tdiv (bt x0 x4) 16) % 256) then (if ((Int.tdiv (bt x0 x4) 16) % 256) < 16 then (if 0 ≤ (Int.tmod (bt x0 x4) 16) then (if (Int.tmod (bt x0 x4) 16) < 16 then ((some (([37, bt (⟨#[48, 49, 50, 51, 52, 53, 54, 55, 56, 57, 65, 66, 67, 68, 69, 70]⟩ : ByteArray) ((Int.tdiv (bt x0 x4) 16) % 256), bt (⟨#[48, 49, 50, 51, 52, 53, 54, 55, 56, 57, 65, 66, 67, 68, 69, 70]⟩ : ByteArray) (Int.tmod (bt x0 x4) 16)] : List Int) : List Int)).bind fun y181 => (if x3.size + (strOfNums y181).size ≤ 9223372036854775807 then (quadrigaref32_Text.l0 k x0 (x3 ++ (strOfNums y181)) (wrap64 (x4 + 1))) else (none))) else (none)) else (none)) else (none)) else (none))))) else (if (bt x0 x4) = 46 then (if x4 ≤ (wrap64 (x4 + 1)) then (if (wrap64 (x4 + 1)) ≤ (x0.size : Int) then (if x3.size + (x0.extract (x4 : Int).toNat ((wrap64 (x4 + 1)) : Int).toNat).size ≤ 9223372036854775807 then (quadrigaref32_Text.l0 k x0 (x3 ++ (x0.extract (x4 : Int).toNat ((wrap64 (x4 + 1)) : Int).toNat)) (wrap64 (x4 + 1))) else (none)) else (none)) else (none)) else (if (bt x0 x4) = 95 then (if x4 ≤ (wrap64 (x4 + 1)) then (if (wrap64 (x4 + 1)) ≤ (x0.size : Int) then (if x3.size + (x0.extract (x4 : Int).toNat ((wrap64 (x4 + 1)) : Int).toNat).size ≤ 9223372036854775807 then (quadrigaref32_Text.l0 k x0 (x3 ++ (x0.extract (x4 : Int).toNat ((wrap64 (x4 + 1)) : Int).toNat)) (wrap64 (x4 + 1))) else (none)) else (none)) else (none)) else (if 0 ≤ ((Int.tdiv (bt x0 x4) 16) % 256) then (if ((Int.tdiv (bt x0 x4) 16) % 256) < 16 then (if 0 ≤ (Int.tmod (bt x0 x4) 16) then (if (Int.tmod (bt x0 x4) 16) < 16 then ((some (([37, bt (⟨#[48, 49, 50, 51, 52, 53, 54, 55, 56, 57, 65, 66, 67, 68, 69, 70]⟩ : ByteArray) ((Int.tdiv (bt x0 x4) 16) % 256), bt (⟨#[48, 49, 50, 51, 52, 53, 54, 55, 56, 57, 65, 66, 67, 68, 69, 70]⟩ : ByteArray) (Int.tmod (bt x0 x4) 16)] : List Int) : List Int)).bind fun y184 => (if x3.size + (strOfNums y184).size ≤ 9223372036854775807 then (quadrigaref32_Text.l0 k x0 (x3 ++ (strOfNums y184)) (wrap64 (x4 + 1))) else (none))) else (none)) else (none)) else (none)) else (none))))))) else (if (bt x0 x4) ≥ 65 then (if (bt x0 x4) ≤ 90 then (if x4 ≤ (wrap64 (x4 + 1)) then (if (wrap64 (x4 + 1)) ≤ (x0.size : Int) then (if x3.size + (x0.extract (x4 : Int).toNat ((wrap64 (x4 + 1)) : Int).toNat).size ≤ 9223372036854775807 then (quadrigaref32_Text.l0 k x0 (x3 ++ (x0.extract (x4 : Int).toNat ((wrap64 (x4 + 1)) : Int).toNat)) (wrap64 (x4 + 1))) else (none)) else (none)) else (none)) else (if (bt x0 x4) ≥ 48 then (if (bt x0 x4) ≤ 57 then (if x4 ≤ (wrap64 (x4 + 1)) then (if (wrap64 (x4 + 1)) ≤ (x0.size : Int) then (if x3.size + (x0.extract (x4 : Int).toNat ((wrap64 (x4 + 1)) : Int).toNat).size ≤ 9223372036854775807 then (quadrigaref32_Text.l0 k x0 (x3 ++ (x0.extract (x4 : Int).toNat ((wrap64 (x4 + 1)) : Int).toNat)) (wrap64 (x4 + 1))) else (none)) else (none)) else (none)) else (if (bt x0 x4) = 46 then (if x4 ≤ (wrap64 (x4 + 1)) then (if (wrap64 (x4 + 1)) ≤ (x0.size : Int) then (if x3.size + (x0.extract (x4 : Int).toNat ((wrap64 (x4 + 1)) : Int).toNat).size ≤ 9223372036854775807 then (quadrigaref32_Text.l0 k x0 (x3 ++ (x0.extract (x4 : Int).toNat ((wrap64 (x4 + 1)) : Int).toNat)) (wrap64 (x4 + 1))) else (none)) else (none)) else (none)) else (if (bt x0 x4) = 95 then (if x4 ≤ (wrap64 (x4 + 1)) then (if (wrap64 (x4 + 1)) ≤ (x0.size : Int) then (if x3.size + (x0.extract (x4 : Int).toNat ((wrap64 (x4 + 1)) : Int).toNat).size ≤ 9223372036854775807 then (quadrigaref32_Text.l0 k x0 (x3 ++ (x0.extract (x4 : Int).toNat ((wrap64 (x4 + 1)) : Int).toNat)) (wrap64 (x4 + 1))) else (none)) else (none)) else (none)) else (if 0 ≤ ((Int.tdiv (bt x0 x4) 16) % 256) then (if ((Int.tdiv (bt x0 x4) 16) % 256) < 16 then (if 0 ≤ (Int.tmod (bt x0 x4) 16) then (if (Int.tmod (bt x0 x4) 16) < 16 then ((some (([37, bt (⟨#[48, 49, 50, 51, 52, 53, 54, 55, 56, 57, 65, 66, 67, 68, 69, 70]⟩ : ByteArray) ((Int.tdiv (bt x0 x4) 16) % 256), bt (⟨#[48, 49, 50, 51, 52, 53, 54, 55, 56, 57, 65, 66, 67, 68, 69, 70]⟩ : ByteArray) (Int.tmod (bt x0 x4) 16)] : List Int) : List Int)).bind fun y187 => (if x3.size + (strOfNums y187).size ≤ 9223372036854775807 then (quadrigaref32_Text.l0 k x0 (x3 ++ (strOfNums y187)) (wrap64 (x4 + 1))) else (none))) else (none)) else (none)) else (none)) else (none))))) else (if (bt x0 x4) = 46 then (if x4 ≤ (wrap64 (x4 + 1)) then (if (wrap64 (x4 + 1)) ≤ (x0.size : Int) then (if x3.size + (x0.extract (x4 : Int).toNat ((wrap64 (x4 + 1)) : Int).toNat).size ≤ 9223372036854775807 then (quadrigaref32_Text.l0 k x0 (x3 ++ (x0.extract (x4 : Int).toNat ((wrap64 (x4 + 1)) : Int).toNat)) (wrap64 (x4 + 1))) else (none)) else (none)) else (none)) else (if (bt x0 x4) = 95 then (if x4 ≤ (wrap64 (x4 + 1)) then (if (wrap64 (x4 + 1)) ≤ (x0.size : Int) then (if x3.size + (x0.extract (x4 : Int).toNat ((wrap64 (x4 + 1)) : Int).toNat).size ≤ 9223372036854775807 then (quadrigaref32_Text.l0 k x0 (x3 ++ (x0.extract (x4 : Int).toNat ((wrap64 (x4 + 1)) : Int).toNat)) (wrap64 (x4 + 1))) else (none)) else (none)) else (none)) else (if 0 ≤ ((Int.tdiv (bt x0 x4) 16) % 256) then (if ((Int.tdiv (bt x0 x4) 16) % 256) < 16 then (if 0 ≤ (Int.tmod (bt x0 x4) 16) then (if (Int.tmod (bt x0 x4) 16) < 16 then ((some (([37, bt (⟨#[48, 49, 50, 51, 52, 53, 54, 55, 56, 57, 65, 66, 67, 68, 69, 70]⟩ : ByteArray) ((Int.tdiv (bt x0 x4) 16) % 256), bt (⟨#[48, 49, 50, 51, 52, 53, 54, 55, 56, 57, 65, 66, 67, 68, 69, 70]⟩ : ByteArray) (Int.tmod (bt x0 x4) 16)] : List Int) : List Int)).bind fun y190 => (if x3.size + (strOfNums y190).size ≤ 9223372036854775807 then (quadrigaref32_Text.l0 k x0 (x3 ++ (strOfNums y190)) (wrap64 (x4 + 1))) else (none))) else (none)) else (none)) else (none)) else (none)))))) else (if (bt x0 x4) ≥ 48 then (if (bt x0 x4) ≤ 57 then (if x4 ≤ (wrap64 (x4 + 1)) then (if (wrap64 (x4 + 1)) ≤ (x0.size : Int) then (if x3.size + (x0.extract (x4 : Int).toNat ((wrap64 (x4 + 1)) : Int).toNat).size ≤ 9223372036854775807 then (quadrigaref32_Text.l0 k x0 (x3 ++ (x0.extract (x4 : Int).toNat ((wrap64 (x4 + 1)) : Int).toNat)) (wrap64 (x4 + 1))) else (none)) else (none)) else (none)) else (if (bt x0 x4) = 46 then (if x4 ≤ (wrap64 (x4 + 1)) then (if (wrap64 (x4 + 1)) ≤ (x0.size : Int) then (if x3.size + (x0.extract (x4 : Int).toNat ((wrap64 (x4 + 1)) : Int).toNat).size ≤ 9223372036854775807 then (quadrigaref32_Text.l0 k x0 (x3 ++ (x0.extract (x4 : Int).toNat ((wrap64 (x4 + 1)) : Int).toNat)) (wrap64 (x4 + 1))) else (none)) else (none)) else (none)) else (if (bt x0 x4) = 95 then (if x4 ≤ (wrap64 (x4 + 1)) then (if (wrap64 (x4 + 1)) ≤ (x0.size : Int) then (if x3.size + (x0.extract (x4 : Int).toNat ((wrap64 (x4 + 1)) : Int).toNat).size ≤ 9223372036854775807 then (quadrigaref32_Text.l0 k x0 (x3 ++ (x0.extract (x4 : Int).toNat ((wrap64 (x4 + 1)) : Int).toNat)) (wrap64 (x4 + 1))) else (none)) else (none)) else (none)) else (if 0 ≤ ((Int.tdiv (bt x0 x4) 16) % 256) then (if ((Int.tdiv (bt x0 x4) 16) % 256) < 16 then (if 0 ≤ (Int.tmod (bt x0 x4) 16) then (if (Int.tmod (bt x0 x4) 16) < 16 then ((some (([37, bt (⟨#[48, 49, 50, 51, 52, 53, 54, 55, 56, 57, 65, 66, 67, 68, 69, 70]⟩ : ByteArray) ((Int.tdiv (bt x0 x4) 16) % 256), bt (⟨#[48, 49, 50, 51, 52, 53, 54, 55, 56, 57, 65, 66, 67, 68, 69, 70]⟩ : ByteArray) (Int.tmod (bt x0 x4) 16)] : List Int) : List Int)).bind fun y193 => (if x3.size + (strOfNums y193).size ≤ 9223372036854775807 then (quadrigaref32_Text.l0 k x0 (x3 ++ (strOfNums y193)) (wrap64 (x4 + 1))) else (none))) else (none)) else (none)) else (none)) else (none))))) else (if (bt x0 x4) = 46 then (if x4 ≤ (wrap64 (x4 + 1)) then (if (wrap64 (x4 + 1)) ≤ (x0.size : Int) then (if x3.size + (x0.extract (x4 : Int).toNat ((wrap64 (x4 + 1)) : Int).toNat).size ≤ 9223372036854775807 then (quadrigaref32_Text.l0 k x0 (x3 ++ (x0.extract (x4 : Int).toNat ((wrap64 (x4 + 1)) : Int).toNat)) (wrap64 (x4 + 1))) else (none)) else (none)) else (none)) else (if (bt x0 x4) = 95 then (if x4 ≤ (wrap64 (x4 + 1)) then (if (wrap64 (x4 + 1)) ≤ (x0.size : Int) then (if x3.size + (x0.extract (x4 : Int).toNat ((wrap64 (x4 + 1)) : Int).toNat).size ≤ 9223372036854775807 then (quadrigaref32_Text.l0 k x0 (x3 ++ (x0.extract (x4 : Int).toNat ((wrap64 (x4 + 1)) : Int).toNat)) (wrap64 (x4 + 1))) else (none)) else (none)) else (none)) else (if 0 ≤ ((Int.tdiv (bt x0 x4) 16) % 256) then (if ((Int.tdiv (bt x0 x4) 16) % 256) < 16 then (if 0 ≤ (Int.tmod (bt x0 x4) 16) then (if (Int.tmod (bt x0 x4) 16) < 16 then ((some (([37, bt (⟨#[48, 49, 50, 51, 52, 53, 54, 55, 56, 57, 65, 66, 67, 68, 69, 70]⟩ : ByteArray) ((Int.tdiv (bt x0 x4) 16) % 256), bt (⟨#[48, 49, 50, 51, 52, 53, 54, 55, 56, 57, 65, 66, 67, 68, 69, 70]⟩ : ByteArray) (Int.tmod (bt x0 x4) 16)] : List Int) : List Int)).bind fun y196 => (if x3.size + (strOfNums y196).size ≤ 9223372036854775807 then (quadrigaref32_Text.l0 k x0 (x3 ++ (strOfNums y196)) (wrap64 (x4 + 1))) else (none))) else (none)) else (none)) else (none)) else (none))))))) else (none)) else (if x0.toList = ([] : List UInt8) then (some (⟨#[37]⟩ : ByteArray)) else (some x3))
def quadrigaref32_Text.f (k : Nat) (a0 : ByteArray) : Option (ByteArray) := quadrigaref32_Text.l0 k a0 (⟨#[]⟩ : ByteArray) 0
theorem quadrigaref32_Text.mono_l : ∀ k, (∀ y0 y1 y2, LeO (quadrigaref32_Text.l0 k y0 y1 y2) (quadrigaref32_Text.l0 (k + 1) y0 y1 y2))
  | 0 => fun _ _ _ r h => by simp [quadrigaref32_Text.l0] at h
  | k + 1 => by
    have ih0 := quadrigaref32_Text.mono_l k
    · intro y0 y1 y2
      unfold quadrigaref32_Text.l0
      repeat' first
      | (with_reducible exact ih0 _ _ _)
      | (with_reducible exact LeO.refl _)
      | (with_reducible exact LeO.none _)
      | (with_reducible refine LeO.ite ?_ ?_)
      | (with_reducible refine LeO.bind ?_ (fun _ => ?_))
      | exact ih0 _ _ _
      | exact LeO.none _
      | refine LeO.ite ?_ ?_
      | refine LeO.bind ?_ (fun _ => ?_)
theorem quadrigaref32_Text.mono : ∀ a0 k, LeO (quadrigaref32_Text.f k a0) (quadrigaref32_Text.f (k + 1) a0) := by
  intro a0 k
  have ih0 := quadrigaref32_Text.mono_l k
  unfold quadrigaref32_Text.f
  repeat' first
      | (with_reducible exact ih0 _ _ _)
      | (with_reducible exact LeO.refl _)
      | (with_reducible exact LeO.none _)
      | (with_reducible refine LeO.ite ?_ ?_)
      | (with_reducible refine LeO.bind ?_ (fun _ => ?_))
      | exact ih0 _ _ _
      | exact LeO.none _
      | refine LeO.ite ?_ ?_
      | refine LeO.bind ?_ (fun _ => ?_)
def quadrigaref32_Text.T8 : Bool × List (List Nat × List Nat) := (true, [([], []), ([], []), ([1], [1]), ([2], [2]), ([], []), ([4], [4]), ([5], [5]), ([3, 6], [3, 6]), ([7], [7]), ([0, 8], [0, 8]), ([9, 0, 1, 2, 3, 4, 5, 6, 7, 8, 9], [0, 9])])
def quadrigaref32_Text.B8 : List Nat := [0, 0, 2, 6, 0, 16, 48, 126, 254, 511, 1023]
theorem quadrigaref32_Text.tab8 : rtab .any (opsOf Tryd.f7 8) = quadrigaref32_Text.T8 := by kernel_rfl
theorem quadrigaref32_Text.bits8 : waitsOk quadrigaref32_Text.T8.2 quadrigaref32_Text.B8 = true := by kernel_rfl
set_option maxHeartbeats 8000000 in
set_option maxRecDepth 100000 in
theorem quadrigaref32_Text.calls (k : Nat) (a0 : ByteArray) (r : ByteArray) (w : World) (h : quadrigaref32_Text.f k a0 = some r) :
    Calls Tryd.prog 7 #[.string a0] w fun e w' => e = .returned (.string r) ∧ Below w.heap.size w w' := by
  have HB := Aside0.mk (Below.refl w.heap.size w)
  have H : (quadrigaref32_Text.l0 k a0 (⟨#[]⟩ : ByteArray) 0) = some r := h
  clear h
  have H' := Aside0.mk H
  clear H
  go_enter Tryd.func7, Tryd.ntmps7
  go_wp2
  go_loopg [3, 4] k (fun kq v3 v4 w' => ∃ (x3_1 : ByteArray) (x4_1 : Int), v3 = .string x3_1 ∧ v4 = .int .i64 x4_1 ∧ Aside0 (quadrigaref32_Text.l0 kq a0 x3_1 x4_1 = some r) ∧ Aside0 (kq ≤ k) ∧ Aside0 (Below w.heap.size w w'))
  case atStart => exact ⟨((⟨#[]⟩ : ByteArray)), (0), (by first | rfl | (simp; done) | (simp [*]; done)), (by first | rfl | (simp; done) | (simp [*]; done)), H', ⟨Nat.le_refl _⟩, ⟨by repeat (first | (with_reducible first | exact HB.out | apply below_alloc | apply pw_below_drewN | apply below_drew1) | exact HB.out)⟩⟩
  case round =>
    clear H'
    obtain ⟨x3_1, x4_1, rfl, rfl, HA, HK1, HB⟩ := hrel
    cases gk with
    | zero => exact absurd HA.out (by simp [quadrigaref32_Text.l0])
    | succ k1 =>
      have H := HA.out
      clear HA
      simp only [quadrigaref32_Text.l0] at H
      by_cases c2 : x4_1 < (a0.size : Int)
      · rw [if_pos c2] at H
        have c2b0 : decide (x4_1 < (a0.size : Int)) = true := decide_eq_true c2
        clear c2
        by_cases c3 : 0 ≤ x4_1
        · rw [if_pos c3] at H
          have c3b0 : decide (0 ≤ x4_1) = true := decide_eq_true c3
          clear c3
          by_cases c5 : (bt a0 x4_1) ≥ 97
          · rw [if_pos c5] at H
            have c5b0 : decide (97 ≤ (bt a0 x4_1)) = true := decide_eq_true c5
            clear c5
            by_cases c6 : (bt a0 x4_1) ≤ 122
            · rw [if_pos c6] at H
              have c6b0 : decide ((bt a0 x4_1) ≤ 122) = true := decide_eq_true c6
              clear c6
              have c7b0 := eq_true (of_decide_eq_true (by first | (with_reducible assumption) | assumption) : 0 ≤ x4_1)
              by_cases c8 : x4_1 ≤ (wrap64 (x4_1 + 1))
              · rw [if_pos c8] at H
                have c8b0 := eq_true c8
                have c8b1 : decide (x4_1 ≤ (wrap64 (x4_1 + 1))) = true := decide_eq_true c8
                by_cases c9 : (wrap64 (x4_1 + 1)) ≤ (a0.size : Int)
                · rw [if_pos c9] at H
                  have c9b0 := eq_true c9
                  have c9b1 : decide ((wrap64 (x4_1 + 1)) ≤ (a0.size : Int)) = true := decide_eq_true c9
                  by_cases c10 : x3_1.size + (a0.extract (x4_1 : Int).toNat ((wrap64 (x4_1 + 1)) : Int).toNat).size ≤ 9223372036854775807
                  · rw [if_pos c10] at H
                    have c10b0 := eq_true c10
                    have c10b1 : decide (x3_1.size + (a0.extract (x4_1 : Int).toNat ((wrap64 (x4_1 + 1)) : Int).toNat).size ≤ 9223372036854775807) = true := decide_eq_true c10
                    try have c10b2 : (9223372036854775807 < x3_1.size + (a0.extract (x4_1 : Int).toNat ((wrap64 (x4_1 + 1)) : Int).toNat).size) = False := eq_false (Nat.not_lt.2 c10)
                    have H' := Aside0.mk H
                    clear H
                    have p4 : 0 ≤ (x4_1 : Int) := of_decide_eq_true (by first | (with_reducible assumption) | assumption)
                    have q4 : x4_1 < (a0.size : Int) := of_decide_eq_true (by first | (with_reducible assumption) | assumption)
                    have hx4 := bt_at a0 x4_1
                    replace p4 := eq_true p4
                    replace q4 := eq_true q4
                    go_wp2
                    go_roundg k1
                    case measure => have := HK1.out; omega
                    case rel => exact ⟨(x3_1 ++ (a0.extract (x4_1 : Int).toNat ((wrap64 (x4_1 + 1)) : Int).toNat)), (wrap64 (x4_1 + 1)), (by first | rfl | (simp; done) | (simp [*]; done)), (by first | rfl | (simp; done) | (simp [*]; done)), H', ⟨by have := HK1.out; omega⟩, ⟨by repeat (first | (with_reducible first | exact HB.out | apply below_alloc | apply pw_below_drewN | apply below_drew1) | exact HB.out)⟩⟩
                  · rw [if_neg c10] at H
                    exact absurd H (by simp)
                · rw [if_neg c9] at H
                  exact absurd H (by simp)
              · rw [if_neg c8] at H
                exact absurd H (by simp)
            · rw [if_neg c6] at H
              have c6b0 : decide ((bt a0 x4_1) ≤ 122) = false := decide_eq_false c6
              clear c6
              by_cases c11 : (bt a0 x4_1) ≥ 65
              · rw [if_pos c11] at H
                have c11b0 : decide (65 ≤ (bt a0 x4_1)) = true := decide_eq_true c11
                clear c11
                by_cases c12 : (bt a0 x4_1) ≤ 90
                · rw [if_pos c12] at H
                  have c12b0 : decide ((bt a0 x4_1) ≤ 90) = true := decide_eq_true c12
                  clear c12
                  have c13b0 := eq_true (of_decide_eq_true (by first | (with_reducible assumption) | assumption) : 0 ≤ x4_1)
                  by_cases c14 : x4_1 ≤ (wrap64 (x4_1 + 1))
                  · rw [if_pos c14] at H
                    have c14b0 := eq_true c14
                    have c14b1 : decide (x4_1 ≤ (wrap64 (x4_1 + 1))) = true := decide_eq_true c14
                    by_cases c15 : (wrap64 (x4_1 + 1)) ≤ (a0.size : Int)
                    · rw [if_pos c15] at H
                      have c15b0 := eq_true c15
                      have c15b1 : decide ((wrap64 (x4_1 + 1)) ≤ (a0.size : Int)) = true := decide_eq_true c15
                      by_cases c16 : x3_1.size + (a0.extract (x4_1 : Int).toNat ((wrap64 (x4_1 + 1)) : Int).toNat).size ≤ 9223372036854775807
                      · rw [if_pos c16] at H
                        have c16b0 := eq_true c16
                        have c16b1 : decide (x3_1.size + (a0.extract (x4_1 : Int).toNat ((wrap64 (x4_1 + 1)) : Int).toNat).size ≤ 9223372036854775807) = true := decide_eq_true c16
                        try have c16b2 : (9223372036854775807 < x3_1.size + (a0.extract (x4_1 : Int).toNat ((wrap64 (x4_1 + 1)) : Int).toNat).size) = False := eq_false (Nat.not_lt.2 c16)
                        have H' := Aside0.mk H
                        clear H
                        have p4 : 0 ≤ (x4_1 : Int) := of_decide_eq_true (by first | (with_reducible assumption) | assumption)
                        have q4 : x4_1 < (a0.size : Int) := of_decide_eq_true (by first | (with_reducible assumption) | assumption)
                        have hx4 := bt_at a0 x4_1
                        replace p4 := eq_true p4
                        replace q4 := eq_true q4
                        go_wp2
                        go_roundg k1
                        case measure => have := HK1.out; omega
                        case rel => exact ⟨(x3_1 ++ (a0.extract (x4_1 : Int).toNat ((wrap64 (x4_1 + 1)) : Int).toNat)), (wrap64 (x4_1 + 1)), (by first | rfl | (simp; done) | (simp [*]; done)), (by first | rfl | (simp; done) | (simp [*]; done)), H', ⟨by have := HK1.out; omega⟩, ⟨by repeat (first | (with_reducible first | exact HB.out | apply below_alloc | apply pw_below_drewN | apply below_drew1) | exact HB.out)⟩⟩
                      · rw [if_neg c16] at H
                        exact absurd H (by simp)
                    · rw [if_neg c15] at H
                      exact absurd H (by simp)
                  · rw [if_neg c14] at H
                    exact absurd H (by simp)
                · rw [if_neg c12] at H
                  have c12b0 : decide ((bt a0 x4_1) ≤ 90) = false := decide_eq_false c12
                  clear c12
                  by_cases c17 : (bt a0 x4_1) ≥ 48
                  · rw [if_pos c17] at H
                    have c17b0 : decide (48 ≤ (bt a0 x4_1)) = true := decide_eq_true c17
                    clear c17
                    by_cases c18 : (bt a0 x4_1) ≤ 57
                    · rw [if_pos c18] at H
                      have c18b0 : decide ((bt a0 x4_1) ≤ 57) = true := decide_eq_true c18
                      clear c18
                      have c19b0 := eq_true (of_decide_eq_true (by first | (with_reducible assumption) | assumption) : 0 ≤ x4_1)
                      by_cases c20 : x4_1 ≤ (wrap64 (x4_1 + 1))
                      · rw [if_pos c20] at H
                        have c20b0 := eq_true c20
                        have c20b1 : decide (x4_1 ≤ (wrap64 (x4_1 + 1))) = true := decide_eq_true c20
                        by_cases c21 : (wrap64 (x4_1 + 1)) ≤ (a0.size : Int)
                        · rw [if_pos c21] at H
                          have c21b0 := eq_true c21
                          have c21b1 : decide ((wrap64 (x4_1 + 1)) ≤ (a0.size : Int)) = true := decide_eq_true c21
                          by_cases c22 : x3_1.size + (a0.extract (x4_1 : Int).toNat ((wrap64 (x4_1 + 1)) : Int).toNat).size ≤ 9223372036854775807
                          · rw [if_pos c22] at H
                            have c22b0 := eq_true c22
                            have c22b1 : decide (x3_1.size + (a0.extract (x4_1 : Int).toNat ((wrap64 (x4_1 + 1)) : Int).toNat).size ≤ 9223372036854775807) = true := decide_eq_true c22
                            try have c22b2 : (9223372036854775807 < x3_1.size + (a0.extract (x4_1 : Int).toNat ((wrap64 (x4_1 + 1)) : Int).toNat).size) = False := eq_false (Nat.not_lt.2 c22)
                            have H' := Aside0.mk H
                            clear H
                            have p4 : 0 ≤ (x4_1 : Int) := of_decide_eq_true (by first | (with_reducible assumption) | assumption)
                            have q4 : x4_1 < (a0.size : Int) := of_decide_eq_true (by first | (with_reducible assumption) | assumption)
                            have hx4 := bt_at a0 x4_1
                            replace p4 := eq_true p4
                            replace q4 := eq_true q4
                            go_wp2
                            go_roundg k1
                            case measure => have := HK1.out; omega
                            case rel => exact ⟨(x3_1 ++ (a0.extract (x4_1 : Int).toNat ((wrap64 (x4_1 + 1)) : Int).toNat)), (wrap64 (x4_1 + 1)), (by first | rfl | (simp; done) | (simp [*]; done)), (by first | rfl | (simp; done) | (simp [*]; done)), H', ⟨by have := HK1.out; omega⟩, ⟨by repeat (first | (with_reducible first | exact HB.out | apply below_alloc | apply pw_below_drewN | apply below_drew1) | exact HB.out)⟩⟩
                          · rw [if_neg c22] at H
                            exact absurd H (by simp)
                        · rw [if_neg c21] at H
                          exact absurd H (by simp)
                      · rw [if_neg c20] at H
                        exact absurd H (by simp)
                    · rw [if_neg c18] at H
                      have c18b0 : decide ((bt a0 x4_1) ≤ 57) = false := decide_eq_false c18
                      clear c18
                      by_cases c23 : (bt a0 x4_1) = 46
                      · rw [if_pos c23] at H
                        have c23b0 : ((bt a0 x4_1) == 46) = true := beq_iff_eq.mpr c23
                        have c23b1 : ((bt a0 x4_1) != 46) = false := bne_eq_false_iff_eq.mpr c23
                        clear c23
                        have c24b0 := eq_true (of_decide_eq_true (by first | (with_reducible assumption) | assumption) : 0 ≤ x4_1)
                        by_cases c25 : x4_1 ≤ (wrap64 (x4_1 + 1))
                        · rw [if_pos c25] at H
                          have c25b0 := eq_true c25
                          have c25b1 : decide (x4_1 ≤ (wrap64 (x4_1 + 1))) = true := decide_eq_true c25
                          by_cases c26 : (wrap64 (x4_1 + 1)) ≤ (a0.size : Int)
                          · rw [if_pos c26] at H
                            have c26b0 := eq_true c26
                            have c26b1 : decide ((wrap64 (x4_1 + 1)) ≤ (a0.size : Int)) = true := decide_eq_true c26
                            by_cases c27 : x3_1.size + (a0.extract (x4_1 : Int).toNat ((wrap64 (x4_1 + 1)) : Int).toNat).size ≤ 9223372036854775807
                            · rw [if_pos c27] at H
                              have c27b0 := eq_true c27
                              have c27b1 : decide (x3_1.size + (a0.extract (x4_1 : Int).toNat ((wrap64 (x4_1 + 1)) : Int).toNat).size ≤ 9223372036854775807) = true := decide_eq_true c27
                              try have c27b2 : (9223372036854775807 < x3_1.size + (a0.extract (x4_1 : Int).toNat ((wrap64 (x4_1 + 1)) : Int).toNat).size) = False := eq_false (Nat.not_lt.2 c27)
                              have H' := Aside0.mk H
                              clear H
                              have p4 : 0 ≤ (x4_1 : Int) := of_decide_eq_true (by first | (with_reducible assumption) | assumption)
                              have q4 : x4_1 < (a0.size : Int) := of_decide_eq_true (by first | (with_reducible assumption) | assumption)
                              have hx4 := bt_at a0 x4_1
                              replace p4 := eq_true p4
                              replace q4 := eq_true q4
                              go_wp2
                              go_roundg k1
                              case measure => have := HK1.out; omega
                              case rel => exact ⟨(x3_1 ++ (a0.extract (x4_1 : Int).toNat ((wrap64 (x4_1 + 1)) : Int).toNat)), (wrap64 (x4_1 + 1)), (by first | rfl | (simp; done) | (simp [*]; done)), (by first | rfl | (simp; done) | (simp [*]; done)), H', ⟨by have := HK1.out; omega⟩, ⟨by repeat (first | (with_reducible first | exact HB.out | apply below_alloc | apply pw_below_drewN | apply below_drew1) | exact HB.out)⟩⟩
                            · rw [if_neg c27] at H
                              exact absurd H (by simp)
                          · rw [if_neg c26] at H
                            exact absurd H (by simp)
                        · rw [if_neg c25] at H
                          exact absurd H (by simp)
                      · rw [if_neg c23] at H
                        have c23b0 : ((bt a0 x4_1) == 46) = false := beq_eq_false_iff_ne.mpr c23
                        have c23b1 : ((bt a0 x4_1) != 46) = true := bne_iff_ne.mpr c23
                        by_cases c28 : (bt a0 x4_1) = 95
                        · rw [if_pos c28] at H
                          have c28b0 : ((bt a0 x4_1) == 95) = true := beq_iff_eq.mpr c28
                          have c28b1 : ((bt a0 x4_1) != 95) = false := bne_eq_false_iff_eq.mpr c28
                          clear c28
                          have c29b0 := eq_true (of_decide_eq_true (by first | (with_reducible assumption) | assumption) : 0 ≤ x4_1)
                          by_cases c30 : x4_1 ≤ (wrap64 (x4_1 + 1))
                          · rw [if_pos c30] at H
                            have c30b0 := eq_true c30
                            have c30b1 : decide (x4_1 ≤ (wrap64 (x4_1 + 1))) = true := decide_eq_true c30
                            by_cases c31 : (wrap64 (x4_1 + 1)) ≤ (a0.size : Int)
                            · rw [if_pos c31] at H
                              have c31b0 := eq_true c31
                              have c31b1 : decide ((wrap64 (x4_1 + 1)) ≤ (a0.size : Int)) = true := decide_eq_true c31
                              by_cases c32 : x3_1.size + (a0.extract (x4_1 : Int).toNat ((wrap64 (x4_1 + 1)) : Int).toNat).size ≤ 9223372036854775807
                              · rw [if_pos c32] at H
                                have c32b0 := eq_true c32
                                have c32b1 : decide (x3_1.size + (a0.extract (x4_1 : Int).toNat ((wrap64 (x4_1 + 1)) : Int).toNat).size ≤ 9223372036854775807) = true := decide_eq_true c32
                                try have c32b2 : (9223372036854775807 < x3_1.size + (a0.extract (x4_1 : Int).toNat ((wrap64 (x4_1 + 1)) : Int).toNat).size) = False := eq_false (Nat.not_lt.2 c32)
                                have H' := Aside0.mk H
                                clear H
                                have p4 : 0 ≤ (x4_1 : Int) := of_decide_eq_true (by first | (with_reducible assumption) | assumption)
                                have q4 : x4_1 < (a0.size : Int) := of_decide_eq_true (by first | (with_reducible assumption) | assumption)
                                have hx4 := bt_at a0 x4_1
                                replace p4 := eq_true p4
                                replace q4 := eq_true q4
                                go_wp2
                                go_roundg k1
                                case measure => have := HK1.out; omega
                                case rel => exact ⟨(x3_1 ++ (a0.extract (x4_1 : Int).toNat ((wrap64 (x4_1 + 1)) : Int).toNat)), (wrap64 (x4_1 + 1)), (by first | rfl | (simp; done) | (simp [*]; done)), (by first | rfl | (simp; done) | (simp [*]; done)), H', ⟨by have := HK1.out; omega⟩, ⟨by repeat (first | (with_reducible first | exact HB.out | apply below_alloc | apply pw_below_drewN | apply below_drew1) | exact HB.out)⟩⟩
                              · rw [if_neg c32] at H
                                exact absurd H (by simp)
                            · rw [if_neg c31] at H
                              exact absurd H (by simp)
                          · rw [if_neg c30] at H
                            exact absurd H (by simp)
                        · rw [if_neg c28] at H
                          have c28b0 : ((bt a0 x4_1) == 95) = false := beq_eq_false_iff_ne.mpr c28
                          have c28b1 : ((bt a0 x4_1) != 95) = true := bne_iff_ne.mpr c28
                          obtain ⟨ji33, hji33⟩ : ∃ j_ : Int, ((Int.tdiv (bt a0 x4_1) 16) % 256) = j_ := ⟨_, rfl⟩
                          have hwji33 : IntKind.u8.wrap (Int.tdiv (bt a0 x4_1) 16) = ji33 := by rw [← hji33]; simp [IntKind.wrap, IntKind.bits, IntKind.signed]
                          replace H : (if 0 ≤ (ji33) then (if (ji33) < 16 then (if 0 ≤ (Int.tmod (bt a0 x4_1) 16) then (if (Int.tmod (bt a0 x4_1) 16) < 16 then ((some (([37, bt (⟨#[48, 49, 50, 51, 52, 53, 54, 55, 56, 57, 65, 66, 67, 68, 69, 70]⟩ : ByteArray) (ji33), bt (⟨#[48, 49, 50, 51, 52, 53, 54, 55, 56, 57, 65, 66, 67, 68, 69, 70]⟩ : ByteArray) (Int.tmod (bt a0 x4_1) 16)] : List Int) : List Int)).bind fun y175 => (if x3_1.size + (strOfNums y175).size ≤ 9223372036854775807 then (quadrigaref32_Text.l0 k1 a0 (x3_1 ++ (strOfNums y175)) (wrap64 (x4_1 + 1))) else (none))) else (none)) else (none)) else (none)) else (none)) = some r := by first | (rw [hji33] at H; exact H) | (simp only [hji33] at H ⊢; exact H)
                          by_cases c34 : 0 ≤ (ji33)
                          · rw [if_pos c34] at H
                            have c34b0 : decide (0 ≤ (ji33)) = true := decide_eq_true c34
                            clear c34
                            by_cases c35 : (ji33) < 16
                            · rw [if_pos c35] at H
                              have c35b0 : decide ((ji33) < 16) = true := decide_eq_true c35
                              clear c35
                              obtain ⟨ji37, hji37⟩ : ∃ j_ : Int, (Int.tmod (bt a0 x4_1) 16) = j_ := ⟨_, rfl⟩
                              replace H : (if 0 ≤ (ji37) then (if (ji37) < 16 then ((some (([37, bt (⟨#[48, 49, 50, 51, 52, 53, 54, 55, 56, 57, 65, 66, 67, 68, 69, 70]⟩ : ByteArray) (ji33), bt (⟨#[48, 49, 50, 51, 52, 53, 54, 55, 56, 57, 65, 66, 67, 68, 69, 70]⟩ : ByteArray) (ji37)] : List Int) : List Int)).bind fun y175 => (if x3_1.size + (strOfNums y175).size ≤ 9223372036854775807 then (quadrigaref32_Text.l0 k1 a0 (x3_1 ++ (strOfNums y175)) (wrap64 (x4_1 + 1))) else (none))) else (none)) else (none)) = some r := by first | (rw [hji37] at H; exact H) | (simp only [hji37] at H ⊢; exact H)
                              by_cases c38 : 0 ≤ (ji37)
                              · rw [if_pos c38] at H
                                have c38b0 : decide (0 ≤ (ji37)) = true := decide_eq_true c38
                                clear c38
                                by_cases c39 : (ji37) < 16
                                · rw [if_pos c39] at H
                                  have c39b0 : decide ((ji37) < 16) = true := decide_eq_true c39
                                  clear c39
                                  obtain ⟨y175, hy175⟩ : ∃ y_ : List Int, y_ = (([37, bt (⟨#[48, 49, 50, 51, 52, 53, 54, 55, 56, 57, 65, 66, 67, 68, 69, 70]⟩ : ByteArray) (ji33), bt (⟨#[48, 49, 50, 51, 52, 53, 54, 55, 56, 57, 65, 66, 67, 68, 69, 70]⟩ : ByteArray) (ji37)] : List Int)) := ⟨_, rfl⟩
                                  replace H : (if x3_1.size + (strOfNums y175).size ≤ 9223372036854775807 then (quadrigaref32_Text.l0 k1 a0 (x3_1 ++ (strOfNums y175)) (wrap64 (x4_1 + 1))) else (none)) = some r := by first | (rw [hy175]; with_reducible exact H) | (have H2_ := (Option.bind_some _ _).symm.trans H; rw [hy175]; with_reducible exact H2_) | (have H2_ := (Option.bind_some _ _).symm.trans H; with_reducible exact H2_) | with_reducible exact H | (rw [hy175]; exact H) | exact H
                                  have Ny175 := Aside0.mk hy175
                                  clear hy175
                                  by_cases c41 : x3_1.size + (strOfNums y175).size ≤ 9223372036854775807
                                  · rw [if_pos c41] at H
                                    have c41b0 := eq_true c41
                                    have c41b1 : decide (x3_1.size + (strOfNums y175).size ≤ 9223372036854775807) = true := decide_eq_true c41
                                    try have c41b2 : (9223372036854775807 < x3_1.size + (strOfNums y175).size) = False := eq_false (Nat.not_lt.2 c41)
                                    have H' := Aside0.mk H
                                    clear H
                                    have p4 : 0 ≤ (x4_1 : Int) := of_decide_eq_true (by first | (with_reducible assumption) | assumption)
                                    have q4 : x4_1 < (a0.size : Int) := of_decide_eq_true (by first | (with_reducible assumption) | assumption)
                                    have hx4 := bt_at a0 x4_1
                                    replace p4 := eq_true p4
                                    replace q4 := eq_true q4
                                    try go_wp2
                                    have n0_ := Aside0.mk (below_drew1 HB.out)
                                    clear HB
                                    have HB := n0_
                                    clear n0_
                                    have p36 : 0 ≤ ((ji33) : Int) := of_decide_eq_true (by first | (with_reducible assumption) | assumption)
                                    have q36 : (ji33) < (16 : Int) := of_decide_eq_true (by first | (with_reducible assumption) | assumption)
                                    have hx36 := bt_at (⟨#[48, 49, 50, 51, 52, 53, 54, 55, 56, 57, 65, 66, 67, 68, 69, 70]⟩ : ByteArray) (ji33)
                                    replace p36 := eq_true p36
                                    replace q36 := eq_true q36
                                    have p40 : 0 ≤ ((ji37) : Int) := of_decide_eq_true (by first | (with_reducible assumption) | assumption)
                                    have q40 : (ji37) < (16 : Int) := of_decide_eq_true (by first | (with_reducible assumption) | assumption)
                                    have hx40 := bt_at (⟨#[48, 49, 50, 51, 52, 53, 54, 55, 56, 57, 65, 66, 67, 68, 69, 70]⟩ : ByteArray) (ji37)
                                    replace p40 := eq_true p40
                                    replace q40 := eq_true q40
                                    refine start_ (n := 11) (S := fun w' => True) (ds := []) #[false, false, false, false, false, false, false, false, false, false, false] (by kernel_rfl) rfl rfl trivial (fun hHeld => ?_); refine with_tabW quadrigaref32_Text.tab8 quadrigaref32_Text.bits8 (fun HT_ HW_ => ?_)
                                    generalize wr.drew = w42 at HB hHeld ⊢
                                    refine pure_ (i := 0) (N := some 52) (v := ?_) (a' := ?_) #[true, false, false, false, false, false, false, false, false, false, false] rfl rfl (any_of HT_.out (by kernel_rfl)) (fun _ _ _ h => h) (Or.inl ⟨by rfl, ?_⟩) ?_ ?_
                                    rotate_left
                                    · intro w'
                                      go_simp
                                      with_reducible rfl
                                    rotate_left
                                    · simp only [Act.put, List.setIfInBounds_toArray, List.set_cons_zero, List.set_cons_succ, i64_w, i32_w]
                                      rfl
                                    refine pure_ (i := 1) (N := some 53) (v := ?_) (a' := ?_) #[true, true, false, false, false, false, false, false, false, false, false] rfl rfl (any_of HT_.out (by kernel_rfl)) (fun _ _ _ h => h) (Or.inl ⟨by rfl, ?_⟩) ?_ ?_
                                    rotate_left
                                    · intro w'
                                      go_simp
                                      with_reducible rfl
                                    rotate_left
                                    · simp only [Act.put, List.setIfInBounds_toArray, List.set_cons_zero, List.set_cons_succ, i64_w, i32_w]
                                      rfl
                                    refine pure_ (i := 2) (N := some 54) (v := ?_) (a' := ?_) #[true, true, true, false, false, false, false, false, false, false, false] rfl rfl (any_of HT_.out (by kernel_rfl)) (fun _ _ _ h => h) (Or.inl ⟨by rfl, ?_⟩) ?_ ?_
                                    rotate_left
                                    · intro w'
                                      go_simp
                                      with_reducible rfl
                                    rotate_left
                                    · simp only [Act.put, List.setIfInBounds_toArray, List.set_cons_zero, List.set_cons_succ, i64_w, i32_w]
                                      rfl
                                    refine pure_ (i := 4) (N := some 56) (v := ?_) (a' := ?_) #[true, true, true, false, true, false, false, false, false, false, false] rfl rfl (any_of HT_.out (by kernel_rfl)) (fun _ _ _ h => h) (Or.inl ⟨by rfl, ?_⟩) ?_ ?_
                                    rotate_left
                                    · intro w'
                                      go_simp
                                      with_reducible rfl
                                    rotate_left
                                    · simp only [Act.put, List.setIfInBounds_toArray, List.set_cons_zero, List.set_cons_succ, i64_w, i32_w]
                                      rfl
                                    refine pure_ (i := 5) (N := some 57) (v := ?_) (a' := ?_) #[true, true, true, false, true, true, false, false, false, false, false] rfl rfl (any_of HT_.out (by kernel_rfl)) (fun _ _ _ h => h) (Or.inl ⟨by rfl, ?_⟩) ?_ ?_
                                    rotate_left
                                    · intro w'
                                      go_simp
                                      with_reducible rfl
                                    rotate_left
                                    · simp only [Act.put, List.setIfInBounds_toArray, List.set_cons_zero, List.set_cons_succ, i64_w, i32_w]
                                      rfl
                                    refine take_ (i := 3) (N := some 55) (v := ?_) (a' := ?_) #[true, true, true, true, true, true, false, false, false, false, false] rfl rfl (take_ofW HT_.out HW_.out (by kernel_rfl)) (fun _ _ _ h => h) (Or.inl ⟨by rfl, ?_⟩) hHeld ?_ ?_
                                    rotate_left
                                    · intro w' _
                                      go_simp
                                      with_reducible rfl
                                    rotate_left
                                    · simp only [Act.put, List.setIfInBounds_toArray, List.set_cons_zero, List.set_cons_succ, i64_w, i32_w]
                                      rfl
                                    refine take_ (i := 6) (N := some 58) (v := ?_) (a' := ?_) #[true, true, true, true, true, true, true, false, false, false, false] rfl rfl (take_ofW HT_.out HW_.out (by kernel_rfl)) (fun _ _ _ h => h) (Or.inl ⟨by rfl, ?_⟩) hHeld ?_ ?_
                                    rotate_left
                                    · intro w' _
                                      go_simp
                                      with_reducible rfl
                                    rotate_left
                                    · simp only [Act.put, List.setIfInBounds_toArray, List.set_cons_zero, List.set_cons_succ, i64_w, i32_w]
                                      rfl
                                    refine one_ (i := 7) (N := some 59) #[true, true, true, true, true, true, true, true, false, false, false] rfl rfl (one_of HT_.out (by kernel_rfl)) (by decide) (fun K hK => ?_)
                                    refine Kd.R_lit_step (Kd.int .u8) _ 5 ?hg (N := 59) ?hd (xs := ([37, bt (⟨#[48, 49, 50, 51, 52, 53, 54, 55, 56, 57, 65, 66, 67, 68, 69, 70]⟩ : ByteArray) (ji33), bt (⟨#[48, 49, 50, 51, 52, 53, 54, 55, 56, 57, 65, 66, 67, 68, 69, 70]⟩ : ByteArray) (ji37)] : List Int)) (inner := [.int .u8 37, .int .u8 (bt (⟨#[48, 49, 50, 51, 52, 53, 54, 55, 56, 57, 65, 66, 67, 68, 69, 70]⟩ : ByteArray) (ji33)), .int .u8 (bt (⟨#[48, 49, 50, 51, 52, 53, 54, 55, 56, 57, 65, 66, 67, 68, 69, 70]⟩ : ByteArray) (ji37))]) (ok := fun _ => True) (okp := fun _ => True) ?hr ?hp (fun _ hk => hk) trivial (Below.refl _ _) (Nat.le_refl _) (by simp) ?_; (case hd => rfl); (case hg => rfl); (case hr => first | (go_simp; done) | (go_simp; rfl)); (case hp => exact (Reps.one (show Kd.M (Kd.int .u8) _ _ _ 37 [.int .u8 37] from rfl) (Reps.one (show Kd.M (Kd.int .u8) _ _ _ (bt (⟨#[48, 49, 50, 51, 52, 53, 54, 55, 56, 57, 65, 66, 67, 68, 69, 70]⟩ : ByteArray) (ji33)) [.int .u8 (bt (⟨#[48, 49, 50, 51, 52, 53, 54, 55, 56, 57, 65, 66, 67, 68, 69, 70]⟩ : ByteArray) (ji33))] from rfl) (Reps.one (show Kd.M (Kd.int .u8) _ _ _ (bt (⟨#[48, 49, 50, 51, 52, 53, 54, 55, 56, 57, 65, 66, 67, 68, 69, 70]⟩ : ByteArray) (ji37)) [.int .u8 (bt (⟨#[48, 49, 50, 51, 52, 53, 54, 55, 56, 57, 65, 66, 67, 68, 69, 70]⟩ : ByteArray) (ji37))] from rfl) (Reps.none _ _)))))
                                    intro v176 w43 ho44 hb hg_ hnew_
                                    clear hg_ hnew_
                                    (first | rw [← Ny175.out] at ho44 | (simp only [Int.reduceToNat] at ho44; rw [← Ny175.out] at ho44))
                                    have n0_ := Aside0.mk (Kd.R_lower ho44 (below_size (by repeat (first | (with_reducible first | exact HB.out | apply below_alloc | apply pw_below_drewN | apply below_drew1) | exact HB.out))))
                                    have n1_ := Aside0.mk (below_step (by repeat (first | (with_reducible first | exact HB.out | apply below_alloc | apply pw_below_drewN | apply below_drew1) | exact HB.out)) hb)
                                    clear HB
                                    have HO177 := n0_
                                    have HB := n1_
                                    clear n0_ n1_
                                    clear hb ho44
                                    refine hK.out _ _ trivial (fun hHeld => ?_)
                                    clear hK K
                                    refine norm_ (a' := ?_) ?_ ?_
                                    rotate_left
                                    · show Act.put _ (some 59) _ = _
                                      simp only [Act.put, List.setIfInBounds_toArray, List.set_cons_zero, List.set_cons_succ, i64_w, i32_w]
                                      rfl
                                    refine one_ (i := 8) (N := some 60) #[true, true, true, true, true, true, true, true, true, false, false] rfl rfl (one_of HT_.out (by kernel_rfl)) (by decide) (fun K hK => ?_)
                                    have hcv45 := own_string (P := Tryd.prog) Tryd.underlying48 Tryd.underlying5 Tryd.underlying9 (Kd.own_of_R HO177.out)
                                    refine value_ (w1 := ?_) (v := ?_) (by rfl) rfl ?_ ?_
                                    rotate_left 2
                                    · go_simp
                                      constructor
                                      · rfl
                                      · rfl
                                    clear hcv45
                                    refine hK.out _ _ trivial (fun hHeld => ?_)
                                    clear hK K
                                    refine norm_ (a' := ?_) ?_ ?_
                                    rotate_left
                                    · show Act.put _ (some 60) _ = _
                                      simp only [Act.put, List.setIfInBounds_toArray, List.set_cons_zero, List.set_cons_succ, i64_w, i32_w]
                                      rfl
                                    refine pure_ (i := 9) (N := some 61) (v := ?_) (a' := ?_) #[true, true, true, true, true, true, true, true, true, true, false] rfl rfl (any_of HT_.out (by kernel_rfl)) (fun _ _ _ h => h) (Or.inl ⟨by rfl, ?_⟩) ?_ ?_
                                    rotate_left
                                    · intro w'
                                      go_simp
                                      with_reducible rfl
                                    rotate_left
                                    · simp only [Act.put, List.setIfInBounds_toArray, List.set_cons_zero, List.set_cons_succ, i64_w, i32_w]
                                      rfl
                                    refine pure_ (i := 10) (N := some 3) (v := ?_) (a' := ?_) #[true, true, true, true, true, true, true, true, true, true, true] rfl rfl (any_of HT_.out (by kernel_rfl)) (fun _ _ _ h => h) (Or.inl ⟨by rfl, ?_⟩) ?_ ?_
                                    rotate_left
                                    · intro w'
                                      go_simp
                                      with_reducible rfl
                                    rotate_left
                                    · simp only [Act.put, List.setIfInBounds_toArray, List.set_cons_zero, List.set_cons_succ, i64_w, i32_w]
                                      rfl
                                    refine done_ (done_of HT_.out (by kernel_rfl)) ?_
                                    try go_wp2
                                    go_roundg k1
                                    case measure => have := HK1.out; omega
                                    case rel => exact ⟨(x3_1 ++ (strOfNums y175)), (wrap64 (x4_1 + 1)), (by first | rfl | (simp; done) | (simp [*]; done)), (by first | rfl | (simp; done) | (simp [*]; done)), H', ⟨by have := HK1.out; omega⟩, ⟨by repeat (first | (with_reducible first | exact HB.out | apply below_alloc | apply pw_below_drewN | apply below_drew1) | exact HB.out)⟩⟩
                                  · rw [if_neg c41] at H
                                    exact absurd H (by simp)
                                · rw [if_neg c39] at H
                                  exact absurd H (by simp)
                              · rw [if_neg c38] at H
                                exact absurd H (by simp)
                            · rw [if_neg c35] at H
                              exact absurd H (by simp)
                          · rw [if_neg c34] at H
                            exact absurd H (by simp)
                  · rw [if_neg c17] at H
                    have c17b0 : decide (48 ≤ (bt a0 x4_1)) = false := decide_eq_false c17
                    clear c17
                    by_cases c46 : (bt a0 x4_1) = 46
                    · rw [if_pos c46] at H
                      have c46b0 : ((bt a0 x4_1) == 46) = true := beq_iff_eq.mpr c46
                      have c46b1 : ((bt a0 x4_1) != 46) = false := bne_eq_false_iff_eq.mpr c46
                      clear c46
                      have c47b0 := eq_true (of_decide_eq_true (by first | (with_reducible assumption) | assumption) : 0 ≤ x4_1)
                      by_cases c48 : x4_1 ≤ (wrap64 (x4_1 + 1))
                      · rw [if_pos c48] at H
                        have c48b0 := eq_true c48
                        have c48b1 : decide (x4_1 ≤ (wrap64 (x4_1 + 1))) = true := decide_eq_true c48
                        by_cases c49 : (wrap64 (x4_1 + 1)) ≤ (a0.size : Int)
                        · rw [if_pos c49] at H
                          have c49b0 := eq_true c49
                          have c49b1 : decide ((wrap64 (x4_1 + 1)) ≤ (a0.size : Int)) = true := decide_eq_true c49
                          by_cases c50 : x3_1.size + (a0.extract (x4_1 : Int).toNat ((wrap64 (x4_1 + 1)) : Int).toNat).size ≤ 9223372036854775807
                          · rw [if_pos c50] at H
                            have c50b0 := eq_true c50
                            have c50b1 : decide (x3_1.size + (a0.extract (x4_1 : Int).toNat ((wrap64 (x4_1 + 1)) : Int).toNat).size ≤ 9223372036854775807) = true := decide_eq_true c50
                            try have c50b2 : (9223372036854775807 < x3_1.size + (a0.extract (x4_1 : Int).toNat ((wrap64 (x4_1 + 1)) : Int).toNat).size) = False := eq_false (Nat.not_lt.2 c50)
                            have H' := Aside0.mk H
                            clear H
                            have p4 : 0 ≤ (x4_1 : Int) := of_decide_eq_true (by first | (with_reducible assumption) | assumption)
                            have q4 : x4_1 < (a0.size : Int) := of_decide_eq_true (by first | (with_reducible assumption) | assumption)
                            have hx4 := bt_at a0 x4_1
                            replace p4 := eq_true p4
                            replace q4 := eq_true q4
                            go_wp2
                            go_roundg k1
                            case measure => have := HK1.out; omega
                            case rel => exact ⟨(x3_1 ++ (a0.extract (x4_1 : Int).toNat ((wrap64 (x4_1 + 1)) : Int).toNat)), (wrap64 (x4_1 + 1)), (by first | rfl | (simp; done) | (simp [*]; done)), (by first | rfl | (simp; done) | (simp [*]; done)), H', ⟨by have := HK1.out; omega⟩, ⟨by repeat (first | (with_reducible first | exact HB.out | apply below_alloc | apply pw_below_drewN | apply below_drew1) | exact HB.out)⟩⟩
                          · rw [if_neg c50] at H
                            exact absurd H (by simp)
                        · rw [if_neg c49] at H
                          exact absurd H (by simp)
                      · rw [if_neg c48] at H
                        exact absurd H (by simp)
                    · rw [if_neg c46] at H
                      have c46b0 : ((bt a0 x4_1) == 46) = false := beq_eq_false_iff_ne.mpr c46
                      have c46b1 : ((bt a0 x4_1) != 46) = true := bne_iff_ne.mpr c46
                      by_cases c51 : (bt a0 x4_1) = 95
                      · rw [if_pos c51] at H
                        have c51b0 : ((bt a0 x4_1) == 95) = true := beq_iff_eq.mpr c51
                        have c51b1 : ((bt a0 x4_1) != 95) = false := bne_eq_false_iff_eq.mpr c51
                        clear c51
                        have c52b0 := eq_true (of_decide_eq_true (by first | (with_reducible assumption) | assumption) : 0 ≤ x4_1)
                        by_cases c53 : x4_1 ≤ (wrap64 (x4_1 + 1))
                        · rw [if_pos c53] at H
                          have c53b0 := eq_true c53
                          have c53b1 : decide (x4_1 ≤ (wrap64 (x4_1 + 1))) = true := decide_eq_true c53
                          by_cases c54 : (wrap64 (x4_1 + 1)) ≤ (a0.size : Int)
                          · rw [if_pos c54] at H
                            have c54b0 := eq_true c54
                            have c54b1 : decide ((wrap64 (x4_1 + 1)) ≤ (a0.size : Int)) = true := decide_eq_true c54
                            by_cases c55 : x3_1.size + (a0.extract (x4_1 : Int).toNat ((wrap64 (x4_1 + 1)) : Int).toNat).size ≤ 9223372036854775807
                            · rw [if_pos c55] at H
                              have c55b0 := eq_true c55
                              have c55b1 : decide (x3_1.size + (a0.extract (x4_1 : Int).toNat ((wrap64 (x4_1 + 1)) : Int).toNat).size ≤ 9223372036854775807) = true := decide_eq_true c55
                              try have c55b2 : (9223372036854775807 < x3_1.size + (a0.extract (x4_1 : Int).toNat ((wrap64 (x4_1 + 1)) : Int).toNat).size) = False := eq_false (Nat.not_lt.2 c55)
                              have H' := Aside0.mk H
                              clear H
                              have p4 : 0 ≤ (x4_1 : Int) := of_decide_eq_true (by first | (with_reducible assumption) | assumption)
                              have q4 : x4_1 < (a0.size : Int) := of_decide_eq_true (by first | (with_reducible assumption) | assumption)
                              have hx4 := bt_at a0 x4_1
                              replace p4 := eq_true p4
                              replace q4 := eq_true q4
                              go_wp2
                              go_roundg k1
                              case measure => have := HK1.out; omega
                              case rel => exact ⟨(x3_1 ++ (a0.extract (x4_1 : Int).toNat ((wrap64 (x4_1 + 1)) : Int).toNat)), (wrap64 (x4_1 + 1)), (by first | rfl | (simp; done) | (simp [*]; done)), (by first | rfl | (simp; done) | (simp [*]; done)), H', ⟨by have := HK1.out; omega⟩, ⟨by repeat (first | (with_reducible first | exact HB.out | apply below_alloc | apply pw_below_drewN | apply below_drew1) | exact HB.out)⟩⟩
                            · rw [if_neg c55] at H
                              exact absurd H (by simp)
                          · rw [if_neg c54] at H
                            exact absurd H (by simp)
                        · rw [if_neg c53] at H
                          exact absurd H (by simp)
                      · rw [if_neg c51] at H
                        have c51b0 : ((bt a0 x4_1) == 95) = false := beq_eq_false_iff_ne.mpr c51
                        have c51b1 : ((bt a0 x4_1) != 95) = true := bne_iff_ne.mpr c51
                        obtain ⟨ji56, hji56⟩ : ∃ j_ : Int, ((Int.tdiv (bt a0 x4_1) 16) % 256) = j_ := ⟨_, rfl⟩
                        have hwji56 : IntKind.u8.wrap (Int.tdiv (bt a0 x4_1) 16) = ji56 := by rw [← hji56]; simp [IntKind.wrap, IntKind.bits, IntKind.signed]
                        replace H : (if 0 ≤ (ji56) then (if (ji56) < 16 then (if 0 ≤ (Int.tmod (bt a0 x4_1) 16) then (if (Int.tmod (bt a0 x4_1) 16) < 16 then ((some (([37, bt (⟨#[48, 49, 50, 51, 52, 53, 54, 55, 56, 57, 65, 66, 67, 68, 69, 70]⟩ : ByteArray) (ji56), bt (⟨#[48, 49, 50, 51, 52, 53, 54, 55, 56, 57, 65, 66, 67, 68, 69, 70]⟩ : ByteArray) (Int.tmod (bt a0 x4_1) 16)] : List Int) : List Int)).bind fun y178 => (if x3_1.size + (strOfNums y178).size ≤ 9223372036854775807 then (quadrigaref32_Text.l0 k1 a0 (x3_1 ++ (strOfNums y178)) (wrap64 (x4_1 + 1))) else (none))) else (none)) else (none)) else (none)) else (none)) = some r := by first | (rw [hji56] at H; exact H) | (simp only [hji56] at H ⊢; exact H)
                        by_cases c57 : 0 ≤ (ji56)
                        · rw [if_pos c57] at H
                          have c57b0 : decide (0 ≤ (ji56)) = true := decide_eq_true c57
                          clear c57
                          by_cases c58 : (ji56) < 16
                          · rw [if_pos c58] at H
                            have c58b0 : decide ((ji56) < 16) = true := decide_eq_true c58
                            clear c58
                            obtain ⟨ji60, hji60⟩ : ∃ j_ : Int, (Int.tmod (bt a0 x4_1) 16) = j_ := ⟨_, rfl⟩
                            replace H : (if 0 ≤ (ji60) then (if (ji60) < 16 then ((some (([37, bt (⟨#[48, 49, 50, 51, 52, 53, 54, 55, 56, 57, 65, 66, 67, 68, 69, 70]⟩ : ByteArray) (ji56), bt (⟨#[48, 49, 50, 51, 52, 53, 54, 55, 56, 57, 65, 66, 67, 68, 69, 70]⟩ : ByteArray) (ji60)] : List Int) : List Int)).bind fun y178 => (if x3_1.size + (strOfNums y178).size ≤ 9223372036854775807 then (quadrigaref32_Text.l0 k1 a0 (x3_1 ++ (strOfNums y178)) (wrap64 (x4_1 + 1))) else (none))) else (none)) else (none)) = some r := by first | (rw [hji60] at H; exact H) | (simp only [hji60] at H ⊢; exact H)
                            by_cases c61 : 0 ≤ (ji60)
                            · rw [if_pos c61] at H
                              have c61b0 : decide (0 ≤ (ji60)) = true := decide_eq_true c61
                              clear c61
                              by_cases c62 : (ji60) < 16
                              · rw [if_pos c62] at H
                                have c62b0 : decide ((ji60) < 16) = true := decide_eq_true c62
                                clear c62
                                obtain ⟨y178, hy178⟩ : ∃ y_ : List Int, y_ = (([37, bt (⟨#[48, 49, 50, 51, 52, 53, 54, 55, 56, 57, 65, 66, 67, 68, 69, 70]⟩ : ByteArray) (ji56), bt (⟨#[48, 49, 50, 51, 52, 53, 54, 55, 56, 57, 65, 66, 67, 68, 69, 70]⟩ : ByteArray) (ji60)] : List Int)) := ⟨_, rfl⟩
                                replace H : (if x3_1.size + (strOfNums y178).size ≤ 9223372036854775807 then (quadrigaref32_Text.l0 k1 a0 (x3_1 ++ (strOfNums y178)) (wrap64 (x4_1 + 1))) else (none)) = some r := by first | (rw [hy178]; with_reducible exact H) | (have H2_ := (Option.bind_some _ _).symm.trans H; rw [hy178]; with_reducible exact H2_) | (have H2_ := (Option.bind_some _ _).symm.trans H; with_reducible exact H2_) | with_reducible exact H | (rw [hy178]; exact H) | exact H
                                have Ny178 := Aside0.mk hy178
                                clear hy178
                                by_cases c64 : x3_1.size + (strOfNums y178).size ≤ 9223372036854775807
                                · rw [if_pos c64] at H
                                  have c64b0 := eq_true c64
                                  have c64b1 : decide (x3_1.size + (strOfNums y178).size ≤ 9223372036854775807) = true := decide_eq_true c64
                                  try have c64b2 : (9223372036854775807 < x3_1.size + (strOfNums y178).size) = False := eq_false (Nat.not_lt.2 c64)
                                  have H' := Aside0.mk H
                                  clear H
                                  have p4 : 0 ≤ (x4_1 : Int) := of_decide_eq_true (by first | (with_reducible assumption) | assumption)
                                  have q4 : x4_1 < (a0.size : Int) := of_decide_eq_true (by first | (with_reducible assumption) | assumption)
                                  have hx4 := bt_at a0 x4_1
                                  replace p4 := eq_true p4
                                  replace q4 := eq_true q4
                                  try go_wp2
                                  have n0_ := Aside0.mk (below_drew1 HB.out)
                                  clear HB
                                  have HB := n0_
                                  clear n0_
                                  have p59 : 0 ≤ ((ji56) : Int) := of_decide_eq_true (by first | (with_reducible assumption) | assumption)
                                  have q59 : (ji56) < (16 : Int) := of_decide_eq_true (by first | (with_reducible assumption) | assumption)
                                  have hx59 := bt_at (⟨#[48, 49, 50, 51, 52, 53, 54, 55, 56, 57, 65, 66, 67, 68, 69, 70]⟩ : ByteArray) (ji56)
                                  replace p59 := eq_true p59
                                  replace q59 := eq_true q59
                                  have p63 : 0 ≤ ((ji60) : Int) := of_decide_eq_true (by first | (with_reducible assumption) | assumption)
                                  have q63 : (ji60) < (16 : Int) := of_decide_eq_true (by first | (with_reducible assumption) | assumption)
                                  have hx63 := bt_at (⟨#[48, 49, 50, 51, 52, 53, 54, 55, 56, 57, 65, 66, 67, 68, 69, 70]⟩ : ByteArray) (ji60)
                                  replace p63 := eq_true p63
                                  replace q63 := eq_true q63
                                  refine start_ (n := 11) (S := fun w' => True) (ds := []) #[false, false, false, false, false, false, false, false, false, false, false] (by kernel_rfl) rfl rfl trivial (fun hHeld => ?_); refine with_tabW quadrigaref32_Text.tab8 quadrigaref32_Text.bits8 (fun HT_ HW_ => ?_)
                                  generalize wr.drew = w65 at HB hHeld ⊢
                                  refine pure_ (i := 0) (N := some 52) (v := ?_) (a' := ?_) #[true, false, false, false, false, false, false, false, false, false, false] rfl rfl (any_of HT_.out (by kernel_rfl)) (fun _ _ _ h => h) (Or.inl ⟨by rfl, ?_⟩) ?_ ?_
                                  rotate_left
                                  · intro w'
                                    go_simp
                                    with_reducible rfl
                                  rotate_left
                                  · simp only [Act.put, List.setIfInBounds_toArray, List.set_cons_zero, List.set_cons_succ, i64_w, i32_w]
                                    rfl
                                  refine pure_ (i := 1) (N := some 53) (v := ?_) (a' := ?_) #[true, true, false, false, false, false, false, false, false, false, false] rfl rfl (any_of HT_.out (by kernel_rfl)) (fun _ _ _ h => h) (Or.inl ⟨by rfl, ?_⟩) ?_ ?_
                                  rotate_left
                                  · intro w'
                                    go_simp
                                    with_reducible rfl
                                  rotate_left
                                  · simp only [Act.put, List.setIfInBounds_toArray, List.set_cons_zero, List.set_cons_succ, i64_w, i32_w]
                                    rfl
                                  refine pure_ (i := 2) (N := some 54) (v := ?_) (a' := ?_) #[true, true, true, false, false, false, false, false, false, false, false] rfl rfl (any_of HT_.out (by kernel_rfl)) (fun _ _ _ h => h) (Or.inl ⟨by rfl, ?_⟩) ?_ ?_
                                  rotate_left
                                  · intro w'
                                    go_simp
                                    with_reducible rfl
                                  rotate_left
                                  · simp only [Act.put, List.setIfInBounds_toArray, List.set_cons_zero, List.set_cons_succ, i64_w, i32_w]
                                    rfl
                                  refine pure_ (i := 4) (N := some 56) (v := ?_) (a' := ?_) #[true, true, true, false, true, false, false, false, false, false, false] rfl rfl (any_of HT_.out (by kernel_rfl)) (fun _ _ _ h => h) (Or.inl ⟨by rfl, ?_⟩) ?_ ?_
                                  rotate_left
                                  · intro w'
                                    go_simp
                                    with_reducible rfl
                                  rotate_left
                                  · simp only [Act.put, List.setIfInBounds_toArray, List.set_cons_zero, List.set_cons_succ, i64_w, i32_w]
                                    rfl
                                  refine pure_ (i := 5) (N := some 57) (v := ?_) (a' := ?_) #[true, true, true, false, true, true, false, false, false, false, false] rfl rfl (any_of HT_.out (by kernel_rfl)) (fun _ _ _ h => h) (Or.inl ⟨by rfl, ?_⟩) ?_ ?_
                                  rotate_left
                                  · intro w'
                                    go_simp
                                    with_reducible rfl
                                  rotate_left
                                  · simp only [Act.put, List.setIfInBounds_toArray, List.set_cons_zero, List.set_cons_succ, i64_w, i32_w]
                                    rfl
                                  refine take_ (i := 3) (N := some 55) (v := ?_) (a' := ?_) #[true, true, true, true, true, true, false, false, false, false, false] rfl rfl (take_ofW HT_.out HW_.out (by kernel_rfl)) (fun _ _ _ h => h) (Or.inl ⟨by rfl, ?_⟩) hHeld ?_ ?_
                                  rotate_left
                                  · intro w' _
                                    go_simp
                                    with_reducible rfl
                                  rotate_left
                                  · simp only [Act.put, List.setIfInBounds_toArray, List.set_cons_zero, List.set_cons_succ, i64_w, i32_w]
                                    rfl
                                  refine take_ (i := 6) (N := some 58) (v := ?_) (a' := ?_) #[true, true, true, true, true, true, true, false, false, false, false] rfl rfl (take_ofW HT_.out HW_.out (by kernel_rfl)) (fun _ _ _ h => h) (Or.inl ⟨by rfl, ?_⟩) hHeld ?_ ?_
                                  rotate_left
                                  · intro w' _
                                    go_simp
                                    with_reducible rfl
                                  rotate_left
                                  · simp only [Act.put, List.setIfInBounds_toArray, List.set_cons_zero, List.set_cons_succ, i64_w, i32_w]
                                    rfl
                                  refine one_ (i := 7) (N := some 59) #[true, true, true, true, true, true, true, true, false, false, false] rfl rfl (one_of HT_.out (by kernel_rfl)) (by decide) (fun K hK => ?_)
                                  refine Kd.R_lit_step (Kd.int .u8) _ 5 ?hg (N := 59) ?hd (xs := ([37, bt (⟨#[48, 49, 50, 51, 52, 53, 54, 55, 56, 57, 65, 66, 67, 68, 69, 70]⟩ : ByteArray) (ji56), bt (⟨#[48, 49, 50, 51, 52, 53, 54, 55, 56, 57, 65, 66, 67, 68, 69, 70]⟩ : ByteArray) (ji60)] : List Int)) (inner := [.int .u8 37, .int .u8 (bt (⟨#[48, 49, 50, 51, 52, 53, 54, 55, 56, 57, 65, 66, 67, 68, 69, 70]⟩ : ByteArray) (ji56)), .int .u8 (bt (⟨#[48, 49, 50, 51, 52, 53, 54, 55, 56, 57, 65, 66, 67, 68, 69, 70]⟩ : ByteArray) (ji60))]) (ok := fun _ => True) (okp := fun _ => True) ?hr ?hp (fun _ hk => hk) trivial (Below.refl _ _) (Nat.le_refl _) (by simp) ?_; (case hd => rfl); (case hg => rfl); (case hr => first | (go_simp; done) | (go_simp; rfl)); (case hp => exact (Reps.one (show Kd.M (Kd.int .u8) _ _ _ 37 [.int .u8 37] from rfl) (Reps.one (show Kd.M (Kd.int .u8) _ _ _ (bt (⟨#[48, 49, 50, 51, 52, 53, 54, 55, 56, 57, 65, 66, 67, 68, 69, 70]⟩ : ByteArray) (ji56)) [.int .u8 (bt (⟨#[48, 49, 50, 51, 52, 53, 54, 55, 56, 57, 65, 66, 67, 68, 69, 70]⟩ : ByteArray) (ji56))] from rfl) (Reps.one (show Kd.M (Kd.int .u8) _ _ _ (bt (⟨#[48, 49, 50, 51, 52, 53, 54, 55, 56, 57, 65, 66, 67, 68, 69, 70]⟩ : ByteArray) (ji60)) [.int .u8 (bt (⟨#[48, 49, 50, 51, 52, 53, 54, 55, 56, 57, 65, 66, 67, 68, 69, 70]⟩ : ByteArray) (ji60))] from rfl) (Reps.none _ _)))))
                                  intro v179 w66 ho67 hb hg_ hnew_
                                  clear hg_ hnew_
                                  (first | rw [← Ny178.out] at ho67 | (simp only [Int.reduceToNat] at ho67; rw [← Ny178.out] at ho67))
                                  have n0_ := Aside0.mk (Kd.R_lower ho67 (below_size (by repeat (first | (with_reducible first | exact HB.out | apply below_alloc | apply pw_below_drewN | apply below_drew1) | exact HB.out))))
                                  have n1_ := Aside0.mk (below_step (by repeat (first | (with_reducible first | exact HB.out | apply below_alloc | apply pw_below_drewN | apply below_drew1) | exact HB.out)) hb)
                                  clear HB
                                  have HO180 := n0_
                                  have HB := n1_
                                  clear n0_ n1_
                                  clear hb ho67
                                  refine hK.out _ _ trivial (fun hHeld => ?_)
                                  clear hK K
                                  refine norm_ (a' := ?_) ?_ ?_
                                  rotate_left
                                  · show Act.put _ (some 59) _ = _
                                    simp only [Act.put, List.setIfInBounds_toArray, List.set_cons_zero, List.set_cons_succ, i64_w, i32_w]
                                    rfl
                                  refine one_ (i := 8) (N := some 60) #[true, true, true, true, true, true, true, true, true, false, false] rfl rfl (one_of HT_.out (by kernel_rfl)) (by decide) (fun K hK => ?_)
                                  have hcv68 := own_string (P := Tryd.prog) Tryd.underlying48 Tryd.underlying5 Tryd.underlying9 (Kd.own_of_R HO180.out)
                                  refine value_ (w1 := ?_) (v := ?_) (by rfl) rfl ?_ ?_
                                  rotate_left 2
                                  · go_simp
                                    constructor
                                    · rfl
                                    · rfl
                                  clear hcv68
                                  refine hK.out _ _ trivial (fun hHeld => ?_)
                                  clear hK K
                                  refine norm_ (a' := ?_) ?_ ?_
                                  rotate_left
                                  · show Act.put _ (some 60) _ = _
                                    simp only [Act.put, List.setIfInBounds_toArray, List.set_cons_zero, List.set_cons_succ, i64_w, i32_w]
                                    rfl
                                  refine pure_ (i := 9) (N := some 61) (v := ?_) (a' := ?_) #[true, true, true, true, true, true, true, true, true, true, false] rfl rfl (any_of HT_.out (by kernel_rfl)) (fun _ _ _ h => h) (Or.inl ⟨by rfl, ?_⟩) ?_ ?_
                                  rotate_left
                                  · intro w'
                                    go_simp
                                    with_reducible rfl
                                  rotate_left
                                  · simp only [Act.put, List.setIfInBounds_toArray, List.set_cons_zero, List.set_cons_succ, i64_w, i32_w]
                                    rfl
                                  refine pure_ (i := 10) (N := some 3) (v := ?_) (a' := ?_) #[true, true, true, true, true, true, true, true, true, true, true] rfl rfl (any_of HT_.out (by kernel_rfl)) (fun _ _ _ h => h) (Or.inl ⟨by rfl, ?_⟩) ?_ ?_
                                  rotate_left
                                  · intro w'
                                    go_simp
                                    with_reducible rfl
                                  rotate_left
                                  · simp only [Act.put, List.setIfInBounds_toArray, List.set_cons_zero, List.set_cons_succ, i64_w, i32_w]
                                    rfl
                                  refine done_ (done_of HT_.out (by kernel_rfl)) ?_
                                  try go_wp2
                                  go_roundg k1
                                  case measure => have := HK1.out; omega
                                  case rel => exact ⟨(x3_1 ++ (strOfNums y178)), (wrap64 (x4_1 + 1)), (by first | rfl | (simp; done) | (simp [*]; done)), (by first | rfl | (simp; done) | (simp [*]; done)), H', ⟨by have := HK1.out; omega⟩, ⟨by repeat (first | (with_reducible first | exact HB.out | apply below_alloc | apply pw_below_drewN | apply below_drew1) | exact HB.out)⟩⟩
                                · rw [if_neg c64] at H
                                  exact absurd H (by simp)
                              · rw [if_neg c62] at H
                                exact absurd H (by simp)
                            · rw [if_neg c61] at H
                              exact absurd H (by simp)
                          · rw [if_neg c58] at H
                            exact absurd H (by simp)
                        · rw [if_neg c57] at H
                          exact absurd H (by simp)
              · rw [if_neg c11] at H
                have c11b0 : decide (65 ≤ (bt a0 x4_1)) = false := decide_eq_false c11
                clear c11
                by_cases c69 : (bt a0 x4_1) ≥ 48
                · rw [if_pos c69] at H
                  have c69b0 : decide (48 ≤ (bt a0 x4_1)) = true := decide_eq_true c69
                  clear c69
                  by_cases c70 : (bt a0 x4_1) ≤ 57
                  · rw [if_pos c70] at H
                    have c70b0 : decide ((bt a0 x4_1) ≤ 57) = true := decide_eq_true c70
                    clear c70
                    have c71b0 := eq_true (of_decide_eq_true (by first | (with_reducible assumption) | assumption) : 0 ≤ x4_1)
                    by_cases c72 : x4_1 ≤ (wrap64 (x4_1 + 1))
                    · rw [if_pos c72] at H
                      have c72b0 := eq_true c72
                      have c72b1 : decide (x4_1 ≤ (wrap64 (x4_1 + 1))) = true := decide_eq_true c72
                      by_cases c73 : (wrap64 (x4_1 + 1)) ≤ (a0.size : Int)
                      · rw [if_pos c73] at H
                        have c73b0 := eq_true c73
                        have c73b1 : decide ((wrap64 (x4_1 + 1)) ≤ (a0.size : Int)) = true := decide_eq_true c73
                        by_cases c74 : x3_1.size + (a0.extract (x4_1 : Int).toNat ((wrap64 (x4_1 + 1)) : Int).toNat).size ≤ 9223372036854775807
                        · rw [if_pos c74] at H
                          have c74b0 := eq_true c74
                          have c74b1 : decide (x3_1.size + (a0.extract (x4_1 : Int).toNat ((wrap64 (x4_1 + 1)) : Int).toNat).size ≤ 9223372036854775807) = true := decide_eq_true c74
                          try have c74b2 : (9223372036854775807 < x3_1.size + (a0.extract (x4_1 : Int).toNat ((wrap64 (x4_1 + 1)) : Int).toNat).size) = False := eq_false (Nat.not_lt.2 c74)
                          have H' := Aside0.mk H
                          clear H
                          have p4 : 0 ≤ (x4_1 : Int) := of_decide_eq_true (by first | (with_reducible assumption) | assumption)
                          have q4 : x4_1 < (a0.size : Int) := of_decide_eq_true (by first | (with_reducible assumption) | assumption)
                          have hx4 := bt_at a0 x4_1
                          replace p4 := eq_true p4
                          replace q4 := eq_true q4
                          go_wp2
                          go_roundg k1
                          case measure => have := HK1.out; omega
                          case rel => exact ⟨(x3_1 ++ (a0.extract (x4_1 : Int).toNat ((wrap64 (x4_1 + 1)) : Int).toNat)), (wrap64 (x4_1 + 1)), (by first | rfl | (simp; done) | (simp [*]; done)), (by first | rfl | (simp; done) | (simp [*]; done)), H', ⟨by have := HK1.out; omega⟩, ⟨by repeat (first | (with_reducible first | exact HB.out | apply below_alloc | apply pw_below_drewN | apply below_drew1) | exact HB.out)⟩⟩
                        · rw [if_neg c74] at H
                          exact absurd H (by simp)
                      · rw [if_neg c73] at H
                        exact absurd H (by simp)
                    · rw [if_neg c72] at H
                      exact absurd H (by simp)
                  · rw [if_neg c70] at H
                    have c70b0 : decide ((bt a0 x4_1) ≤ 57) = false := decide_eq_false c70
                    clear c70
                    by_cases c75 : (bt a0 x4_1) = 46
                    · rw [if_pos c75] at H
                      have c75b0 : ((bt a0 x4_1) == 46) = true := beq_iff_eq.mpr c75
                      have c75b1 : ((bt a0 x4_1) != 46) = false := bne_eq_false_iff_eq.mpr c75
                      clear c75
                      have c76b0 := eq_true (of_decide_eq_true (by first | (with_reducible assumption) | assumption) : 0 ≤ x4_1)
                      by_cases c77 : x4_1 ≤ (wrap64 (x4_1 + 1))
                      · rw [if_pos c77] at H
                        have c77b0 := eq_true c77
                        have c77b1 : decide (x4_1 ≤ (wrap64 (x4_1 + 1))) = true := decide_eq_true c77
                        by_cases c78 : (wrap64 (x4_1 + 1)) ≤ (a0.size : Int)
                        · rw [if_pos c78] at H
                          have c78b0 := eq_true c78
                          have c78b1 : decide ((wrap64 (x4_1 + 1)) ≤ (a0.size : Int)) = true := decide_eq_true c78
                          by_cases c79 : x3_1.size + (a0.extract (x4_1 : Int).toNat ((wrap64 (x4_1 + 1)) : Int).toNat).size ≤ 9223372036854775807
                          · rw [if_pos c79] at H
                            have c79b0 := eq_true c79
                            have c79b1 : decide (x3_1.size + (a0.extract (x4_1 : Int).toNat ((wrap64 (x4_1 + 1)) : Int).toNat).size ≤ 9223372036854775807) = true := decide_eq_true c79
                            try have c79b2 : (9223372036854775807 < x3_1.size + (a0.extract (x4_1 : Int).toNat ((wrap64 (x4_1 + 1)) : Int).toNat).size) = False := eq_false (Nat.not_lt.2 c79)
                            have H' := Aside0.mk H
                            clear H
                            have p4 : 0 ≤ (x4_1 : Int) := of_decide_eq_true (by first | (with_reducible assumption) | assumption)
                            have q4 : x4_1 < (a0.size : Int) := of_decide_eq_true (by first | (with_reducible assumption) | assumption)
                            have hx4 := bt_at a0 x4_1
                            replace p4 := eq_true p4
                            replace q4 := eq_true q4
                            go_wp2
                            go_roundg k1
                            case measure => have := HK1.out; omega
                            case rel => exact ⟨(x3_1 ++ (a0.extract (x4_1 : Int).toNat ((wrap64 (x4_1 + 1)) : Int).toNat)), (wrap64 (x4_1 + 1)), (by first | rfl | (simp; done) | (simp [*]; done)), (by first | rfl | (simp; done) | (simp [*]; done)), H', ⟨by have := HK1.out; omega⟩, ⟨by repeat (first | (with_reducible first | exact HB.out | apply below_alloc | apply pw_below_drewN | apply below_drew1) | exact HB.out)⟩⟩
                          · rw [if_neg c79] at H
                            exact absurd H (by simp)
                        · rw [if_neg c78] at H
                          exact absurd H (by simp)
                      · rw [if_neg c77] at H
                        exact absurd H (by simp)
                    · rw [if_neg c75] at H
                      have c75b0 : ((bt a0 x4_1) == 46) = false := beq_eq_false_iff_ne.mpr c75
                      have c75b1 : ((bt a0 x4_1) != 46) = true := bne_iff_ne.mpr c75
                      by_cases c80 : (bt a0 x4_1) = 95
                      · rw [if_pos c80] at H
                        have c80b0 : ((bt a0 x4_1) == 95) = true := beq_iff_eq.mpr c80
                        have c80b1 : ((bt a0 x4_1) != 95) = false := bne_eq_false_iff_eq.mpr c80
                        clear c80
                        have c81b0 := eq_true (of_decide_eq_true (by first | (with_reducible assumption) | assumption) : 0 ≤ x4_1)
                        by_cases c82 : x4_1 ≤ (wrap64 (x4_1 + 1))
                        · rw [if_pos c82] at H
                          have c82b0 := eq_true c82
                          have c82b1 : decide (x4_1 ≤ (wrap64 (x4_1 + 1))) = true := decide_eq_true c82
                          by_cases c83 : (wrap64 (x4_1 + 1)) ≤ (a0.size : Int)
                          · rw [if_pos c83] at H
                            have c83b0 := eq_true c83
                            have c83b1 : decide ((wrap64 (x4_1 + 1)) ≤ (a0.size : Int)) = true := decide_eq_true c83
                            by_cases c84 : x3_1.size + (a0.extract (x4_1 : Int).toNat ((wrap64 (x4_1 + 1)) : Int).toNat).size ≤ 9223372036854775807
                            · rw [if_pos c84] at H
                              have c84b0 := eq_true c84
                              have c84b1 : decide (x3_1.size + (a0.extract (x4_1 : Int).toNat ((wrap64 (x4_1 + 1)) : Int).toNat).size ≤ 9223372036854775807) = true := decide_eq_true c84
                              try have c84b2 : (9223372036854775807 < x3_1.size + (a0.extract (x4_1 : Int).toNat ((wrap64 (x4_1 + 1)) : Int).toNat).size) = False := eq_false (Nat.not_lt.2 c84)
                              have H' := Aside0.mk H
                              clear H
                              have p4 : 0 ≤ (x4_1 : Int) := of_decide_eq_true (by first | (with_reducible assumption) | assumption)
                              have q4 : x4_1 < (a0.size : Int) := of_decide_eq_true (by first | (with_reducible assumption) | assumption)
                              have hx4 := bt_at a0 x4_1
                              replace p4 := eq_true p4
                              replace q4 := eq_true q4
                              go_wp2
                              go_roundg k1
                              case measure => have := HK1.out; omega
                              case rel => exact ⟨(x3_1 ++ (a0.extract (x4_1 : Int).toNat ((wrap64 (x4_1 + 1)) : Int).toNat)), (wrap64 (x4_1 + 1)), (by first | rfl | (simp; done) | (simp [*]; done)), (by first | rfl | (simp; done) | (simp [*]; done)), H', ⟨by have := HK1.out; omega⟩, ⟨by repeat (first | (with_reducible first | exact HB.out | apply below_alloc | apply pw_below_drewN | apply below_drew1) | exact HB.out)⟩⟩
                            · rw [if_neg c84] at H
                              exact absurd H (by simp)
                          · rw [if_neg c83] at H
                            exact absurd H (by simp)
                        · rw [if_neg c82] at H
                          exact absurd H (by simp)
                      · rw [if_neg c80] at H
                        have c80b0 : ((bt a0 x4_1) == 95) = false := beq_eq_false_iff_ne.mpr c80
                        have c80b1 : ((bt a0 x4_1) != 95) = true := bne_iff_ne.mpr c80
                        obtain ⟨ji85, hji85⟩ : ∃ j_ : Int, ((Int.tdiv (bt a0 x4_1) 16) % 256) = j_ := ⟨_, rfl⟩
                        have hwji85 : IntKind.u8.wrap (Int.tdiv (bt a0 x4_1) 16) = ji85 := by rw [← hji85]; simp [IntKind.wrap, IntKind.bits, IntKind.signed]
                        replace H : (if 0 ≤ (ji85) then (if (ji85) < 16 then (if 0 ≤ (Int.tmod (bt a0 x4_1) 16) then (if (Int.tmod (bt a0 x4_1) 16) < 16 then ((some (([37, bt (⟨#[48, 49, 50, 51, 52, 53, 54, 55, 56, 57, 65, 66, 67, 68, 69, 70]⟩ : ByteArray) (ji85), bt (⟨#[48, 49, 50, 51, 52, 53, 54, 55, 56, 57, 65, 66, 67, 68, 69, 70]⟩ : ByteArray) (Int.tmod (bt a0 x4_1) 16)] : List Int) : List Int)).bind fun y181 => (if x3_1.size + (strOfNums y181).size ≤ 9223372036854775807 then (quadrigaref32_Text.l0 k1 a0 (x3_1 ++ (strOfNums y181)) (wrap64 (x4_1 + 1))) else (none))) else (none)) else (none)) else (none)) else (none)) = some r := by first | (rw [hji85] at H; exact H) | (simp only [hji85] at H ⊢; exact H)
                        by_cases c86 : 0 ≤ (ji85)
                        · rw [if_pos c86] at H
                          have c86b0 : decide (0 ≤ (ji85)) = true := decide_eq_true c86
                          clear c86
                          by_cases c87 : (ji85) < 16
                          · rw [if_pos c87] at H
                            have c87b0 : decide ((ji85) < 16) = true := decide_eq_true c87
                            clear c87
                            obtain ⟨ji89, hji89⟩ : ∃ j_ : Int, (Int.tmod (bt a0 x4_1) 16) = j_ := ⟨_, rfl⟩
                            replace H : (if 0 ≤ (ji89) then (if (ji89) < 16 then ((some (([37, bt (⟨#[48, 49, 50, 51, 52, 53, 54, 55, 56, 57, 65, 66, 67, 68, 69, 70]⟩ : ByteArray) (ji85), bt (⟨#[48, 49, 50, 51, 52, 53, 54, 55, 56, 57, 65, 66, 67, 68, 69, 70]⟩ : ByteArray) (ji89)] : List Int) : List Int)).bind fun y181 => (if x3_1.size + (strOfNums y181).size ≤ 9223372036854775807 then (quadrigaref32_Text.l0 k1 a0 (x3_1 ++ (strOfNums y181)) (wrap64 (x4_1 + 1))) else (none))) else (none)) else (none)) = some r := by first | (rw [hji89] at H; exact H) | (simp only [hji89] at H ⊢; exact H)
                            by_cases c90 : 0 ≤ (ji89)
                            · rw [if_pos c90] at H
                              have c90b0 : decide (0 ≤ (ji89)) = true := decide_eq_true c90
                              clear c90
                              by_cases c91 : (ji89) < 16
                              · rw [if_pos c91] at H
                                have c91b0 : decide ((ji89) < 16) = true := decide_eq_true c91
                                clear c91
                                obtain ⟨y181, hy181⟩ : ∃ y_ : List Int, y_ = (([37, bt (⟨#[48, 49, 50, 51, 52, 53, 54, 55, 56, 57, 65, 66, 67, 68, 69, 70]⟩ : ByteArray) (ji85), bt (⟨#[48, 49, 50, 51, 52, 53, 54, 55, 56, 57, 65, 66, 67, 68, 69, 70]⟩ : ByteArray) (ji89)] : List Int)) := ⟨_, rfl⟩
                                replace H : (if x3_1.size + (strOfNums y181).size ≤ 9223372036854775807 then (quadrigaref32_Text.l0 k1 a0 (x3_1 ++ (strOfNums y181)) (wrap64 (x4_1 + 1))) else (none)) = some r := by first | (rw [hy181]; with_reducible exact H) | (have H2_ := (Option.bind_some _ _).symm.trans H; rw [hy181]; with_reducible exact H2_) | (have H2_ := (Option.bind_some _ _).symm.trans H; with_reducible exact H2_) | with_reducible exact H | (rw [hy181]; exact H) | exact H
                                have Ny181 := Aside0.mk hy181
                                clear hy181
                                by_cases c93 : x3_1.size + (strOfNums y181).size ≤ 9223372036854775807
                                · rw [if_pos c93] at H
                                  have c93b0 := eq_true c93
                                  have c93b1 : decide (x3_1.size + (strOfNums y181).size ≤ 9223372036854775807) = true := decide_eq_true c93
                                  try have c93b2 : (9223372036854775807 < x3_1.size + (strOfNums y181).size) = False := eq_false (Nat.not_lt.2 c93)
                                  have H' := Aside0.mk H
                                  clear H
                                  have p4 : 0 ≤ (x4_1 : Int) := of_decide_eq_true (by first | (with_reducible assumption) | assumption)
                                  have q4 : x4_1 < (a0.size : Int) := of_decide_eq_true (by first | (with_reducible assumption) | assumption)
                                  have hx4 := bt_at a0 x4_1
                                  replace p4 := eq_true p4
                                  replace q4 := eq_true q4
                                  try go_wp2
                                  have n0_ := Aside0.mk (below_drew1 HB.out)
                                  clear HB
                                  have HB := n0_
                                  clear n0_
                                  have p88 : 0 ≤ ((ji85) : Int) := of_decide_eq_true (by first | (with_reducible assumption) | assumption)
                                  have q88 : (ji85) < (16 : Int) := of_decide_eq_true (by first | (with_reducible assumption) | assumption)
                                  have hx88 := bt_at (⟨#[48, 49, 50, 51, 52, 53, 54, 55, 56, 57, 65, 66, 67, 68, 69, 70]⟩ : ByteArray) (ji85)
                                  replace p88 := eq_true p88
                                  replace q88 := eq_true q88
                                  have p92 : 0 ≤ ((ji89) : Int) := of_decide_eq_true (by first | (with_reducible assumption) | assumption)
                                  have q92 : (ji89) < (16 : Int) := of_decide_eq_true (by first | (with_reducible assumption) | assumption)
                                  have hx92 := bt_at (⟨#[48, 49, 50, 51, 52, 53, 54, 55, 56, 57, 65, 66, 67, 68, 69, 70]⟩ : ByteArray) (ji89)
                                  replace p92 := eq_true p92
                                  replace q92 := eq_true q92
                                  refine start_ (n := 11) (S := fun w' => True) (ds := []) #[false, false, false, false, false, false, false, false, false, false, false] (by kernel_rfl) rfl rfl trivial (fun hHeld => ?_); refine with_tabW quadrigaref32_Text.tab8 quadrigaref32_Text.bits8 (fun HT_ HW_ => ?_)
                                  generalize wr.drew = w94 at HB hHeld ⊢
                                  refine pure_ (i := 0) (N := some 52) (v := ?_) (a' := ?_) #[true, false, false, false, false, false, false, false, false, false, false] rfl rfl (any_of HT_.out (by kernel_rfl)) (fun _ _ _ h => h) (Or.inl ⟨by rfl, ?_⟩) ?_ ?_
                                  rotate_left
                                  · intro w'
                                    go_simp
                                    with_reducible rfl
                                  rotate_left
                                  · simp only [Act.put, List.setIfInBounds_toArray, List.set_cons_zero, List.set_cons_succ, i64_w, i32_w]
                                    rfl
                                  refine pure_ (i := 1) (N := some 53) (v := ?_) (a' := ?_) #[true, true, false, false, false, false, false, false, false, false, false] rfl rfl (any_of HT_.out (by kernel_rfl)) (fun _ _ _ h => h) (Or.inl ⟨by rfl, ?_⟩) ?_ ?_
                                  rotate_left
                                  · intro w'
                                    go_simp
                                    with_reducible rfl
                                  rotate_left
                                  · simp only [Act.put, List.setIfInBounds_toArray, List.set_cons_zero, List.set_cons_succ, i64_w, i32_w]
                                    rfl
                                  refine pure_ (i := 2) (N := some 54) (v := ?_) (a' := ?_) #[true, true, true, false, false, false, false, false, false, false, false] rfl rfl (any_of HT_.out (by kernel_rfl)) (fun _ _ _ h => h) (Or.inl ⟨by rfl, ?_⟩) ?_ ?_
                                  rotate_left
                                  · intro w'
                                    go_simp
                                    with_reducible rfl
                                  rotate_left
                                  · simp only [Act.put, List.setIfInBounds_toArray, List.set_cons_zero, List.set_cons_succ, i64_w, i32_w]
                                    rfl
                                  refine pure_ (i := 4) (N := some 56) (v := ?_) (a' := ?_) #[true, true, true, false, true, false, false, false, false, false, false] rfl rfl (any_of HT_.out (by kernel_rfl)) (fun _ _ _ h => h) (Or.inl ⟨by rfl, ?_⟩) ?_ ?_
                                  rotate_left
                                  · intro w'
                                    go_simp
                                    with_reducible rfl
                                  rotate_left
                                  · simp only [Act.put, List.setIfInBounds_toArray, List.set_cons_zero, List.set_cons_succ, i64_w, i32_w]
                                    rfl
                                  refine pure_ (i := 5) (N := some 57) (v := ?_) (a' := ?_) #[true, true, true, false, true, true, false, false, false, false, false] rfl rfl (any_of HT_.out (by kernel_rfl)) (fun _ _ _ h => h) (Or.inl ⟨by rfl, ?_⟩) ?_ ?_
                                  rotate_left
                                  · intro w'
                                    go_simp
                                    with_reducible rfl
                                  rotate_left
                                  · simp only [Act.put, List.setIfInBounds_toArray, List.set_cons_zero, List.set_cons_succ, i64_w, i32_w]
                                    rfl
                                  refine take_ (i := 3) (N := some 55) (v := ?_) (a' := ?_) #[true, true, true, true, true, true, false, false, false, false, false] rfl rfl (take_ofW HT_.out HW_.out (by kernel_rfl)) (fun _ _ _ h => h) (Or.inl ⟨by rfl, ?_⟩) hHeld ?_ ?_
                                  rotate_left
                                  · intro w' _
                                    go_simp
                                    with_reducible rfl
                                  rotate_left
                                  · simp only [Act.put, List.setIfInBounds_toArray, List.set_cons_zero, List.set_cons_succ, i64_w, i32_w]
                                    rfl
                                  refine take_ (i := 6) (N := some 58) (v := ?_) (a' := ?_) #[true, true, true, true, true, true, true, false, false, false, false] rfl rfl (take_ofW HT_.out HW_.out (by kernel_rfl)) (fun _ _ _ h => h) (Or.inl ⟨by rfl, ?_⟩) hHeld ?_ ?_
                                  rotate_left
                                  · intro w' _
                                    go_simp
                                    with_reducible rfl
                                  rotate_left
                                  · simp only [Act.put, List.setIfInBounds_toArray, List.set_cons_zero, List.set_cons_succ, i64_w, i32_w]
                                    rfl
                                  refine one_ (i := 7) (N := some 59) #[true, true, true, true, true, true, true, true, false, false, false] rfl rfl (one_of HT_.out (by kernel_rfl)) (by decide) (fun K hK => ?_)
                                  refine Kd.R_lit_step (Kd.int .u8) _ 5 ?hg (N := 59) ?hd (xs := ([37, bt (⟨#[48, 49, 50, 51, 52, 53, 54, 55, 56, 57, 65, 66, 67, 68, 69, 70]⟩ : ByteArray) (ji85), bt (⟨#[48, 49, 50, 51, 52, 53, 54, 55, 56, 57, 65, 66, 67, 68, 69, 70]⟩ : ByteArray) (ji89)] : List Int)) (inner := [.int .u8 37, .int .u8 (bt (⟨#[48, 49, 50, 51, 52, 53, 54, 55, 56, 57, 65, 66, 67, 68, 69, 70]⟩ : ByteArray) (ji85)), .int .u8 (bt (⟨#[48, 49, 50, 51, 52, 53, 54, 55, 56, 57, 65, 66, 67, 68, 69, 70]⟩ : ByteArray) (ji89))]) (ok := fun _ => True) (okp := fun _ => True) ?hr ?hp (fun _ hk => hk) trivial (Below.refl _ _) (Nat.le_refl _) (by simp) ?_; (case hd => rfl); (case hg => rfl); (case hr => first | (go_simp; done) | (go_simp; rfl)); (case hp => exact (Reps.one (show Kd.M (Kd.int .u8) _ _ _ 37 [.int .u8 37] from rfl) (Reps.one (show Kd.M (Kd.int .u8) _ _ _ (bt (⟨#[48, 49, 50, 51, 52, 53, 54, 55, 56, 57, 65, 66, 67, 68, 69, 70]⟩ : ByteArray) (ji85)) [.int .u8 (bt (⟨#[48, 49, 50, 51, 52, 53, 54, 55, 56, 57, 65, 66, 67, 68, 69, 70]⟩ : ByteArray) (ji85))] from rfl) (Reps.one (show Kd.M (Kd.int .u8) _ _ _ (bt (⟨#[48, 49, 50, 51, 52, 53, 54, 55, 56, 57, 65, 66, 67, 68, 69, 70]⟩ : ByteArray) (ji89)) [.int .u8 (bt (⟨#[48, 49, 50, 51, 52, 53, 54, 55, 56, 57, 65, 66, 67, 68, 69, 70]⟩ : ByteArray) (ji89))] from rfl) (Reps.none _ _)))))
                                  intro v182 w95 ho96 hb hg_ hnew_
                                  clear hg_ hnew_
                                  (first | rw [← Ny181.out] at ho96 | (simp only [Int.reduceToNat] at ho96; rw [← Ny181.out] at ho96))
                                  have n0_ := Aside0.mk (Kd.R_lower ho96 (below_size (by repeat (first | (with_reducible first | exact HB.out | apply below_alloc | apply pw_below_drewN | apply below_drew1) | exact HB.out))))
                                  have n1_ := Aside0.mk (below_step (by repeat (first | (with_reducible first | exact HB.out | apply below_alloc | apply pw_below_drewN | apply below_drew1) | exact HB.out)) hb)
                                  clear HB
                                  have HO183 := n0_
                                  have HB := n1_
                                  clear n0_ n1_
                                  clear hb ho96
                                  refine hK.out _ _ trivial (fun hHeld => ?_)
                                  clear hK K
                                  refine norm_ (a' := ?_) ?_ ?_
                                  rotate_left
                                  · show Act.put _ (some 59) _ = _
                                    simp only [Act.put, List.setIfInBounds_toArray, List.set_cons_zero, List.set_cons_succ, i64_w, i32_w]
                                    rfl
                                  refine one_ (i := 8) (N := some 60) #[true, true, true, true, true, true, true, true, true, false, false] rfl rfl (one_of HT_.out (by kernel_rfl)) (by decide) (fun K hK => ?_)
                                  have hcv97 := own_string (P := Tryd.prog) Tryd.underlying48 Tryd.underlying5 Tryd.underlying9 (Kd.own_of_R HO183.out)
                                  refine value_ (w1 := ?_) (v := ?_) (by rfl) rfl ?_ ?_
                                  rotate_left 2
                                  · go_simp
                                    constructor
                                    · rfl
                                    · rfl
                                  clear hcv97
                                  refine hK.out _ _ trivial (fun hHeld => ?_)
                                  clear hK K
                                  refine norm_ (a' := ?_) ?_ ?_
                                  rotate_left
                                  · show Act.put _ (some 60) _ = _
                                    simp only [Act.put, List.setIfInBounds_toArray, List.set_cons_zero, List.set_cons_succ, i64_w, i32_w]
                                    rfl
                                  refine pure_ (i := 9) (N := some 61) (v := ?_) (a' := ?_) #[true, true, true, true, true, true, true, true, true, true, false] rfl rfl (any_of HT_.out (by kernel_rfl)) (fun _ _ _ h => h) (Or.inl ⟨by rfl, ?_⟩) ?_ ?_
                                  rotate_left
                                  · intro w'
                                    go_simp
                                    with_reducible rfl
                                  rotate_left
                                  · simp only [Act.put, List.setIfInBounds_toArray, List.set_cons_zero, List.set_cons_succ, i64_w, i32_w]
                                    rfl
                                  refine pure_ (i := 10) (N := some 3) (v := ?_) (a' := ?_) #[true, true, true, true, true, true, true, true, true, true, true] rfl rfl (any_of HT_.out (by kernel_rfl)) (fun _ _ _ h => h) (Or.inl ⟨by rfl, ?_⟩) ?_ ?_
                                  rotate_left
                                  · intro w'
                                    go_simp
                                    with_reducible rfl
                                  rotate_left
                                  · simp only [Act.put, List.setIfInBounds_toArray, List.set_cons_zero, List.set_cons_succ, i64_w, i32_w]
                                    rfl
                                  refine done_ (done_of HT_.out (by kernel_rfl)) ?_
                                  try go_wp2
                                  go_roundg k1
                                  case measure => have := HK1.out; omega
                                  case rel => exact ⟨(x3_1 ++ (strOfNums y181)), (wrap64 (x4_1 + 1)), (by first | rfl | (simp; done) | (simp [*]; done)), (by first | rfl | (simp; done) | (simp [*]; done)), H', ⟨by have := HK1.out; omega⟩, ⟨by repeat (first | (with_reducible first | exact HB.out | apply below_alloc | apply pw_below_drewN | apply below_drew1) | exact HB.out)⟩⟩
                                · rw [if_neg c93] at H
                                  exact absurd H (by simp)
                              · rw [if_neg c91] at H
                                exact absurd H (by simp)
                            · rw [if_neg c90] at H
                              exact absurd H (by simp)
                          · rw [if_neg c87] at H
                            exact absurd H (by simp)
                        · rw [if_neg c86] at H
                          exact absurd H (by simp)
                · rw [if_neg c69] at H
                  have c69b0 : decide (48 ≤ (bt a0 x4_1)) = false := decide_eq_false c69
                  clear c69
                  by_cases c98 : (bt a0 x4_1) = 46
                  · rw [if_pos c98] at H
                    have c98b0 : ((bt a0 x4_1) == 46) = true := beq_iff_eq.mpr c98
                    have c98b1 : ((bt a0 x4_1) != 46) = false := bne_eq_false_iff_eq.mpr c98
                    clear c98
                    have c99b0 := eq_true (of_decide_eq_true (by first | (with_reducible assumption) | assumption) : 0 ≤ x4_1)
                    by_cases c100 : x4_1 ≤ (wrap64 (x4_1 + 1))
                    · rw [if_pos c100] at H
                      have c100b0 := eq_true c100
                      have c100b1 : decide (x4_1 ≤ (wrap64 (x4_1 + 1))) = true := decide_eq_true c100
                      by_cases c101 : (wrap64 (x4_1 + 1)) ≤ (a0.size : Int)
                      · rw [if_pos c101] at H
                        have c101b0 := eq_true c101
                        have c101b1 : decide ((wrap64 (x4_1 + 1)) ≤ (a0.size : Int)) = true := decide_eq_true c101
                        by_cases c102 : x3_1.size + (a0.extract (x4_1 : Int).toNat ((wrap64 (x4_1 + 1)) : Int).toNat).size ≤ 9223372036854775807
                        · rw [if_pos c102] at H
                          have c102b0 := eq_true c102
                          have c102b1 : decide (x3_1.size + (a0.extract (x4_1 : Int).toNat ((wrap64 (x4_1 + 1)) : Int).toNat).size ≤ 9223372036854775807) = true := decide_eq_true c102
                          try have c102b2 : (9223372036854775807 < x3_1.size + (a0.extract (x4_1 : Int).toNat ((wrap64 (x4_1 + 1)) : Int).toNat).size) = False := eq_false (Nat.not_lt.2 c102)
                          have H' := Aside0.mk H
                          clear H
                          have p4 : 0 ≤ (x4_1 : Int) := of_decide_eq_true (by first | (with_reducible assumption) | assumption)
                          have q4 : x4_1 < (a0.size : Int) := of_decide_eq_true (by first | (with_reducible assumption) | assumption)
                          have hx4 := bt_at a0 x4_1
                          replace p4 := eq_true p4
                          replace q4 := eq_true q4
                          go_wp2
                          go_roundg k1
                          case measure => have := HK1.out; omega
                          case rel => exact ⟨(x3_1 ++ (a0.extract (x4_1 : Int).toNat ((wrap64 (x4_1 + 1)) : Int).toNat)), (wrap64 (x4_1 + 1)), (by first | rfl | (simp; done) | (simp [*]; done)), (by first | rfl | (simp; done) | (simp [*]; done)), H', ⟨by have := HK1.out; omega⟩, ⟨by repeat (first | (with_reducible first | exact HB.out | apply below_alloc | apply pw_below_drewN | apply below_drew1) | exact HB.out)⟩⟩
                        · rw [if_neg c102] at H
                          exact absurd H (by simp)
                      · rw [if_neg c101] at H
                        exact absurd H (by simp)
                    · rw [if_neg c100] at H
                      exact absurd H (by simp)
                  · rw [if_neg c98] at H
                    have c98b0 : ((bt a0 x4_1) == 46) = false := beq_eq_false_iff_ne.mpr c98
                    have c98b1 : ((bt a0 x4_1) != 46) = true := bne_iff_ne.mpr c98
                    by_cases c103 : (bt a0 x4_1) = 95
                    · rw [if_pos c103] at H
                      have c103b0 : ((bt a0 x4_1) == 95) = true := beq_iff_eq.mpr c103
                      have c103b1 : ((bt a0 x4_1) != 95) = false := bne_eq_false_iff_eq.mpr c103
                      clear c103
                      have c104b0 := eq_true (of_decide_eq_true (by first | (with_reducible assumption) | assumption) : 0 ≤ x4_1)
                      by_cases c105 : x4_1 ≤ (wrap64 (x4_1 + 1))
                      · rw [if_pos c105] at H
                        have c105b0 := eq_true c105
                        have c105b1 : decide (x4_1 ≤ (wrap64 (x4_1 + 1))) = true := decide_eq_true c105
                        by_cases c106 : (wrap64 (x4_1 + 1)) ≤ (a0.size : Int)
                        · rw [if_pos c106] at H
                          have c106b0 := eq_true c106
                          have c106b1 : decide ((wrap64 (x4_1 + 1)) ≤ (a0.size : Int)) = true := decide_eq_true c106
                          by_cases c107 : x3_1.size + (a0.extract (x4_1 : Int).toNat ((wrap64 (x4_1 + 1)) : Int).toNat).size ≤ 9223372036854775807
                          · rw [if_pos c107] at H
                            have c107b0 := eq_true c107
                            have c107b1 : decide (x3_1.size + (a0.extract (x4_1 : Int).toNat ((wrap64 (x4_1 + 1)) : Int).toNat).size ≤ 9223372036854775807) = true := decide_eq_true c107
                            try have c107b2 : (9223372036854775807 < x3_1.size + (a0.extract (x4_1 : Int).toNat ((wrap64 (x4_1 + 1)) : Int).toNat).size) = False := eq_false (Nat.not_lt.2 c107)
                            have H' := Aside0.mk H
                            clear H
                            have p4 : 0 ≤ (x4_1 : Int) := of_decide_eq_true (by first | (with_reducible assumption) | assumption)
                            have q4 : x4_1 < (a0.size : Int) := of_decide_eq_true (by first | (with_reducible assumption) | assumption)
                            have hx4 := bt_at a0 x4_1
                            replace p4 := eq_true p4
                            replace q4 := eq_true q4
                            go_wp2
                            go_roundg k1
                            case measure => have := HK1.out; omega
                            case rel => exact ⟨(x3_1 ++ (a0.extract (x4_1 : Int).toNat ((wrap64 (x4_1 + 1)) : Int).toNat)), (wrap64 (x4_1 + 1)), (by first | rfl | (simp; done) | (simp [*]; done)), (by first | rfl | (simp; done) | (simp [*]; done)), H', ⟨by have := HK1.out; omega⟩, ⟨by repeat (first | (with_reducible first | exact HB.out | apply below_alloc | apply pw_below_drewN | apply below_drew1) | exact HB.out)⟩⟩
                          · rw [if_neg c107] at H
                            exact absurd H (by simp)
                        · rw [if_neg c106] at H
                          exact absurd H (by simp)
                      · rw [if_neg c105] at H
                        exact absurd H (by simp)
                    · rw [if_neg c103] at H
                      have c103b0 : ((bt a0 x4_1) == 95) = false := beq_eq_false_iff_ne.mpr c103
                      have c103b1 : ((bt a0 x4_1) != 95) = true := bne_iff_ne.mpr c103
                      obtain ⟨ji108, hji108⟩ : ∃ j_ : Int, ((Int.tdiv (bt a0 x4_1) 16) % 256) = j_ := ⟨_, rfl⟩
                      have hwji108 : IntKind.u8.wrap (Int.tdiv (bt a0 x4_1) 16) = ji108 := by rw [← hji108]; simp [IntKind.wrap, IntKind.bits, IntKind.signed]
                      replace H : (if 0 ≤ (ji108) then (if (ji108) < 16 then (if 0 ≤ (Int.tmod (bt a0 x4_1) 16) then (if (Int.tmod (bt a0 x4_1) 16) < 16 then ((some (([37, bt (⟨#[48, 49, 50, 51, 52, 53, 54, 55, 56, 57, 65, 66, 67, 68, 69, 70]⟩ : ByteArray) (ji108), bt (⟨#[48, 49, 50, 51, 52, 53, 54, 55, 56, 57, 65, 66, 67, 68, 69, 70]⟩ : ByteArray) (Int.tmod (bt a0 x4_1) 16)] : List Int) : List Int)).bind fun y184 => (if x3_1.size + (strOfNums y184).size ≤ 9223372036854775807 then (quadrigaref32_Text.l0 k1 a0 (x3_1 ++ (strOfNums y184)) (wrap64 (x4_1 + 1))) else (none))) else (none)) else (none)) else (none)) else (none)) = some r := by first | (rw [hji108] at H; exact H) | (simp only [hji108] at H ⊢; exact H)
                      by_cases c109 : 0 ≤ (ji108)
                      · rw [if_pos c109] at H
                        have c109b0 : decide (0 ≤ (ji108)) = true := decide_eq_true c109
                        clear c109
                        by_cases c110 : (ji108) < 16
                        · rw [if_pos c110] at H
                          have c110b0 : decide ((ji108) < 16) = true := decide_eq_true c110
                          clear c110
                          obtain ⟨ji112, hji112⟩ : ∃ j_ : Int, (Int.tmod (bt a0 x4_1) 16) = j_ := ⟨_, rfl⟩
                          replace H : (if 0 ≤ (ji112) then (if (ji112) < 16 then ((some (([37, bt (⟨#[48, 49, 50, 51, 52, 53, 54, 55, 56, 57, 65, 66, 67, 68, 69, 70]⟩ : ByteArray) (ji108), bt (⟨#[48, 49, 50, 51, 52, 53, 54, 55, 56, 57, 65, 66, 67, 68, 69, 70]⟩ : ByteArray) (ji112)] : List Int) : List Int)).bind fun y184 => (if x3_1.size + (strOfNums y184).size ≤ 9223372036854775807 then (quadrigaref32_Text.l0 k1 a0 (x3_1 ++ (strOfNums y184)) (wrap64 (x4_1 + 1))) else (none))) else (none)) else (none)) = some r := by first | (rw [hji112] at H; exact H) | (simp only [hji112] at H ⊢; exact H)
                          by_cases c113 : 0 ≤ (ji112)
                          · rw [if_pos c113] at H
                            have c113b0 : decide (0 ≤ (ji112)) = true := decide_eq_true c113
                            clear c113
                            by_cases c114 : (ji112) < 16
                            · rw [if_pos c114] at H
                              have c114b0 : decide ((ji112) < 16) = true := decide_eq_true c114
                              clear c114
                              obtain ⟨y184, hy184⟩ : ∃ y_ : List Int, y_ = (([37, bt (⟨#[48, 49, 50, 51, 52, 53, 54, 55, 56, 57, 65, 66, 67, 68, 69, 70]⟩ : ByteArray) (ji108), bt (⟨#[48, 49, 50, 51, 52, 53, 54, 55, 56, 57, 65, 66, 67, 68, 69, 70]⟩ : ByteArray) (ji112)] : List Int)) := ⟨_, rfl⟩
                              replace H : (if x3_1.size + (strOfNums y184).size ≤ 9223372036854775807 then (quadrigaref32_Text.l0 k1 a0 (x3_1 ++ (strOfNums y184)) (wrap64 (x4_1 + 1))) else (none)) = some r := by first | (rw [hy184]; with_reducible exact H) | (have H2_ := (Option.bind_some _ _).symm.trans H; rw [hy184]; with_reducible exact H2_) | (have H2_ := (Option.bind_some _ _).symm.trans H; with_reducible exact H2_) | with_reducible exact H | (rw [hy184]; exact H) | exact H
                              have Ny184 := Aside0.mk hy184
                              clear hy184
                              by_cases c116 : x3_1.size + (strOfNums y184).size ≤ 9223372036854775807
                              · rw [if_pos c116] at H
                                have c116b0 := eq_true c116
                                have c116b1 : decide (x3_1.size + (strOfNums y184).size ≤ 9223372036854775807) = true := decide_eq_true c116
                                try have c116b2 : (9223372036854775807 < x3_1.size + (strOfNums y184).size) = False := eq_false (Nat.not_lt.2 c116)
                                have H' := Aside0.mk H
                                clear H
                                have p4 : 0 ≤ (x4_1 : Int) := of_decide_eq_true (by first | (with_reducible assumption) | assumption)
                                have q4 : x4_1 < (a0.size : Int) := of_decide_eq_true (by first | (with_reducible assumption) | assumption)
                                have hx4 := bt_at a0 x4_1
                                replace p4 := eq_true p4
                                replace q4 := eq_true q4
                                try go_wp2
                                have n0_ := Aside0.mk (below_drew1 HB.out)
                                clear HB
                                have HB := n0_
                                clear n0_
                                have p111 : 0 ≤ ((ji108) : Int) := of_decide_eq_true (by first | (with_reducible assumption) | assumption)
                                have q111 : (ji108) < (16 : Int) := of_decide_eq_true (by first | (with_reducible assumption) | assumption)
                                have hx111 := bt_at (⟨#[48, 49, 50, 51, 52, 53, 54, 55, 56, 57, 65, 66, 67, 68, 69, 70]⟩ : ByteArray) (ji108)
                                replace p111 := eq_true p111
                                replace q111 := eq_true q111
                                have p115 : 0 ≤ ((ji112) : Int) := of_decide_eq_true (by first | (with_reducible assumption) | assumption)
                                have q115 : (ji112) < (16 : Int) := of_decide_eq_true (by first | (with_reducible assumption) | assumption)
                                have hx115 := bt_at (⟨#[48, 49, 50, 51, 52, 53, 54, 55, 56, 57, 65, 66, 67, 68, 69, 70]⟩ : ByteArray) (ji112)
                                replace p115 := eq_true p115
                                replace q115 := eq_true q115
                                refine start_ (n := 11) (S := fun w' => True) (ds := []) #[false, false, false, false, false, false, false, false, false, false, false] (by kernel_rfl) rfl rfl trivial (fun hHeld => ?_); refine with_tabW quadrigaref32_Text.tab8 quadrigaref32_Text.bits8 (fun HT_ HW_ => ?_)
                                generalize wr.drew = w117 at HB hHeld ⊢
                                refine pure_ (i := 0) (N := some 52) (v := ?_) (a' := ?_) #[true, false, false, false, false, false, false, false, false, false, false] rfl rfl (any_of HT_.out (by kernel_rfl)) (fun _ _ _ h => h) (Or.inl ⟨by rfl, ?_⟩) ?_ ?_
                                rotate_left
                                · intro w'
                                  go_simp
                                  with_reducible rfl
                                rotate_left
                                · simp only [Act.put, List.setIfInBounds_toArray, List.set_cons_zero, List.set_cons_succ, i64_w, i32_w]
                                  rfl
                                refine pure_ (i := 1) (N := some 53) (v := ?_) (a' := ?_) #[true, true, false, false, false, false, false, false, false, false, false] rfl rfl (any_of HT_.out (by kernel_rfl)) (fun _ _ _ h => h) (Or.inl ⟨by rfl, ?_⟩) ?_ ?_
                                rotate_left
                                · intro w'
                                  go_simp
                                  with_reducible rfl
                                rotate_left
                                · simp only [Act.put, List.setIfInBounds_toArray, List.set_cons_zero, List.set_cons_succ, i64_w, i32_w]
                                  rfl
                                refine pure_ (i := 2) (N := some 54) (v := ?_) (a' := ?_) #[true, true, true, false, false, false, false, false, false, false, false] rfl rfl (any_of HT_.out (by kernel_rfl)) (fun _ _ _ h => h) (Or.inl ⟨by rfl, ?_⟩) ?_ ?_
                                rotate_left
                                · intro w'
                                  go_simp
                                  with_reducible rfl
                                rotate_left
                                · simp only [Act.put, List.setIfInBounds_toArray, List.set_cons_zero, List.set_cons_succ, i64_w, i32_w]
                                  rfl
                                refine pure_ (i := 4) (N := some 56) (v := ?_) (a' := ?_) #[true, true, true, false, true, false, false, false, false, false, false] rfl rfl (any_of HT_.out (by kernel_rfl)) (fun _ _ _ h => h) (Or.inl ⟨by rfl, ?_⟩) ?_ ?_
                                rotate_left
                                · intro w'
                                  go_simp
                                  with_reducible rfl
                                rotate_left
                                · simp only [Act.put, List.setIfInBounds_toArray, List.set_cons_zero, List.set_cons_succ, i64_w, i32_w]
                                  rfl
                                refine pure_ (i := 5) (N := some 57) (v := ?_) (a' := ?_) #[true, true, true, false, true, true, false, false, false, false, false] rfl rfl (any_of HT_.out (by kernel_rfl)) (fun _ _ _ h => h) (Or.inl ⟨by rfl, ?_⟩) ?_ ?_
                                rotate_left
                                · intro w'
                                  go_simp
                                  with_reducible rfl
                                rotate_left
                                · simp only [Act.put, List.setIfInBounds_toArray, List.set_cons_zero, List.set_cons_succ, i64_w, i32_w]
                                  rfl
                                refine take_ (i := 3) (N := some 55) (v := ?_) (a' := ?_) #[true, true, true, true, true, true, false, false, false, false, false] rfl rfl (take_ofW HT_.out HW_.out (by kernel_rfl)) (fun _ _ _ h => h) (Or.inl ⟨by rfl, ?_⟩) hHeld ?_ ?_
                                rotate_left
                                · intro w' _
                                  go_simp
                                  with_reducible rfl
                                rotate_left
                                · simp only [Act.put, List.setIfInBounds_toArray, List.set_cons_zero, List.set_cons_succ, i64_w, i32_w]
                                  rfl
                                refine take_ (i := 6) (N := some 58) (v := ?_) (a' := ?_) #[true, true, true, true, true, true, true, false, false, false, false] rfl rfl (take_ofW HT_.out HW_.out (by kernel_rfl)) (fun _ _ _ h => h) (Or.inl ⟨by rfl, ?_⟩) hHeld ?_ ?_
                                rotate_left
                                · intro w' _
                                  go_simp
                                  with_reducible rfl
                                rotate_left
                                · simp only [Act.put, List.setIfInBounds_toArray, List.set_cons_zero, List.set_cons_succ, i64_w, i32_w]
                                  rfl
                                refine one_ (i := 7) (N := some 59) #[true, true, true, true, true, true, true, true, false, false, false] rfl rfl (one_of HT_.out (by kernel_rfl)) (by decide) (fun K hK => ?_)
                                refine Kd.R_lit_step (Kd.int .u8) _ 5 ?hg (N := 59) ?hd (xs := ([37, bt (⟨#[48, 49, 50, 51, 52, 53, 54, 55, 56, 57, 65, 66, 67, 68, 69, 70]⟩ : ByteArray) (ji108), bt (⟨#[48, 49, 50, 51, 52, 53, 54, 55, 56, 57, 65, 66, 67, 68, 69, 70]⟩ : ByteArray) (ji112)] : List Int)) (inner := [.int .u8 37, .int .u8 (bt (⟨#[48, 49, 50, 51, 52, 53, 54, 55, 56, 57, 65, 66, 67, 68, 69, 70]⟩ : ByteArray) (ji108)), .int .u8 (bt (⟨#[48, 49, 50, 51, 52, 53, 54, 55, 56, 57, 65, 66, 67, 68, 69, 70]⟩ : ByteArray) (ji112))]) (ok := fun _ => True) (okp := fun _ => True) ?hr ?hp (fun _ hk => hk) trivial (Below.refl _ _) (Nat.le_refl _) (by simp) ?_; (case hd => rfl); (case hg => rfl); (case hr => first | (go_simp; done) | (go_simp; rfl)); (case hp => exact (Reps.one (show Kd.M (Kd.int .u8) _ _ _ 37 [.int .u8 37] from rfl) (Reps.one (show Kd.M (Kd.int .u8) _ _ _ (bt (⟨#[48, 49, 50, 51, 52, 53, 54, 55, 56, 57, 65, 66, 67, 68, 69, 70]⟩ : ByteArray) (ji108)) [.int .u8 (bt (⟨#[48, 49, 50, 51, 52, 53, 54, 55, 56, 57, 65, 66, 67, 68, 69, 70]⟩ : ByteArray) (ji108))] from rfl) (Reps.one (show Kd.M (Kd.int .u8) _ _ _ (bt (⟨#[48, 49, 50, 51, 52, 53, 54, 55, 56, 57, 65, 66, 67, 68, 69, 70]⟩ : ByteArray) (ji112)) [.int .u8 (bt (⟨#[48, 49, 50, 51, 52, 53, 54, 55, 56, 57, 65, 66, 67, 68, 69, 70]⟩ : ByteArray) (ji112))] from rfl) (Reps.none _ _)))))
                                intro v185 w118 ho119 hb hg_ hnew_
                                clear hg_ hnew_
                                (first | rw [← Ny184.out] at ho119 | (simp only [Int.reduceToNat] at ho119; rw [← Ny184.out] at ho119))
                                have n0_ := Aside0.mk (Kd.R_lower ho119 (below_size (by repeat (first | (with_reducible first | exact HB.out | apply below_alloc | apply pw_below_drewN | apply below_drew1) | exact HB.out))))
                                have n1_ := Aside0.mk (below_step (by repeat (first | (with_reducible first | exact HB.out | apply below_alloc | apply pw_below_drewN | apply below_drew1) | exact HB.out)) hb)
                                clear HB
                                have HO186 := n0_
                                have HB := n1_
                                clear n0_ n1_
                                clear hb ho119
                                refine hK.out _ _ trivial (fun hHeld => ?_)
                                clear hK K
                                refine norm_ (a' := ?_) ?_ ?_
                                rotate_left
                                · show Act.put _ (some 59) _ = _
                                  simp only [Act.put, List.setIfInBounds_toArray, List.set_cons_zero, List.set_cons_succ, i64_w, i32_w]
                                  rfl
                                refine one_ (i := 8) (N := some 60) #[true, true, true, true, true, true, true, true, true, false, false] rfl rfl (one_of HT_.out (by kernel_rfl)) (by decide) (fun K hK => ?_)
                                have hcv120 := own_string (P := Tryd.prog) Tryd.underlying48 Tryd.underlying5 Tryd.underlying9 (Kd.own_of_R HO186.out)
                                refine value_ (w1 := ?_) (v := ?_) (by rfl) rfl ?_ ?_
                                rotate_left 2
                                · go_simp
                                  constructor
                                  · rfl
                                  · rfl
                                clear hcv120
                                refine hK.out _ _ trivial (fun hHeld => ?_)
                                clear hK K
                                refine norm_ (a' := ?_) ?_ ?_
                                rotate_left
                                · show Act.put _ (some 60) _ = _
                                  simp only [Act.put, List.setIfInBounds_toArray, List.set_cons_zero, List.set_cons_succ, i64_w, i32_w]
                                  rfl
                                refine pure_ (i := 9) (N := some 61) (v := ?_) (a' := ?_) #[true, true, true, true, true, true, true, true, true, true, false] rfl rfl (any_of HT_.out (by kernel_rfl)) (fun _ _ _ h => h) (Or.inl ⟨by rfl, ?_⟩) ?_ ?_
                                rotate_left
                                · intro w'
                                  go_simp
                                  with_reducible rfl
                                rotate_left
                                · simp only [Act.put, List.setIfInBounds_toArray, List.set_cons_zero, List.set_cons_succ, i64_w, i32_w]
                                  rfl
                                refine pure_ (i := 10) (N := some 3) (v := ?_) (a' := ?_) #[true, true, true, true, true, true, true, true, true, true, true] rfl rfl (any_of HT_.out (by kernel_rfl)) (fun _ _ _ h => h) (Or.inl ⟨by rfl, ?_⟩) ?_ ?_
                                rotate_left
                                · intro w'
                                  go_simp
                                  with_reducible rfl
                                rotate_left
                                · simp only [Act.put, List.setIfInBounds_toArray, List.set_cons_zero, List.set_cons_succ, i64_w, i32_w]
                                  rfl
                                refine done_ (done_of HT_.out (by kernel_rfl)) ?_
                                try go_wp2
                                go_roundg k1
                                case measure => have := HK1.out; omega
                                case rel => exact ⟨(x3_1 ++ (strOfNums y184)), (wrap64 (x4_1 + 1)), (by first | rfl | (simp; done) | (simp [*]; done)), (by first | rfl | (simp; done) | (simp [*]; done)), H', ⟨by have := HK1.out; omega⟩, ⟨by repeat (first | (with_reducible first | exact HB.out | apply below_alloc | apply pw_below_drewN | apply below_drew1) | exact HB.out)⟩⟩
                              · rw [if_neg c116] at H
                                exact absurd H (by simp)
                            · rw [if_neg c114] at H
                              exact absurd H (by simp)
                          · rw [if_neg c113] at H
                            exact absurd H (by simp)
                        · rw [if_neg c110] at H
                          exact absurd H (by simp)
                      · rw [if_neg c109] at H
                        exact absurd H (by simp)
          · rw [if_neg c5] at H
            have c5b0 : decide (97 ≤ (bt a0 x4_1)) = false := decide_eq_false c5
            clear c5
            by_cases c121 : (bt a0 x4_1) ≥ 65
            · rw [if_pos c121] at H
              have c121b0 : decide (65 ≤ (bt a0 x4_1)) = true := decide_eq_true c121
              clear c121
              by_cases c122 : (bt a0 x4_1) ≤ 90
              · rw [if_pos c122] at H
                have c122b0 : decide ((bt a0 x4_1) ≤ 90) = true := decide_eq_true c122
                clear c122
                have c123b0 := eq_true (of_decide_eq_true (by first | (with_reducible assumption) | assumption) : 0 ≤ x4_1)
                by_cases c124 : x4_1 ≤ (wrap64 (x4_1 + 1))
                · rw [if_pos c124] at H
                  have c124b0 := eq_true c124
                  have c124b1 : decide (x4_1 ≤ (wrap64 (x4_1 + 1))) = true := decide_eq_true c124
                  by_cases c125 : (wrap64 (x4_1 + 1)) ≤ (a0.size : Int)
                  · rw [if_pos c125] at H
                    have c125b0 := eq_true c125
                    have c125b1 : decide ((wrap64 (x4_1 + 1)) ≤ (a0.size : Int)) = true := decide_eq_true c125
                    by_cases c126 : x3_1.size + (a0.extract (x4_1 : Int).toNat ((wrap64 (x4_1 + 1)) : Int).toNat).size ≤ 9223372036854775807
                    · rw [if_pos c126] at H
                      have c126b0 := eq_true c126
                      have c126b1 : decide (x3_1.size + (a0.extract (x4_1 : Int).toNat ((wrap64 (x4_1 + 1)) : Int).toNat).size ≤ 9223372036854775807) = true := decide_eq_true c126
                      try have c126b2 : (9223372036854775807 < x3_1.size + (a0.extract (x4_1 : Int).toNat ((wrap64 (x4_1 + 1)) : Int).toNat).size) = False := eq_false (Nat.not_lt.2 c126)
                      have H' := Aside0.mk H
                      clear H
                      have p4 : 0 ≤ (x4_1 : Int) := of_decide_eq_true (by first | (with_reducible assumption) | assumption)
                      have q4 : x4_1 < (a0.size : Int) := of_decide_eq_true (by first | (with_reducible assumption) | assumption)
                      have hx4 := bt_at a0 x4_1
                      replace p4 := eq_true p4
                      replace q4 := eq_true q4
                      go_wp2
                      go_roundg k1
                      case measure => have := HK1.out; omega
                      case rel => exact ⟨(x3_1 ++ (a0.extract (x4_1 : Int).toNat ((wrap64 (x4_1 + 1)) : Int).toNat)), (wrap64 (x4_1 + 1)), (by first | rfl | (simp; done) | (simp [*]; done)), (by first | rfl | (simp; done) | (simp [*]; done)), H', ⟨by have := HK1.out; omega⟩, ⟨by repeat (first | (with_reducible first | exact HB.out | apply below_alloc | apply pw_below_drewN | apply below_drew1) | exact HB.out)⟩⟩
                    · rw [if_neg c126] at H
                      exact absurd H (by simp)
                  · rw [if_neg c125] at H
                    exact absurd H (by simp)
                · rw [if_neg c124] at H
                  exact absurd H (by simp)
              · rw [if_neg c122] at H
                have c122b0 : decide ((bt a0 x4_1) ≤ 90) = false := decide_eq_false c122
                clear c122
                by_cases c127 : (bt a0 x4_1) ≥ 48
                · rw [if_pos c127] at H
                  have c127b0 : decide (48 ≤ (bt a0 x4_1)) = true := decide_eq_true c127
                  clear c127
                  by_cases c128 : (bt a0 x4_1) ≤ 57
                  · rw [if_pos c128] at H
                    have c128b0 : decide ((bt a0 x4_1) ≤ 57) = true := decide_eq_true c128
                    clear c128
                    have c129b0 := eq_true (of_decide_eq_true (by first | (with_reducible assumption) | assumption) : 0 ≤ x4_1)
                    by_cases c130 : x4_1 ≤ (wrap64 (x4_1 + 1))
                    · rw [if_pos c130] at H
                      have c130b0 := eq_true c130
                      have c130b1 : decide (x4_1 ≤ (wrap64 (x4_1 + 1))) = true := decide_eq_true c130
                      by_cases c131 : (wrap64 (x4_1 + 1)) ≤ (a0.size : Int)
                      · rw [if_pos c131] at H
                        have c131b0 := eq_true c131
                        have c131b1 : decide ((wrap64 (x4_1 + 1)) ≤ (a0.size : Int)) = true := decide_eq_true c131
                        by_cases c132 : x3_1.size + (a0.extract (x4_1 : Int).toNat ((wrap64 (x4_1 + 1)) : Int).toNat).size ≤ 9223372036854775807
                        · rw [if_pos c132] at H
                          have c132b0 := eq_true c132
                          have c132b1 : decide (x3_1.size + (a0.extract (x4_1 : Int).toNat ((wrap64 (x4_1 + 1)) : Int).toNat).size ≤ 9223372036854775807) = true := decide_eq_true c132
                          try have c132b2 : (9223372036854775807 < x3_1.size + (a0.extract (x4_1 : Int).toNat ((wrap64 (x4_1 + 1)) : Int).toNat).size) = False := eq_false (Nat.not_lt.2 c132)
                          have H' := Aside0.mk H
                          clear H
                          have p4 : 0 ≤ (x4_1 : Int) := of_decide_eq_true (by first | (with_reducible assumption) | assumption)
                          have q4 : x4_1 < (a0.size : Int) := of_decide_eq_true (by first | (with_reducible assumption) | assumption)
                          have hx4 := bt_at a0 x4_1
                          replace p4 := eq_true p4
                          replace q4 := eq_true q4
                          go_wp2
                          go_roundg k1
                          case measure => have := HK1.out; omega
                          case rel => exact ⟨(x3_1 ++ (a0.extract (x4_1 : Int).toNat ((wrap64 (x4_1 + 1)) : Int).toNat)), (wrap64 (x4_1 + 1)), (by first | rfl | (simp; done) | (simp [*]; done)), (by first | rfl | (simp; done) | (simp [*]; done)), H', ⟨by have := HK1.out; omega⟩, ⟨by repeat (first | (with_reducible first | exact HB.out | apply below_alloc | apply pw_below_drewN | apply below_drew1) | exact HB.out)⟩⟩
                        · rw [if_neg c132] at H
                          exact absurd H (by simp)
                      · rw [if_neg c131] at H
                        exact absurd H (by simp)
                    · rw [if_neg c130] at H
                      exact absurd H (by simp)
                  · rw [if_neg c128] at H
                    have c128b0 : decide ((bt a0 x4_1) ≤ 57) = false := decide_eq_false c128
                    clear c128
                    by_cases c133 : (bt a0 x4_1) = 46
                    · rw [if_pos c133] at H
                      have c133b0 : ((bt a0 x4_1) == 46) = true := beq_iff_eq.mpr c133
                      have c133b1 : ((bt a0 x4_1) != 46) = false := bne_eq_false_iff_eq.mpr c133
                      clear c133
                      have c134b0 := eq_true (of_decide_eq_true (by first | (with_reducible assumption) | assumption) : 0 ≤ x4_1)
                      by_cases c135 : x4_1 ≤ (wrap64 (x4_1 + 1))
                      · rw [if_pos c135] at H
                        have c135b0 := eq_true c135
                        have c135b1 : decide (x4_1 ≤ (wrap64 (x4_1 + 1))) = true := decide_eq_true c135
                        by_cases c136 : (wrap64 (x4_1 + 1)) ≤ (a0.size : Int)
                        · rw [if_pos c136] at H
                          have c136b0 := eq_true c136
                          have c136b1 : decide ((wrap64 (x4_1 + 1)) ≤ (a0.size : Int)) = true := decide_eq_true c136
                          by_cases c137 : x3_1.size + (a0.extract (x4_1 : Int).toNat ((wrap64 (x4_1 + 1)) : Int).toNat).size ≤ 9223372036854775807
                          · rw [if_pos c137] at H
                            have c137b0 := eq_true c137
                            have c137b1 : decide (x3_1.size + (a0.extract (x4_1 : Int).toNat ((wrap64 (x4_1 + 1)) : Int).toNat).size ≤ 9223372036854775807) = true := decide_eq_true c137
                            try have c137b2 : (9223372036854775807 < x3_1.size + (a0.extract (x4_1 : Int).toNat ((wrap64 (x4_1 + 1)) : Int).toNat).size) = False := eq_false (Nat.not_lt.2 c137)
                            have H' := Aside0.mk H
                            clear H
                            have p4 : 0 ≤ (x4_1 : Int) := of_decide_eq_true (by first | (with_reducible assumption) | assumption)
                            have q4 : x4_1 < (a0.size : Int) := of_decide_eq_true (by first | (with_reducible assumption) | assumption)
                            have hx4 := bt_at a0 x4_1
                            replace p4 := eq_true p4
                            replace q4 := eq_true q4
                            go_wp2
                            go_roundg k1
                            case measure => have := HK1.out; omega
                            case rel => exact ⟨(x3_1 ++ (a0.extract (x4_1 : Int).toNat ((wrap64 (x4_1 + 1)) : Int).toNat)), (wrap64 (x4_1 + 1)), (by first | rfl | (simp; done) | (simp [*]; done)), (by first | rfl | (simp; done) | (simp [*]; done)), H', ⟨by have := HK1.out; omega⟩, ⟨by repeat (first | (with_reducible first | exact HB.out | apply below_alloc | apply pw_below_drewN | apply below_drew1) | exact HB.out)⟩⟩
                          · rw [if_neg c137] at H
                            exact absurd H (by simp)
                        · rw [if_neg c136] at H
                          exact absurd H (by simp)
                      · rw [if_neg c135] at H
                        exact absurd H (by simp)
                    · rw [if_neg c133] at H
                      have c133b0 : ((bt a0 x4_1) == 46) = false := beq_eq_false_iff_ne.mpr c133
                      have c133b1 : ((bt a0 x4_1) != 46) = true := bne_iff_ne.mpr c133
                      by_cases c138 : (bt a0 x4_1) = 95
                      · rw [if_pos c138] at H
                        have c138b0 : ((bt a0 x4_1) == 95) = true := beq_iff_eq.mpr c138
                        have c138b1 : ((bt a0 x4_1) != 95) = false := bne_eq_false_iff_eq.mpr c138
                        clear c138
                        have c139b0 := eq_true (of_decide_eq_true (by first | (with_reducible assumption) | assumption) : 0 ≤ x4_1)
                        by_cases c140 : x4_1 ≤ (wrap64 (x4_1 + 1))
                        · rw [if_pos c140] at H
                          have c140b0 := eq_true c140
                          have c140b1 : decide (x4_1 ≤ (wrap64 (x4_1 + 1))) = true := decide_eq_true c140
                          by_cases c141 : (wrap64 (x4_1 + 1)) ≤ (a0.size : Int)
                          · rw [if_pos c141] at H
                            have c141b0 := eq_true c141
                            have c141b1 : decide ((wrap64 (x4_1 + 1)) ≤ (a0.size : Int)) = true := decide_eq_true c141
                            by_cases c142 : x3_1.size + (a0.extract (x4_1 : Int).toNat ((wrap64 (x4_1 + 1)) : Int).toNat).size ≤ 9223372036854775807
                            · rw [if_pos c142] at H
                              have c142b0 := eq_true c142
                              have c142b1 : decide (x3_1.size + (a0.extract (x4_1 : Int).toNat ((wrap64 (x4_1 + 1)) : Int).toNat).size ≤ 9223372036854775807) = true := decide_eq_true c142
                              try have c142b2 : (9223372036854775807 < x3_1.size + (a0.extract (x4_1 : Int).toNat ((wrap64 (x4_1 + 1)) : Int).toNat).size) = False := eq_false (Nat.not_lt.2 c142)
                              have H' := Aside0.mk H
                              clear H
                              have p4 : 0 ≤ (x4_1 : Int) := of_decide_eq_true (by first | (with_reducible assumption) | assumption)
                              have q4 : x4_1 < (a0.size : Int) := of_decide_eq_true (by first | (with_reducible assumption) | assumption)
                              have hx4 := bt_at a0 x4_1
                              replace p4 := eq_true p4
                              replace q4 := eq_true q4
                              go_wp2
                              go_roundg k1
                              case measure => have := HK1.out; omega
                              case rel => exact ⟨(x3_1 ++ (a0.extract (x4_1 : Int).toNat ((wrap64 (x4_1 + 1)) : Int).toNat)), (wrap64 (x4_1 + 1)), (by first | rfl | (simp; done) | (simp [*]; done)), (by first | rfl | (simp; done) | (simp [*]; done)), H', ⟨by have := HK1.out; omega⟩, ⟨by repeat (first | (with_reducible first | exact HB.out | apply below_alloc | apply pw_below_drewN | apply below_drew1) | exact HB.out)⟩⟩
                            · rw [if_neg c142] at H
                              exact absurd H (by simp)
                          · rw [if_neg c141] at H
                            exact absurd H (by simp)
                        · rw [if_neg c140] at H
                          exact absurd H (by simp)
                      · rw [if_neg c138] at H
                        have c138b0 : ((bt a0 x4_1) == 95) = false := beq_eq_false_iff_ne.mpr c138
                        have c138b1 : ((bt a0 x4_1) != 95) = true := bne_iff_ne.mpr c138
                        obtain ⟨ji143, hji143⟩ : ∃ j_ : Int, ((Int.tdiv (bt a0 x4_1) 16) % 256) = j_ := ⟨_, rfl⟩
                        have hwji143 : IntKind.u8.wrap (Int.tdiv (bt a0 x4_1) 16) = ji143 := by rw [← hji143]; simp [IntKind.wrap, IntKind.bits, IntKind.signed]
                        replace H : (if 0 ≤ (ji143) then (if (ji143) < 16 then (if 0 ≤ (Int.tmod (bt a0 x4_1) 16) then (if (Int.tmod (bt a0 x4_1) 16) < 16 then ((some (([37, bt (⟨#[48, 49, 50, 51, 52, 53, 54, 55, 56, 57, 65, 66, 67, 68, 69, 70]⟩ : ByteArray) (ji143), bt (⟨#[48, 49, 50, 51, 52, 53, 54, 55, 56, 57, 65, 66, 67, 68, 69, 70]⟩ : ByteArray) (Int.tmod (bt a0 x4_1) 16)] : List Int) : List Int)).bind fun y187 => (if x3_1.size + (strOfNums y187).size ≤ 9223372036854775807 then (quadrigaref32_Text.l0 k1 a0 (x3_1 ++ (strOfNums y187)) (wrap64 (x4_1 + 1))) else (none))) else (none)) else (none)) else (none)) else (none)) = some r := by first | (rw [hji143] at H; exact H) | (simp only [hji143] at H ⊢; exact H)
                        by_cases c144 : 0 ≤ (ji143)
                        · rw [if_pos c144] at H
                          have c144b0 : decide (0 ≤ (ji143)) = true := decide_eq_true c144
                          clear c144
                          by_cases c145 : (ji143) < 16
                          · rw [if_pos c145] at H
                            have c145b0 : decide ((ji143) < 16) = true := decide_eq_true c145
                            clear c145
                            obtain ⟨ji147, hji147⟩ : ∃ j_ : Int, (Int.tmod (bt a0 x4_1) 16) = j_ := ⟨_, rfl⟩
                            replace H : (if 0 ≤ (ji147) then (if (ji147) < 16 then ((some (([37, bt (⟨#[48, 49, 50, 51, 52, 53, 54, 55, 56, 57, 65, 66, 67, 68, 69, 70]⟩ : ByteArray) (ji143), bt (⟨#[48, 49, 50, 51, 52, 53, 54, 55, 56, 57, 65, 66, 67, 68, 69, 70]⟩ : ByteArray) (ji147)] : List Int) : List Int)).bind fun y187 => (if x3_1.size + (strOfNums y187).size ≤ 9223372036854775807 then (quadrigaref32_Text.l0 k1 a0 (x3_1 ++ (strOfNums y187)) (wrap64 (x4_1 + 1))) else (none))) else (none)) else (none)) = some r := by first | (rw [hji147] at H; exact H) | (simp only [hji147] at H ⊢; exact H)
                            by_cases c148 : 0 ≤ (ji147)
                            · rw [if_pos c148] at H
                              have c148b0 : decide (0 ≤ (ji147)) = true := decide_eq_true c148
                              clear c148
                              by_cases c149 : (ji147) < 16
                              · rw [if_pos c149] at H
                                have c149b0 : decide ((ji147) < 16) = true := decide_eq_true c149
                                clear c149
                                obtain ⟨y187, hy187⟩ : ∃ y_ : List Int, y_ = (([37, bt (⟨#[48, 49, 50, 51, 52, 53, 54, 55, 56, 57, 65, 66, 67, 68, 69, 70]⟩ : ByteArray) (ji143), bt (⟨#[48, 49, 50, 51, 52, 53, 54, 55, 56, 57, 65, 66, 67, 68, 69, 70]⟩ : ByteArray) (ji147)] : List Int)) := ⟨_, rfl⟩
                                replace H : (if x3_1.size + (strOfNums y187).size ≤ 9223372036854775807 then (quadrigaref32_Text.l0 k1 a0 (x3_1 ++ (strOfNums y187)) (wrap64 (x4_1 + 1))) else (none)) = some r := by first | (rw [hy187]; with_reducible exact H) | (have H2_ := (Option.bind_some _ _).symm.trans H; rw [hy187]; with_reducible exact H2_) | (have H2_ := (Option.bind_some _ _).symm.trans H; with_reducible exact H2_) | with_reducible exact H | (rw [hy187]; exact H) | exact H
                                have Ny187 := Aside0.mk hy187
                                clear hy187
                                by_cases c151 : x3_1.size + (strOfNums y187).size ≤ 9223372036854775807
                                · rw [if_pos c151] at H
                                  have c151b0 := eq_true c151
                                  have c151b1 : decide (x3_1.size + (strOfNums y187).size ≤ 9223372036854775807) = true := decide_eq_true c151
                                  try have c151b2 : (9223372036854775807 < x3_1.size + (strOfNums y187).size) = False := eq_false (Nat.not_lt.2 c151)
                                  have H' := Aside0.mk H
                                  clear H
                                  have p4 : 0 ≤ (x4_1 : Int) := of_decide_eq_true (by first | (with_reducible assumption) | assumption)
                                  have q4 : x4_1 < (a0.size : Int) := of_decide_eq_true (by first | (with_reducible assumption) | assumption)
                                  have hx4 := bt_at a0 x4_1
                                  replace p4 := eq_true p4
                                  replace q4 := eq_true q4
                                  try go_wp2
                                  have n0_ := Aside0.mk (below_drew1 HB.out)
                                  clear HB
                                  have HB := n0_
                                  clear n0_
                                  have p146 : 0 ≤ ((ji143) : Int) := of_decide_eq_true (by first | (with_reducible assumption) | assumption)
                                  have q146 : (ji143) < (16 : Int) := of_decide_eq_true (by first | (with_reducible assumption) | assumption)
                                  have hx146 := bt_at (⟨#[48, 49, 50, 51, 52, 53, 54, 55, 56, 57, 65, 66, 67, 68, 69, 70]⟩ : ByteArray) (ji143)
                                  replace p146 := eq_true p146
                                  replace q146 := eq_true q146
                                  have p150 : 0 ≤ ((ji147) : Int) := of_decide_eq_true (by first | (with_reducible assumption) | assumption)
                                  have q150 : (ji147) < (16 : Int) := of_decide_eq_true (by first | (with_reducible assumption) | assumption)
                                  have hx150 := bt_at (⟨#[48, 49, 50, 51, 52, 53, 54, 55, 56, 57, 65, 66, 67, 68, 69, 70]⟩ : ByteArray) (ji147)
                                  replace p150 := eq_true p150
                                  replace q150 := eq_true q150
                                  refine start_ (n := 11) (S := fun w' => True) (ds := []) #[false, false, false, false, false, false, false, false, false, false, false] (by kernel_rfl) rfl rfl trivial (fun hHeld => ?_); refine with_tabW quadrigaref32_Text.tab8 quadrigaref32_Text.bits8 (fun HT_ HW_ => ?_)
                                  generalize wr.drew = w152 at HB hHeld ⊢
                                  refine pure_ (i := 0) (N := some 52) (v := ?_) (a' := ?_) #[true, false, false, false, false, false, false, false, false, false, false] rfl rfl (any_of HT_.out (by kernel_rfl)) (fun _ _ _ h => h) (Or.inl ⟨by rfl, ?_⟩) ?_ ?_
                                  rotate_left
                                  · intro w'
                                    go_simp
                                    with_reducible rfl
                                  rotate_left
                                  · simp only [Act.put, List.setIfInBounds_toArray, List.set_cons_zero, List.set_cons_succ, i64_w, i32_w]
                                    rfl
                                  refine pure_ (i := 1) (N := some 53) (v := ?_) (a' := ?_) #[true, true, false, false, false, false, false, false, false, false, false] rfl rfl (any_of HT_.out (by kernel_rfl)) (fun _ _ _ h => h) (Or.inl ⟨by rfl, ?_⟩) ?_ ?_
                                  rotate_left
                                  · intro w'
                                    go_simp
                                    with_reducible rfl
                                  rotate_left
                                  · simp only [Act.put, List.setIfInBounds_toArray, List.set_cons_zero, List.set_cons_succ, i64_w, i32_w]
                                    rfl
                                  refine pure_ (i := 2) (N := some 54) (v := ?_) (a' := ?_) #[true, true, true, false, false, false, false, false, false, false, false] rfl rfl (any_of HT_.out (by kernel_rfl)) (fun _ _ _ h => h) (Or.inl ⟨by rfl, ?_⟩) ?_ ?_
                                  rotate_left
                                  · intro w'
                                    go_simp
                                    with_reducible rfl
                                  rotate_left
                                  · simp only [Act.put, List.setIfInBounds_toArray, List.set_cons_zero, List.set_cons_succ, i64_w, i32_w]
                                    rfl
                                  refine pure_ (i := 4) (N := some 56) (v := ?_) (a' := ?_) #[true, true, true, false, true, false, false, false, false, false, false] rfl rfl (any_of HT_.out (by kernel_rfl)) (fun _ _ _ h => h) (Or.inl ⟨by rfl, ?_⟩) ?_ ?_
                                  rotate_left
                                  · intro w'
                                    go_simp
                                    with_reducible rfl
                                  rotate_left
                                  · simp only [Act.put, List.setIfInBounds_toArray, List.set_cons_zero, List.set_cons_succ, i64_w, i32_w]
                                    rfl
                                  refine pure_ (i := 5) (N := some 57) (v := ?_) (a' := ?_) #[true, true, true, false, true, true, false, false, false, false, false] rfl rfl (any_of HT_.out (by kernel_rfl)) (fun _ _ _ h => h) (Or.inl ⟨by rfl, ?_⟩) ?_ ?_
                                  rotate_left
                                  · intro w'
                                    go_simp
                                    with_reducible rfl
                                  rotate_left
                                  · simp only [Act.put, List.setIfInBounds_toArray, List.set_cons_zero, List.set_cons_succ, i64_w, i32_w]
                                    rfl
                                  refine take_ (i := 3) (N := some 55) (v := ?_) (a' := ?_) #[true, true, true, true, true, true, false, false, false, false, false] rfl rfl (take_ofW HT_.out HW_.out (by kernel_rfl)) (fun _ _ _ h => h) (Or.inl ⟨by rfl, ?_⟩) hHeld ?_ ?_
                                  rotate_left
                                  · intro w' _
                                    go_simp
                                    with_reducible rfl
                                  rotate_left
                                  · simp only [Act.put, List.setIfInBounds_toArray, List.set_cons_zero, List.set_cons_succ, i64_w, i32_w]
                                    rfl
                                  refine take_ (i := 6) (N := some 58) (v := ?_) (a' := ?_) #[true, true, true, true, true, true, true, false, false, false, false] rfl rfl (take_ofW HT_.out HW_.out (by kernel_rfl)) (fun _ _ _ h => h) (Or.inl ⟨by rfl, ?_⟩) hHeld ?_ ?_
                                  rotate_left
                                  · intro w' _
                                    go_simp
                                    with_reducible rfl
                                  rotate_left
                                  · simp only [Act.put, List.setIfInBounds_toArray, List.set_cons_zero, List.set_cons_succ, i64_w, i32_w]
                                    rfl
                                  refine one_ (i := 7) (N := some 59) #[true, true, true, true, true, true, true, true, false, false, false] rfl rfl (one_of HT_.out (by kernel_rfl)) (by decide) (fun K hK => ?_)
                                  refine Kd.R_lit_step (Kd.int .u8) _ 5 ?hg (N := 59) ?hd (xs := ([37, bt (⟨#[48, 49, 50, 51, 52, 53, 54, 55, 56, 57, 65, 66, 67, 68, 69, 70]⟩ : ByteArray) (ji143), bt (⟨#[48, 49, 50, 51, 52, 53, 54, 55, 56, 57, 65, 66, 67, 68, 69, 70]⟩ : ByteArray) (ji147)] : List Int)) (inner := [.int .u8 37, .int .u8 (bt (⟨#[48, 49, 50, 51, 52, 53, 54, 55, 56, 57, 65, 66, 67, 68, 69, 70]⟩ : ByteArray) (ji143)), .int .u8 (bt (⟨#[48, 49, 50, 51, 52, 53, 54, 55, 56, 57, 65, 66, 67, 68, 69, 70]⟩ : ByteArray) (ji147))]) (ok := fun _ => True) (okp := fun _ => True) ?hr ?hp (fun _ hk => hk) trivial (Below.refl _ _) (Nat.le_refl _) (by simp) ?_; (case hd => rfl); (case hg => rfl); (case hr => first | (go_simp; done) | (go_simp; rfl)); (case hp => exact (Reps.one (show Kd.M (Kd.int .u8) _ _ _ 37 [.int .u8 37] from rfl) (Reps.one (show Kd.M (Kd.int .u8) _ _ _ (bt (⟨#[48, 49, 50, 51, 52, 53, 54, 55, 56, 57, 65, 66, 67, 68, 69, 70]⟩ : ByteArray) (ji143)) [.int .u8 (bt (⟨#[48, 49, 50, 51, 52, 53, 54, 55, 56, 57, 65, 66, 67, 68, 69, 70]⟩ : ByteArray) (ji143))] from rfl) (Reps.one (show Kd.M (Kd.int .u8) _ _ _ (bt (⟨#[48, 49, 50, 51, 52, 53, 54, 55, 56, 57, 65, 66, 67, 68, 69, 70]⟩ : ByteArray) (ji147)) [.int .u8 (bt (⟨#[48, 49, 50, 51, 52, 53, 54, 55, 56, 57, 65, 66, 67, 68, 69, 70]⟩ : ByteArray) (ji147))] from rfl) (Reps.none _ _)))))
                                  intro v188 w153 ho154 hb hg_ hnew_
                                  clear hg_ hnew_
                                  (first | rw [← Ny187.out] at ho154 | (simp only [Int.reduceToNat] at ho154; rw [← Ny187.out] at ho154))
                                  have n0_ := Aside0.mk (Kd.R_lower ho154 (below_size (by repeat (first | (with_reducible first | exact HB.out | apply below_alloc | apply pw_below_drewN | apply below_drew1) | exact HB.out))))
                                  have n1_ := Aside0.mk (below_step (by repeat (first | (with_reducible first | exact HB.out | apply below_alloc | apply pw_below_drewN | apply below_drew1) | exact HB.out)) hb)
                                  clear HB
                                  have HO189 := n0_
                                  have HB := n1_
                                  clear n0_ n1_
                                  clear hb ho154
                                  refine hK.out _ _ trivial (fun hHeld => ?_)
                                  clear hK K
                                  refine norm_ (a' := ?_) ?_ ?_
                                  rotate_left
                                  · show Act.put _ (some 59) _ = _
                                    simp only [Act.put, List.setIfInBounds_toArray, List.set_cons_zero, List.set_cons_succ, i64_w, i32_w]
                                    rfl
                                  refine one_ (i := 8) (N := some 60) #[true, true, true, true, true, true, true, true, true, false, false] rfl rfl (one_of HT_.out (by kernel_rfl)) (by decide) (fun K hK => ?_)
                                  have hcv155 := own_string (P := Tryd.prog) Tryd.underlying48 Tryd.underlying5 Tryd.underlying9 (Kd.own_of_R HO189.out)
                                  refine value_ (w1 := ?_) (v := ?_) (by rfl) rfl ?_ ?_
                                  rotate_left 2
                                  · go_simp
                                    constructor
                                    · rfl
                                    · rfl
                                  clear hcv155
                                  refine hK.out _ _ trivial (fun hHeld => ?_)
                                  clear hK K
                                  refine norm_ (a' := ?_) ?_ ?_
                                  rotate_left
                                  · show Act.put _ (some 60) _ = _
                                    simp only [Act.put, List.setIfInBounds_toArray, List.set_cons_zero, List.set_cons_succ, i64_w, i32_w]
                                    rfl
                                  refine pure_ (i := 9) (N := some 61) (v := ?_) (a' := ?_) #[true, true, true, true, true, true, true, true, true, true, false] rfl rfl (any_of HT_.out (by kernel_rfl)) (fun _ _ _ h => h) (Or.inl ⟨by rfl, ?_⟩) ?_ ?_
                                  rotate_left
                                  · intro w'
                                    go_simp
                                    with_reducible rfl
                                  rotate_left
                                  · simp only [Act.put, List.setIfInBounds_toArray, List.set_cons_zero, List.set_cons_succ, i64_w, i32_w]
                                    rfl
                                  refine pure_ (i := 10) (N := some 3) (v := ?_) (a' := ?_) #[true, true, true, true, true, true, true, true, true, true, true] rfl rfl (any_of HT_.out (by kernel_rfl)) (fun _ _ _ h => h) (Or.inl ⟨by rfl, ?_⟩) ?_ ?_
                                  rotate_left
                                  · intro w'
                                    go_simp
                                    with_reducible rfl
                                  rotate_left
                                  · simp only [Act.put, List.setIfInBounds_toArray, List.set_cons_zero, List.set_cons_succ, i64_w, i32_w]
                                    rfl
                                  refine done_ (done_of HT_.out (by kernel_rfl)) ?_
                                  try go_wp2
                                  go_roundg k1
                                  case measure => have := HK1.out; omega
                                  case rel => exact ⟨(x3_1 ++ (strOfNums y187)), (wrap64 (x4_1 + 1)), (by first | rfl | (simp; done) | (simp [*]; done)), (by first | rfl | (simp; done) | (simp [*]; done)), H', ⟨by have := HK1.out; omega⟩, ⟨by repeat (first | (with_reducible first | exact HB.out | apply below_alloc | apply pw_below_drewN | apply below_drew1) | exact HB.out)⟩⟩
                                · rw [if_neg c151] at H
                                  exact absurd H (by simp)
                              · rw [if_neg c149] at H
                                exact absurd H (by simp)
                            · rw [if_neg c148] at H
                              exact absurd H (by simp)
                          · rw [if_neg c145] at H
                            exact absurd H (by simp)
                        · rw [if_neg c144] at H
                          exact absurd H (by simp)
                · rw [if_neg c127] at H
                  have c127b0 : decide (48 ≤ (bt a0 x4_1)) = false := decide_eq_false c127
                  clear c127
                  by_cases c156 : (bt a0 x4_1) = 46
                  · rw [if_pos c156] at H
                    have c156b0 : ((bt a0 x4_1) == 46) = true := beq_iff_eq.mpr c156
                    have c156b1 : ((bt a0 x4_1) != 46) = false := bne_eq_false_iff_eq.mpr c156
                    clear c156
                    have c157b0 := eq_true (of_decide_eq_true (by first | (with_reducible assumption) | assumption) : 0 ≤ x4_1)
                    by_cases c158 : x4_1 ≤ (wrap64 (x4_1 + 1))
                    · rw [if_pos c158] at H
                      have c158b0 := eq_true c158
                      have c158b1 : decide (x4_1 ≤ (wrap64 (x4_1 + 1))) = true := decide_eq_true c158
                      by_cases c159 : (wrap64 (x4_1 + 1)) ≤ (a0.size : Int)
                      · rw [if_pos c159] at H
                        have c159b0 := eq_true c159
                        have c159b1 : decide ((wrap64 (x4_1 + 1)) ≤ (a0.size : Int)) = true := decide_eq_true c159
                        by_cases c160 : x3_1.size + (a0.extract (x4_1 : Int).toNat ((wrap64 (x4_1 + 1)) : Int).toNat).size ≤ 9223372036854775807
                        · rw [if_pos c160] at H
                          have c160b0 := eq_true c160
                          have c160b1 : decide (x3_1.size + (a0.extract (x4_1 : Int).toNat ((wrap64 (x4_1 + 1)) : Int).toNat).size ≤ 9223372036854775807) = true := decide_eq_true c160
                          try have c160b2 : (9223372036854775807 < x3_1.size + (a0.extract (x4_1 : Int).toNat ((wrap64 (x4_1 + 1)) : Int).toNat).size) = False := eq_false (Nat.not_lt.2 c160)
                          have H' := Aside0.mk H
                          clear H
                          have p4 : 0 ≤ (x4_1 : Int) := of_decide_eq_true (by first | (with_reducible assumption) | assumption)
                          have q4 : x4_1 < (a0.size : Int) := of_decide_eq_true (by first | (with_reducible assumption) | assumption)
                          have hx4 := bt_at a0 x4_1
                          replace p4 := eq_true p4
                          replace q4 := eq_true q4
                          go_wp2
                          go_roundg k1
                          case measure => have := HK1.out; omega
                          case rel => exact ⟨(x3_1 ++ (a0.extract (x4_1 : Int).toNat ((wrap64 (x4_1 + 1)) : Int).toNat)), (wrap64 (x4_1 + 1)), (by first | rfl | (simp; done) | (simp [*]; done)), (by first | rfl | (simp; done) | (simp [*]; done)), H', ⟨by have := HK1.out; omega⟩, ⟨by repeat (first | (with_reducible first | exact HB.out | apply below_alloc | apply pw_below_drewN | apply below_drew1) | exact HB.out)⟩⟩
                        · rw [if_neg c160] at H
                          exact absurd H (by simp)
                      · rw [if_neg c159] at H
                        exact absurd H (by simp)
                    · rw [if_neg c158] at H
                      exact absurd H (by simp)
                  · rw [if_neg c156] at H
                    have c156b0 : ((bt a0 x4_1) == 46) = false := beq_eq_false_iff_ne.mpr c156
                    have c156b1 : ((bt a0 x4_1) != 46) = true := bne_iff_ne.mpr c156
                    by_cases c161 : (bt a0 x4_1) = 95
                    · rw [if_pos c161] at H
                      have c161b0 : ((bt a0 x4_1) == 95) = true := beq_iff_eq.mpr c161
                      have c161b1 : ((bt a0 x4_1) != 95) = false := bne_eq_false_iff_eq.mpr c161
                      clear c161
                      have c162b0 := eq_true (of_decide_eq_true (by first | (with_reducible assumption) | assumption) : 0 ≤ x4_1)
                      by_cases c163 : x4_1 ≤ (wrap64 (x4_1 + 1))
                      · rw [if_pos c163] at H
                        have c163b0 := eq_true c163
                        have c163b1 : decide (x4_1 ≤ (wrap64 (x4_1 + 1))) = true := decide_eq_true c163
                        by_cases c164 : (wrap64 (x4_1 + 1)) ≤ (a0.size : Int)
                        · rw [if_pos c164] at H
                          have c164b0 := eq_true c164
                          have c164b1 : decide ((wrap64 (x4_1 + 1)) ≤ (a0.size : Int)) = true := decide_eq_true c164
                          by_cases c165 : x3_1.size + (a0.extract (x4_1 : Int).toNat ((wrap64 (x4_1 + 1)) : Int).toNat).size ≤ 9223372036854775807
                          · rw [if_pos c165] at H
                            have c165b0 := eq_true c165
                            have c165b1 : decide (x3_1.size + (a0.extract (x4_1 : Int).toNat ((wrap64 (x4_1 + 1)) : Int).toNat).size ≤ 9223372036854775807) = true := decide_eq_true c165
                            try have c165b2 : (9223372036854775807 < x3_1.size + (a0.extract (x4_1 : Int).toNat ((wrap64 (x4_1 + 1)) : Int).toNat).size) = False := eq_false (Nat.not_lt.2 c165)
                            have H' := Aside0.mk H
                            clear H
                            have p4 : 0 ≤ (x4_1 : Int) := of_decide_eq_true (by first | (with_reducible assumption) | assumption)
                            have q4 : x4_1 < (a0.size : Int) := of_decide_eq_true (by first | (with_reducible assumption) | assumption)
                            have hx4 := bt_at a0 x4_1
                            replace p4 := eq_true p4
                            replace q4 := eq_true q4
                            go_wp2
                            go_roundg k1
                            case measure => have := HK1.out; omega
                            case rel => exact ⟨(x3_1 ++ (a0.extract (x4_1 : Int).toNat ((wrap64 (x4_1 + 1)) : Int).toNat)), (wrap64 (x4_1 + 1)), (by first | rfl | (simp; done) | (simp [*]; done)), (by first | rfl | (simp; done) | (simp [*]; done)), H', ⟨by have := HK1.out; omega⟩, ⟨by repeat (first | (with_reducible first | exact HB.out | apply below_alloc | apply pw_below_drewN | apply below_drew1) | exact HB.out)⟩⟩
                          · rw [if_neg c165] at H
                            exact absurd H (by simp)
                        · rw [if_neg c164] at H
                          exact absurd H (by simp)
                      · rw [if_neg c163] at H
                        exact absurd H (by simp)
                    · rw [if_neg c161] at H
                      have c161b0 : ((bt a0 x4_1) == 95) = false := beq_eq_false_iff_ne.mpr c161
                      have c161b1 : ((bt a0 x4_1) != 95) = true := bne_iff_ne.mpr c161
                      obtain ⟨ji166, hji166⟩ : ∃ j_ : Int, ((Int.tdiv (bt a0 x4_1) 16) % 256) = j_ := ⟨_, rfl⟩
                      have hwji166 : IntKind.u8.wrap (Int.tdiv (bt a0 x4_1) 16) = ji166 := by rw [← hji166]; simp [IntKind.wrap, IntKind.bits, IntKind.signed]
                      replace H : (if 0 ≤ (ji166) then (if (ji166) < 16 then (if 0 ≤ (Int.tmod (bt a0 x4_1) 16) then (if (Int.tmod (bt a0 x4_1) 16) < 16 then ((some (([37, bt (⟨#[48, 49, 50, 51, 52, 53, 54, 55, 56, 57, 65, 66, 67, 68, 69, 70]⟩ : ByteArray) (ji166), bt (⟨#[48, 49, 50, 51, 52, 53, 54, 55, 56, 57, 65, 66, 67, 68, 69, 70]⟩ : ByteArray) (Int.tmod (bt a0 x4_1) 16)] : List Int) : List Int)).bind fun y190 => (if x3_1.size + (strOfNums y190).size ≤ 9223372036854775807 then (quadrigaref32_Text.l0 k1 a0 (x3_1 ++ (strOfNums y190)) (wrap64 (x4_1 + 1))) else (none))) else (none)) else (none)) else (none)) else (none)) = some r := by first | (rw [hji166] at H; exact H) | (simp only [hji166] at H ⊢; exact H)
                      by_cases c167 : 0 ≤ (ji166)
                      · rw [if_pos c167] at H
                        have c167b0 : decide (0 ≤ (ji166)) = true := decide_eq_true c167
                        clear c167
                        by_cases c168 : (ji166) < 16
                        · rw [if_pos c168] at H
                          have c168b0 : decide ((ji166) < 16) = true := decide_eq_true c168
                          clear c168
                          obtain ⟨ji170, hji170⟩ : ∃ j_ : Int, (Int.tmod (bt a0 x4_1) 16) = j_ := ⟨_, rfl⟩
                          replace H : (if 0 ≤ (ji170) then (if (ji170) < 16 then ((some (([37, bt (⟨#[48, 49, 50, 51, 52, 53, 54, 55, 56, 57, 65, 66, 67, 68, 69, 70]⟩ : ByteArray) (ji166), bt (⟨#[48, 49, 50, 51, 52, 53, 54, 55, 56, 57, 65, 66, 67, 68, 69, 70]⟩ : ByteArray) (ji170)] : List Int) : List Int)).bind fun y190 => (if x3_1.size + (strOfNums y190).size ≤ 9223372036854775807 then (quadrigaref32_Text.l0 k1 a0 (x3_1 ++ (strOfNums y190)) (wrap64 (x4_1 + 1))) else (none))) else (none)) else (none)) = some r := by first | (rw [hji170] at H; exact H) | (simp only [hji170] at H ⊢; exact H)
                          by_cases c171 : 0 ≤ (ji170)
                          · rw [if_pos c171] at H
                            have c171b0 : decide (0 ≤ (ji170)) = true := decide_eq_true c171
                            clear c171
                            by_cases c172 : (ji170) < 16
                            · rw [if_pos c172] at H
                              have c172b0 : decide ((ji170) < 16) = true := decide_eq_true c172
                              clear c172
                              obtain ⟨y190, hy190⟩ : ∃ y_ : List Int, y_ = (([37, bt (⟨#[48, 49, 50, 51, 52, 53, 54, 55, 56, 57, 65, 66, 67, 68, 69, 70]⟩ : ByteArray) (ji166), bt (⟨#[48, 49, 50, 51, 52, 53, 54, 55, 56, 57, 65, 66, 67, 68, 69, 70]⟩ : ByteArray) (ji170)] : List Int)) := ⟨_, rfl⟩
                              replace H : (if x3_1.size + (strOfNums y190).size ≤ 9223372036854775807 then (quadrigaref32_Text.l0 k1 a0 (x3_1 ++ (strOfNums y190)) (wrap64 (x4_1 + 1))) else (none)) = some r := by first | (rw [hy190]; with_reducible exact H) | (have H2_ := (Option.bind_some _ _).symm.trans H; rw [hy190]; with_reducible exact H2_) | (have H2_ := (Option.bind_some _ _).symm.trans H; with_reducible exact H2_) | with_reducible exact H | (rw [hy190]; exact H) | exact H
                              have Ny190 := Aside0.mk hy190
                              clear hy190
                              by_cases c174 : x3_1.size + (strOfNums y190).size ≤ 9223372036854775807
                              · rw [if_pos c174] at H
                                have c174b0 := eq_true c174
                                have c174b1 : decide (x3_1.size + (strOfNums y190).size ≤ 9223372036854775807) = true := decide_eq_true c174
                                try have c174b2 : (9223372036854775807 < x3_1.size + (strOfNums y190).size) = False := eq_false (Nat.not_lt.2 c174)
                                have H' := Aside0.mk H
                                clear H
                                have p4 : 0 ≤ (x4_1 : Int) := of_decide_eq_true (by first | (with_reducible assumption) | assumption)
                                have q4 : x4_1 < (a0.size : Int) := of_decide_eq_true (by first | (with_reducible assumption) | assumption)
                                have hx4 := bt_at a0 x4_1
                                replace p4 := eq_true p4
                                replace q4 := eq_true q4
                                try go_wp2
                                have n0_ := Aside0.mk (below_drew1 HB.out)
                                clear HB
                                have HB := n0_
                                clear n0_
                                have p169 : 0 ≤ ((ji166) : Int) := of_decide_eq_true (by first | (with_reducible assumption) | assumption)
                                have q169 : (ji166) < (16 : Int) := of_decide_eq_true (by first | (with_reducible assumption) | assumption)
                                have hx169 := bt_at (⟨#[48, 49, 50, 51, 52, 53, 54, 55, 56, 57, 65, 66, 67, 68, 69, 70]⟩ : ByteArray) (ji166)
                                replace p169 := eq_true p169
                                replace q169 := eq_true q169
                                have p173 : 0 ≤ ((ji170) : Int) := of_decide_eq_true (by first | (with_reducible assumption) | assumption)
                                have q173 : (ji170) < (16 : Int) := of_decide_eq_true (by first | (with_reducible assumption) | assumption)
                                have hx173 := bt_at (⟨#[48, 49, 50, 51, 52, 53, 54, 55, 56, 57, 65, 66, 67, 68, 69, 70]⟩ : ByteArray) (ji170)
                                replace p173 := eq_true p173
                                replace q173 := eq_true q173
                                refine start_ (n := 11) (S := fun w' => True) (ds := []) #[false, false, false, false, false, false, false, false, false, false, false] (by kernel_rfl) rfl rfl trivial (fun hHeld => ?_); refine with_tabW quadrigaref32_Text.tab8 quadrigaref32_Text.bits8 (fun HT_ HW_ => ?_)
                                generalize wr.drew = w175 at HB hHeld ⊢
                                refine pure_ (i := 0) (N := some 52) (v := ?_) (a' := ?_) #[true, false, false, false, false, false, false, false, false, false, false] rfl rfl (any_of HT_.out (by kernel_rfl)) (fun _ _ _ h => h) (Or.inl ⟨by rfl, ?_⟩) ?_ ?_
                                rotate_left
                                · intro w'
                                  go_simp
                                  with_reducible rfl
                                rotate_left
                                · simp only [Act.put, List.setIfInBounds_toArray, List.set_cons_zero, List.set_cons_succ, i64_w, i32_w]
                                  rfl
                                refine pure_ (i := 1) (N := some 53) (v := ?_) (a' := ?_) #[true, true, false, false, false, false, false, false, false, false, false] rfl rfl (any_of HT_.out (by kernel_rfl)) (fun _ _ _ h => h) (Or.inl ⟨by rfl, ?_⟩) ?_ ?_
                                rotate_left
                                · intro w'
                                  go_simp
                                  with_reducible rfl
                                rotate_left
                                · simp only [Act.put, List.setIfInBounds_toArray, List.set_cons_zero, List.set_cons_succ, i64_w, i32_w]
                                  rfl
                                refine pure_ (i := 2) (N := some 54) (v := ?_) (a' := ?_) #[true, true, true, false, false, false, false, false, false, false, false] rfl rfl (any_of HT_.out (by kernel_rfl)) (fun _ _ _ h => h) (Or.inl ⟨by rfl, ?_⟩) ?_ ?_
                                rotate_left
                                · intro w'
                                  go_simp
                                  with_reducible rfl
                                rotate_left
                                · simp only [Act.put, List.setIfInBounds_toArray, List.set_cons_zero, List.set_cons_succ, i64_w, i32_w]
                                  rfl
                                refine pure_ (i := 4) (N := some 56) (v := ?_) (a' := ?_) #[true, true, true, false, true, false, false, false, false, false, false] rfl rfl (any_of HT_.out (by kernel_rfl)) (fun _ _ _ h => h) (Or.inl ⟨by rfl, ?_⟩) ?_ ?_
                                rotate_left
                                · intro w'
                                  go_simp
                                  with_reducible rfl
                                rotate_left
                                · simp only [Act.put, List.setIfInBounds_toArray, List.set_cons_zero, List.set_cons_succ, i64_w, i32_w]
                                  rfl
                                refine pure_ (i := 5) (N := some 57) (v := ?_) (a' := ?_) #[true, true, true, false, true, true, false, false, false, false, false] rfl rfl (any_of HT_.out (by kernel_rfl)) (fun _ _ _ h => h) (Or.inl ⟨by rfl, ?_⟩) ?_ ?_
                                rotate_left
                                · intro w'
                                  go_simp
                                  with_reducible rfl
                                rotate_left
                                · simp only [Act.put, List.setIfInBounds_toArray, List.set_cons_zero, List.set_cons_succ, i64_w, i32_w]
                                  rfl
                                refine take_ (i := 3) (N := some 55) (v := ?_) (a' := ?_) #[true, true, true, true, true, true, false, false, false, false, false] rfl rfl (take_ofW HT_.out HW_.out (by kernel_rfl)) (fun _ _ _ h => h) (Or.inl ⟨by rfl, ?_⟩) hHeld ?_ ?_
                                rotate_left
                                · intro w' _
                                  go_simp
                                  with_reducible rfl
                                rotate_left
                                · simp only [Act.put, List.setIfInBounds_toArray, List.set_cons_zero, List.set_cons_succ, i64_w, i32_w]
                                  rfl
                                refine take_ (i := 6) (N := some 58) (v := ?_) (a' := ?_) #[true, true, true, true, true, true, true, false, false, false, false] rfl rfl (take_ofW HT_.out HW_.out (by kernel_rfl)) (fun _ _ _ h => h) (Or.inl ⟨by rfl, ?_⟩) hHeld ?_ ?_
                                rotate_left
                                · intro w' _
                                  go_simp
                                  with_reducible rfl
                                rotate_left
                                · simp only [Act.put, List.setIfInBounds_toArray, List.set_cons_zero, List.set_cons_succ, i64_w, i32_w]
                                  rfl
                                refine one_ (i := 7) (N := some 59) #[true, true, true, true, true, true, true, true, false, false, false] rfl rfl (one_of HT_.out (by kernel_rfl)) (by decide) (fun K hK => ?_)
                                refine Kd.R_lit_step (Kd.int .u8) _ 5 ?hg (N := 59) ?hd (xs := ([37, bt (⟨#[48, 49, 50, 51, 52, 53, 54, 55, 56, 57, 65, 66, 67, 68, 69, 70]⟩ : ByteArray) (ji166), bt (⟨#[48, 49, 50, 51, 52, 53, 54, 55, 56, 57, 65, 66, 67, 68, 69, 70]⟩ : ByteArray) (ji170)] : List Int)) (inner := [.int .u8 37, .int .u8 (bt (⟨#[48, 49, 50, 51, 52, 53, 54, 55, 56, 57, 65, 66, 67, 68, 69, 70]⟩ : ByteArray) (ji166)), .int .u8 (bt (⟨#[48, 49, 50, 51, 52, 53, 54, 55, 56, 57, 65, 66, 67, 68, 69, 70]⟩ : ByteArray) (ji170))]) (ok := fun _ => True) (okp := fun _ => True) ?hr ?hp (fun _ hk => hk) trivial (Below.refl _ _) (Nat.le_refl _) (by simp) ?_; (case hd => rfl); (case hg => rfl); (case hr => first | (go_simp; done) | (go_simp; rfl)); (case hp => exact (Reps.one (show Kd.M (Kd.int .u8) _ _ _ 37 [.int .u8 37] from rfl) (Reps.one (show Kd.M (Kd.int .u8) _ _ _ (bt (⟨#[48, 49, 50, 51, 52, 53, 54, 55, 56, 57, 65, 66, 67, 68, 69, 70]⟩ : ByteArray) (ji166)) [.int .u8 (bt (⟨#[48, 49, 50, 51, 52, 53, 54, 55, 56, 57, 65, 66, 67, 68, 69, 70]⟩ : ByteArray) (ji166))] from rfl) (Reps.one (show Kd.M (Kd.int .u8) _ _ _ (bt (⟨#[48, 49, 50, 51, 52, 53, 54, 55, 56, 57, 65, 66, 67, 68, 69, 70]⟩ : ByteArray) (ji170)) [.int .u8 (bt (⟨#[48, 49, 50, 51, 52, 53, 54, 55, 56, 57, 65, 66, 67, 68, 69, 70]⟩ : ByteArray) (ji170))] from rfl) (Reps.none _ _)))))
                                intro v191 w176 ho177 hb hg_ hnew_
                                clear hg_ hnew_
                                (first | rw [← Ny190.out] at ho177 | (simp only [Int.reduceToNat] at ho177; rw [← Ny190.out] at ho177))
                                have n0_ := Aside0.mk (Kd.R_lower ho177 (below_size (by repeat (first | (with_reducible first | exact HB.out | apply below_alloc | apply pw_below_drewN | apply below_drew1) | exact HB.out))))
                                have n1_ := Aside0.mk (below_step (by repeat (first | (with_reducible first | exact HB.out | apply below_alloc | apply pw_below_drewN | apply below_drew1) | exact HB.out)) hb)
                                clear HB
                                have HO192 := n0_
                                have HB := n1_
                                clear n0_ n1_
                                clear hb ho177
                                refine hK.out _ _ trivial (fun hHeld => ?_)
                                clear hK K
                                refine norm_ (a' := ?_) ?_ ?_
                                rotate_left
                                · show Act.put _ (some 59) _ = _
                                  simp only [Act.put, List.setIfInBounds_toArray, List.set_cons_zero, List.set_cons_succ, i64_w, i32_w]
                                  rfl
                                refine one_ (i := 8) (N := some 60) #[true, true, true, true, true, true, true, true, true, false, false] rfl rfl (one_of HT_.out (by kernel_rfl)) (by decide) (fun K hK => ?_)
                                have hcv178 := own_string (P := Tryd.prog) Tryd.underlying48 Tryd.underlying5 Tryd.underlying9 (Kd.own_of_R HO192.out)
                                refine value_ (w1 := ?_) (v := ?_) (by rfl) rfl ?_ ?_
                                rotate_left 2
                                · go_simp
                                  constructor
                                  · rfl
                                  · rfl
                                clear hcv178
                                refine hK.out _ _ trivial (fun hHeld => ?_)
                                clear hK K
                                refine norm_ (a' := ?_) ?_ ?_
                                rotate_left
                                · show Act.put _ (some 60) _ = _
                                  simp only [Act.put, List.setIfInBounds_toArray, List.set_cons_zero, List.set_cons_succ, i64_w, i32_w]
                                  rfl
                                refine pure_ (i := 9) (N := some 61) (v := ?_) (a' := ?_) #[true, true, true, true, true, true, true, true, true, true, false] rfl rfl (any_of HT_.out (by kernel_rfl)) (fun _ _ _ h => h) (Or.inl ⟨by rfl, ?_⟩) ?_ ?_
                                rotate_left
                                · intro w'
                                  go_simp
                                  with_reducible rfl
                                rotate_left
                                · simp only [Act.put, List.setIfInBounds_toArray, List.set_cons_zero, List.set_cons_succ, i64_w, i32_w]
                                  rfl
                                refine pure_ (i := 10) (N := some 3) (v := ?_) (a' := ?_) #[true, true, true, true, true, true, true, true, true, true, true] rfl rfl (any_of HT_.out (by kernel_rfl)) (fun _ _ _ h => h) (Or.inl ⟨by rfl, ?_⟩) ?_ ?_
                                rotate_left
                                · intro w'
                                  go_simp
                                  with_reducible rfl
                                rotate_left
                                · simp only [Act.put, List.setIfInBounds_toArray, List.set_cons_zero, List.set_cons_succ, i64_w, i32_w]
                                  rfl
                                refine done_ (done_of HT_.out (by kernel_rfl)) ?_
                                try go_wp2
                                go_roundg k1
                                case measure => have := HK1.out; omega
                                case rel => exact ⟨(x3_1 ++ (strOfNums y190)), (wrap64 (x4_1 + 1)), (by first | rfl | (simp; done) | (simp [*]; done)), (by first | rfl | (simp; done) | (simp [*]; done)), H', ⟨by have := HK1.out; omega⟩, ⟨by repeat (first | (with_reducible first | exact HB.out | apply below_alloc | apply pw_below_drewN | apply below_drew1) | exact HB.out)⟩⟩
                              · rw [if_neg c174] at H
                                exact absurd H (by simp)
                            · rw [if_neg c172] at H
                              exact absurd H (by simp)
                          · rw [if_neg c171] at H
                            exact absurd H (by simp)
                        · rw [if_neg c168] at H
                          exact absurd H (by simp)
                      · rw [if_neg c167] at H
                        exact absurd H (by simp)
            · rw [if_neg c121] at H
              have c121b0 : decide (65 ≤ (bt a0 x4_1)) = false := decide_eq_false c121
              clear c121
              by_cases c179 : (bt a0 x4_1) ≥ 48
              · rw [if_pos c179] at H
                have c179b0 : decide (48 ≤ (bt a0 x4_1)) = true := decide_eq_true c179
                clear c179
                by_cases c180 : (bt a0 x4_1) ≤ 57
                · rw [if_pos c180] at H
                  have c180b0 : decide ((bt a0 x4_1) ≤ 57) = true := decide_eq_true c180
                  clear c180
                  have c181b0 := eq_true (of_decide_eq_true (by first | (with_reducible assumption) | assumption) : 0 ≤ x4_1)
                  by_cases c182 : x4_1 ≤ (wrap64 (x4_1 + 1))
                  · rw [if_pos c182] at H
                    have c182b0 := eq_true c182
                    have c182b1 : decide (x4_1 ≤ (wrap64 (x4_1 + 1))) = true := decide_eq_true c182
                    by_cases c183 : (wrap64 (x4_1 + 1)) ≤ (a0.size : Int)
                    · rw [if_pos c183] at H
                      have c183b0 := eq_true c183
                      have c183b1 : decide ((wrap64 (x4_1 + 1)) ≤ (a0.size : Int)) = true := decide_eq_true c183
                      by_cases c184 : x3_1.size + (a0.extract (x4_1 : Int).toNat ((wrap64 (x4_1 + 1)) : Int).toNat).size ≤ 9223372036854775807
                      · rw [if_pos c184] at H
                        have c184b0 := eq_true c184
                        have c184b1 : decide (x3_1.size + (a0.extract (x4_1 : Int).toNat ((wrap64 (x4_1 + 1)) : Int).toNat).size ≤ 9223372036854775807) = true := decide_eq_true c184
                        try have c184b2 : (9223372036854775807 < x3_1.size + (a0.extract (x4_1 : Int).toNat ((wrap64 (x4_1 + 1)) : Int).toNat).size) = False := eq_false (Nat.not_lt.2 c184)
                        have H' := Aside0.mk H
                        clear H
                        have p4 : 0 ≤ (x4_1 : Int) := of_decide_eq_true (by first | (with_reducible assumption) | assumption)
                        have q4 : x4_1 < (a0.size : Int) := of_decide_eq_true (by first | (with_reducible assumption) | assumption)
                        have hx4 := bt_at a0 x4_1
                        replace p4 := eq_true p4
                        replace q4 := eq_true q4
                        go_wp2
                        go_roundg k1
                        case measure => have := HK1.out; omega
                        case rel => exact ⟨(x3_1 ++ (a0.extract (x4_1 : Int).toNat ((wrap64 (x4_1 + 1)) : Int).toNat)), (wrap64 (x4_1 + 1)), (by first | rfl | (simp; done) | (simp [*]; done)), (by first | rfl | (simp; done) | (simp [*]; done)), H', ⟨by have := HK1.out; omega⟩, ⟨by repeat (first | (with_reducible first | exact HB.out | apply below_alloc | apply pw_below_drewN | apply below_drew1) | exact HB.out)⟩⟩
                      · rw [if_neg c184] at H
                        exact absurd H (by simp)
                    · rw [if_neg c183] at H
                      exact absurd H (by simp)
                  · rw [if_neg c182] at H
                    exact absurd H (by simp)
                · rw [if_neg c180] at H
                  have c180b0 : decide ((bt a0 x4_1) ≤ 57) = false := decide_eq_false c180
                  clear c180
                  by_cases c185 : (bt a0 x4_1) = 46
                  · rw [if_pos c185] at H
                    have c185b0 : ((bt a0 x4_1) == 46) = true := beq_iff_eq.mpr c185
                    have c185b1 : ((bt a0 x4_1) != 46) = false := bne_eq_false_iff_eq.mpr c185
                    clear c185
                    have c186b0 := eq_true (of_decide_eq_true (by first | (with_reducible assumption) | assumption) : 0 ≤ x4_1)
                    by_cases c187 : x4_1 ≤ (wrap64 (x4_1 + 1))
                    · rw [if_pos c187] at H
                      have c187b0 := eq_true c187
                      have c187b1 : decide (x4_1 ≤ (wrap64 (x4_1 + 1))) = true := decide_eq_true c187
                      by_cases c188 : (wrap64 (x4_1 + 1)) ≤ (a0.size : Int)
                      · rw [if_pos c188] at H
                        have c188b0 := eq_true c188
                        have c188b1 : decide ((wrap64 (x4_1 + 1)) ≤ (a0.size : Int)) = true := decide_eq_true c188
                        by_cases c189 : x3_1.size + (a0.extract (x4_1 : Int).toNat ((wrap64 (x4_1 + 1)) : Int).toNat).size ≤ 9223372036854775807
                        · rw [if_pos c189] at H
                          have c189b0 := eq_true c189
                          have c189b1 : decide (x3_1.size + (a0.extract (x4_1 : Int).toNat ((wrap64 (x4_1 + 1)) : Int).toNat).size ≤ 9223372036854775807) = true := decide_eq_true c189
                          try have c189b2 : (9223372036854775807 < x3_1.size + (a0.extract (x4_1 : Int).toNat ((wrap64 (x4_1 + 1)) : Int).toNat).size) = False := eq_false (Nat.not_lt.2 c189)
                          have H' := Aside0.mk H
                          clear H
                          have p4 : 0 ≤ (x4_1 : Int) := of_decide_eq_true (by first | (with_reducible assumption) | assumption)
                          have q4 : x4_1 < (a0.size : Int) := of_decide_eq_true (by first | (with_reducible assumption) | assumption)
                          have hx4 := bt_at a0 x4_1
                          replace p4 := eq_true p4
                          replace q4 := eq_true q4
                          go_wp2
                          go_roundg k1
                          case measure => have := HK1.out; omega
                          case rel => exact ⟨(x3_1 ++ (a0.extract (x4_1 : Int).toNat ((wrap64 (x4_1 + 1)) : Int).toNat)), (wrap64 (x4_1 + 1)), (by first | rfl | (simp; done) | (simp [*]; done)), (by first | rfl | (simp; done) | (simp [*]; done)), H', ⟨by have := HK1.out; omega⟩, ⟨by repeat (first | (with_reducible first | exact HB.out | apply below_alloc | apply pw_below_drewN | apply below_drew1) | exact HB.out)⟩⟩
                        · rw [if_neg c189] at H
                          exact absurd H (by simp)
                      · rw [if_neg c188] at H
                        exact absurd H (by simp)
                    · rw [if_neg c187] at H
                      exact absurd H (by simp)
                  · rw [if_neg c185] at H
                    have c185b0 : ((bt a0 x4_1) == 46) = false := beq_eq_false_iff_ne.mpr c185
                    have c185b1 : ((bt a0 x4_1) != 46) = true := bne_iff_ne.mpr c185
                    by_cases c190 : (bt a0 x4_1) = 95
                    · rw [if_pos c190] at H
                      have c190b0 : ((bt a0 x4_1) == 95) = true := beq_iff_eq.mpr c190
                      have c190b1 : ((bt a0 x4_1) != 95) = false := bne_eq_false_iff_eq.mpr c190
                      clear c190
                      have c191b0 := eq_true (of_decide_eq_true (by first | (with_reducible assumption) | assumption) : 0 ≤ x4_1)
                      by_cases c192 : x4_1 ≤ (wrap64 (x4_1 + 1))
                      · rw [if_pos c192] at H
                        have c192b0 := eq_true c192
                        have c192b1 : decide (x4_1 ≤ (wrap64 (x4_1 + 1))) = true := decide_eq_true c192
                        by_cases c193 : (wrap64 (x4_1 + 1)) ≤ (a0.size : Int)
                        · rw [if_pos c193] at H
                          have c193b0 := eq_true c193
                          have c193b1 : decide ((wrap64 (x4_1 + 1)) ≤ (a0.size : Int)) = true := decide_eq_true c193
                          by_cases c194 : x3_1.size + (a0.extract (x4_1 : Int).toNat ((wrap64 (x4_1 + 1)) : Int).toNat).size ≤ 9223372036854775807
                          · rw [if_pos c194] at H
                            have c194b0 := eq_true c194
                            have c194b1 : decide (x3_1.size + (a0.extract (x4_1 : Int).toNat ((wrap64 (x4_1 + 1)) : Int).toNat).size ≤ 9223372036854775807) = true := decide_eq_true c194
                            try have c194b2 : (9223372036854775807 < x3_1.size + (a0.extract (x4_1 : Int).toNat ((wrap64 (x4_1 + 1)) : Int).toNat).size) = False := eq_false (Nat.not_lt.2 c194)
                            have H' := Aside0.mk H
                            clear H
                            have p4 : 0 ≤ (x4_1 : Int) := of_decide_eq_true (by first | (with_reducible assumption) | assumption)
                            have q4 : x4_1 < (a0.size : Int) := of_decide_eq_true (by first | (with_reducible assumption) | assumption)
                            have hx4 := bt_at a0 x4_1
                            replace p4 := eq_true p4
                            replace q4 := eq_true q4
                            go_wp2
                            go_roundg k1
                            case measure => have := HK1.out; omega
                            case rel => exact ⟨(x3_1 ++ (a0.extract (x4_1 : Int).toNat ((wrap64 (x4_1 + 1)) : Int).toNat)), (wrap64 (x4_1 + 1)), (by first | rfl | (simp; done) | (simp [*]; done)), (by first | rfl | (simp; done) | (simp [*]; done)), H', ⟨by have := HK1.out; omega⟩, ⟨by repeat (first | (with_reducible first | exact HB.out | apply below_alloc | apply pw_below_drewN | apply below_drew1) | exact HB.out)⟩⟩
                          · rw [if_neg c194] at H
                            exact absurd H (by simp)
                        · rw [if_neg c193] at H
                          exact absurd H (by simp)
                      · rw [if_neg c192] at H
                        exact absurd H (by simp)
                    · rw [if_neg c190] at H
                      have c190b0 : ((bt a0 x4_1) == 95) = false := beq_eq_false_iff_ne.mpr c190
                      have c190b1 : ((bt a0 x4_1) != 95) = true := bne_iff_ne.mpr c190
                      obtain ⟨ji195, hji195⟩ : ∃ j_ : Int, ((Int.tdiv (bt a0 x4_1) 16) % 256) = j_ := ⟨_, rfl⟩
                      have hwji195 : IntKind.u8.wrap (Int.tdiv (bt a0 x4_1) 16) = ji195 := by rw [← hji195]; simp [IntKind.wrap, IntKind.bits, IntKind.signed]
                      replace H : (if 0 ≤ (ji195) then (if (ji195) < 16 then (if 0 ≤ (Int.tmod (bt a0 x4_1) 16) then (if (Int.tmod (bt a0 x4_1) 16) < 16 then ((some (([37, bt (⟨#[48, 49, 50, 51, 52, 53, 54, 55, 56, 57, 65, 66, 67, 68, 69, 70]⟩ : ByteArray) (ji195), bt (⟨#[48, 49, 50, 51, 52, 53, 54, 55, 56, 57, 65, 66, 67, 68, 69, 70]⟩ : ByteArray) (Int.tmod (bt a0 x4_1) 16)] : List Int) : List Int)).bind fun y193 => (if x3_1.size + (strOfNums y193).size ≤ 9223372036854775807 then (quadrigaref32_Text.l0 k1 a0 (x3_1 ++ (strOfNums y193)) (wrap64 (x4_1 + 1))) else (none))) else (none)) else (none)) else (none)) else (none)) = some r := by first | (rw [hji195] at H; exact H) | (simp only [hji195] at H ⊢; exact H)
                      by_cases c196 : 0 ≤ (ji195)
                      · rw [if_pos c196] at H
                        have c196b0 : decide (0 ≤ (ji195)) = true := decide_eq_true c196
                        clear c196
                        by_cases c197 : (ji195) < 16
                        · rw [if_pos c197] at H
                          have c197b0 : decide ((ji195) < 16) = true := decide_eq_true c197
                          clear c197
                          obtain ⟨ji199, hji199⟩ : ∃ j_ : Int, (Int.tmod (bt a0 x4_1) 16) = j_ := ⟨_, rfl⟩
                          replace H : (if 0 ≤ (ji199) then (if (ji199) < 16 then ((some (([37, bt (⟨#[48, 49, 50, 51, 52, 53, 54, 55, 56, 57, 65, 66, 67, 68, 69, 70]⟩ : ByteArray) (ji195), bt (⟨#[48, 49, 50, 51, 52, 53, 54, 55, 56, 57, 65, 66, 67, 68, 69, 70]⟩ : ByteArray) (ji199)] : List Int) : List Int)).bind fun y193 => (if x3_1.size + (strOfNums y193).size ≤ 9223372036854775807 then (quadrigaref32_Text.l0 k1 a0 (x3_1 ++ (strOfNums y193)) (wrap64 (x4_1 + 1))) else (none))) else (none)) else (none)) = some r := by first | (rw [hji199] at H; exact H) | (simp only [hji199] at H ⊢; exact H)
                          by_cases c200 : 0 ≤ (ji199)
                          · rw [if_pos c200] at H
                            have c200b0 : decide (0 ≤ (ji199)) = true := decide_eq_true c200
                            clear c200
                            by_cases c201 : (ji199) < 16
                            · rw [if_pos c201] at H
                              have c201b0 : decide ((ji199) < 16) = true := decide_eq_true c201
                              clear c201
                              obtain ⟨y193, hy193⟩ : ∃ y_ : List Int, y_ = (([37, bt (⟨#[48, 49, 50, 51, 52, 53, 54, 55, 56, 57, 65, 66, 67, 68, 69, 70]⟩ : ByteArray) (ji195), bt (⟨#[48, 49, 50, 51, 52, 53, 54, 55, 56, 57, 65, 66, 67, 68, 69, 70]⟩ : ByteArray) (ji199)] : List Int)) := ⟨_, rfl⟩
                              replace H : (if x3_1.size + (strOfNums y193).size ≤ 9223372036854775807 then (quadrigaref32_Text.l0 k1 a0 (x3_1 ++ (strOfNums y193)) (wrap64 (x4_1 + 1))) else (none)) = some r := by first | (rw [hy193]; with_reducible exact H) | (have H2_ := (Option.bind_some _ _).symm.trans H; rw [hy193]; with_reducible exact H2_) | (have H2_ := (Option.bind_some _ _).symm.trans H; with_reducible exact H2_) | with_reducible exact H | (rw [hy193]; exact H) | exact H
                              have Ny193 := Aside0.mk hy193
                              clear hy193
                              by_cases c203 : x3_1.size + (strOfNums y193).size ≤ 9223372036854775807
                              · rw [if_pos c203] at H
                                have c203b0 := eq_true c203
                                have c203b1 : decide (x3_1.size + (strOfNums y193).size ≤ 9223372036854775807) = true := decide_eq_true c203
                                try have c203b2 : (9223372036854775807 < x3_1.size + (strOfNums y193).size) = False := eq_false (Nat.not_lt.2 c203)
                                have H' := Aside0.mk H
                                clear H
                                have p4 : 0 ≤ (x4_1 : Int) := of_decide_eq_true (by first | (with_reducible assumption) | assumption)
                                have q4 : x4_1 < (a0.size : Int) := of_decide_eq_true (by first | (with_reducible assumption) | assumption)
                                have hx4 := bt_at a0 x4_1
                                replace p4 := eq_true p4
                                replace q4 := eq_true q4
                                try go_wp2
                                have n0_ := Aside0.mk (below_drew1 HB.out)
                                clear HB
                                have HB := n0_
                                clear n0_
                                have p198 : 0 ≤ ((ji195) : Int) := of_decide_eq_true (by first | (with_reducible assumption) | assumption)
                                have q198 : (ji195) < (16 : Int) := of_decide_eq_true (by first | (with_reducible assumption) | assumption)
                                have hx198 := bt_at (⟨#[48, 49, 50, 51, 52, 53, 54, 55, 56, 57, 65, 66, 67, 68, 69, 70]⟩ : ByteArray) (ji195)
                                replace p198 := eq_true p198
                                replace q198 := eq_true q198
                                have p202 : 0 ≤ ((ji199) : Int) := of_decide_eq_true (by first | (with_reducible assumption) | assumption)
                                have q202 : (ji199) < (16 : Int) := of_decide_eq_true (by first | (with_reducible assumption) | assumption)
                                have hx202 := bt_at (⟨#[48, 49, 50, 51, 52, 53, 54, 55, 56, 57, 65, 66, 67, 68, 69, 70]⟩ : ByteArray) (ji199)
                                replace p202 := eq_true p202
                                replace q202 := eq_true q202
                                refine start_ (n := 11) (S := fun w' => True) (ds := []) #[false, false, false, false, false, false, false, false, false, false, false] (by kernel_rfl) rfl rfl trivial (fun hHeld => ?_); refine with_tabW quadrigaref32_Text.tab8 quadrigaref32_Text.bits8 (fun HT_ HW_ => ?_)
                                generalize wr.drew = w204 at HB hHeld ⊢
                                refine pure_ (i := 0) (N := some 52) (v := ?_) (a' := ?_) #[true, false, false, false, false, false, false, false, false, false, false] rfl rfl (any_of HT_.out (by kernel_rfl)) (fun _ _ _ h => h) (Or.inl ⟨by rfl, ?_⟩) ?_ ?_
                                rotate_left
                                · intro w'
                                  go_simp
                                  with_reducible rfl
                                rotate_left
                                · simp only [Act.put, List.setIfInBounds_toArray, List.set_cons_zero, List.set_cons_succ, i64_w, i32_w]
                                  rfl
                                refine pure_ (i := 1) (N := some 53) (v := ?_) (a' := ?_) #[true, true, false, false, false, false, false, false, false, false, false] rfl rfl (any_of HT_.out (by kernel_rfl)) (fun _ _ _ h => h) (Or.inl ⟨by rfl, ?_⟩) ?_ ?_
                                rotate_left
                                · intro w'
                                  go_simp
                                  with_reducible rfl
                                rotate_left
                                · simp only [Act.put, List.setIfInBounds_toArray, List.set_cons_zero, List.set_cons_succ, i64_w, i32_w]
                                  rfl
                                refine pure_ (i := 2) (N := some 54) (v := ?_) (a' := ?_) #[true, true, true, false, false, false, false, false, false, false, false] rfl rfl (any_of HT_.out (by kernel_rfl)) (fun _ _ _ h => h) (Or.inl ⟨by rfl, ?_⟩) ?_ ?_
                                rotate_left
                                · intro w'
                                  go_simp
                                  with_reducible rfl
                                rotate_left
                                · simp only [Act.put, List.setIfInBounds_toArray, List.set_cons_zero, List.set_cons_succ, i64_w, i32_w]
                                  rfl
                                refine pure_ (i := 4) (N := some 56) (v := ?_) (a' := ?_) #[true, true, true, false, true, false, false, false, false, false, false] rfl rfl (any_of HT_.out (by kernel_rfl)) (fun _ _ _ h => h) (Or.inl ⟨by rfl, ?_⟩) ?_ ?_
                                rotate_left
                                · intro w'
                                  go_simp
                                  with_reducible rfl
                                rotate_left
                                · simp only [Act.put, List.setIfInBounds_toArray, List.set_cons_zero, List.set_cons_succ, i64_w, i32_w]
                                  rfl
                                refine pure_ (i := 5) (N := some 57) (v := ?_) (a' := ?_) #[true, true, true, false, true, true, false, false, false, false, false] rfl rfl (any_of HT_.out (by kernel_rfl)) (fun _ _ _ h => h) (Or.inl ⟨by rfl, ?_⟩) ?_ ?_
                                rotate_left
                                · intro w'
                                  go_simp
                                  with_reducible rfl
                                rotate_left
                                · simp only [Act.put, List.setIfInBounds_toArray, List.set_cons_zero, List.set_cons_succ, i64_w, i32_w]
                                  rfl
                                refine take_ (i := 3) (N := some 55) (v := ?_) (a' := ?_) #[true, true, true, true, true, true, false, false, false, false, false] rfl rfl (take_ofW HT_.out HW_.out (by kernel_rfl)) (fun _ _ _ h => h) (Or.inl ⟨by rfl, ?_⟩) hHeld ?_ ?_
                                rotate_left
                                · intro w' _
                                  go_simp
                                  with_reducible rfl
                                rotate_left
                                · simp only [Act.put, List.setIfInBounds_toArray, List.set_cons_zero, List.set_cons_succ, i64_w, i32_w]
                                  rfl
                                refine take_ (i := 6) (N := some 58) (v := ?_) (a' := ?_) #[true, true, true, true, true, true, true, false, false, false, false] rfl rfl (take_ofW HT_.out HW_.out (by kernel_rfl)) (fun _ _ _ h => h) (Or.inl ⟨by rfl, ?_⟩) hHeld ?_ ?_
                                rotate_left
                                · intro w' _
                                  go_simp
                                  with_reducible rfl
                                rotate_left
                                · simp only [Act.put, List.setIfInBounds_toArray, List.set_cons_zero, List.set_cons_succ, i64_w, i32_w]
                                  rfl
                                refine one_ (i := 7) (N := some 59) #[true, true, true, true, true, true, true, true, false, false, false] rfl rfl (one_of HT_.out (by kernel_rfl)) (by decide) (fun K hK => ?_)
                                refine Kd.R_lit_step (Kd.int .u8) _ 5 ?hg (N := 59) ?hd (xs := ([37, bt (⟨#[48, 49, 50, 51, 52, 53, 54, 55, 56, 57, 65, 66, 67, 68, 69, 70]⟩ : ByteArray) (ji195), bt (⟨#[48, 49, 50, 51, 52, 53, 54, 55, 56, 57, 65, 66, 67, 68, 69, 70]⟩ : ByteArray) (ji199)] : List Int)) (inner := [.int .u8 37, .int .u8 (bt (⟨#[48, 49, 50, 51, 52, 53, 54, 55, 56, 57, 65, 66, 67, 68, 69, 70]⟩ : ByteArray) (ji195)), .int .u8 (bt (⟨#[48, 49, 50, 51, 52, 53, 54, 55, 56, 57, 65, 66, 67, 68, 69, 70]⟩ : ByteArray) (ji199))]) (ok := fun _ => True) (okp := fun _ => True) ?hr ?hp (fun _ hk => hk) trivial (Below.refl _ _) (Nat.le_refl _) (by simp) ?_; (case hd => rfl); (case hg => rfl); (case hr => first | (go_simp; done) | (go_simp; rfl)); (case hp => exact (Reps.one (show Kd.M (Kd.int .u8) _ _ _ 37 [.int .u8 37] from rfl) (Reps.one (show Kd.M (Kd.int .u8) _ _ _ (bt (⟨#[48, 49, 50, 51, 52, 53, 54, 55, 56, 57, 65, 66, 67, 68, 69, 70]⟩ : ByteArray) (ji195)) [.int .u8 (bt (⟨#[48, 49, 50, 51, 52, 53, 54, 55, 56, 57, 65, 66, 67, 68, 69, 70]⟩ : ByteArray) (ji195))] from rfl) (Reps.one (show Kd.M (Kd.int .u8) _ _ _ (bt (⟨#[48, 49, 50, 51, 52, 53, 54, 55, 56, 57, 65, 66, 67, 68, 69, 70]⟩ : ByteArray) (ji199)) [.int .u8 (bt (⟨#[48, 49, 50, 51, 52, 53, 54, 55, 56, 57, 65, 66, 67, 68, 69, 70]⟩ : ByteArray) (ji199))] from rfl) (Reps.none _ _)))))
                                intro v194 w205 ho206 hb hg_ hnew_
                                clear hg_ hnew_
                                (first | rw [← Ny193.out] at ho206 | (simp only [Int.reduceToNat] at ho206; rw [← Ny193.out] at ho206))
                                have n0_ := Aside0.mk (Kd.R_lower ho206 (below_size (by repeat (first | (with_reducible first | exact HB.out | apply below_alloc | apply pw_below_drewN | apply below_drew1) | exact HB.out))))
                                have n1_ := Aside0.mk (below_step (by repeat (first | (with_reducible first | exact HB.out | apply below_alloc | apply pw_below_drewN | apply below_drew1) | exact HB.out)) hb)
                                clear HB
                                have HO195 := n0_
                                have HB := n1_
                                clear n0_ n1_
                                clear hb ho206
                                refine hK.out _ _ trivial (fun hHeld => ?_)
                                clear hK K
                                refine norm_ (a' := ?_) ?_ ?_
                                rotate_left
                                · show Act.put _ (some 59) _ = _
                                  simp only [Act.put, List.setIfInBounds_toArray, List.set_cons_zero, List.set_cons_succ, i64_w, i32_w]
                                  rfl
                                refine one_ (i := 8) (N := some 60) #[true, true, true, true, true, true, true, true, true, false, false] rfl rfl (one_of HT_.out (by kernel_rfl)) (by decide) (fun K hK => ?_)
                                have hcv207 := own_string (P := Tryd.prog) Tryd.underlying48 Tryd.underlying5 Tryd.underlying9 (Kd.own_of_R HO195.out)
                                refine value_ (w1 := ?_) (v := ?_) (by rfl) rfl ?_ ?_
                                rotate_left 2
                                · go_simp
                                  constructor
                                  · rfl
                                  · rfl
                                clear hcv207
                                refine hK.out _ _ trivial (fun hHeld => ?_)
                                clear hK K
                                refine norm_ (a' := ?_) ?_ ?_
                                rotate_left
                                · show Act.put _ (some 60) _ = _
                                  simp only [Act.put, List.setIfInBounds_toArray, List.set_cons_zero, List.set_cons_succ, i64_w, i32_w]
                                  rfl
                                refine pure_ (i := 9) (N := some 61) (v := ?_) (a' := ?_) #[true, true, true, true, true, true, true, true, true, true, false] rfl rfl (any_of HT_.out (by kernel_rfl)) (fun _ _ _ h => h) (Or.inl ⟨by rfl, ?_⟩) ?_ ?_
                                rotate_left
                                · intro w'
                                  go_simp
                                  with_reducible rfl
                                rotate_left
                                · simp only [Act.put, List.setIfInBounds_toArray, List.set_cons_zero, List.set_cons_succ, i64_w, i32_w]
                                  rfl
                                refine pure_ (i := 10) (N := some 3) (v := ?_) (a' := ?_) #[true, true, true, true, true, true, true, true, true, true, true] rfl rfl (any_of HT_.out (by kernel_rfl)) (fun _ _ _ h => h) (Or.inl ⟨by rfl, ?_⟩) ?_ ?_
                                rotate_left
                                · intro w'
                                  go_simp
                                  with_reducible rfl
                                rotate_left
                                · simp only [Act.put, List.setIfInBounds_toArray, List.set_cons_zero, List.set_cons_succ, i64_w, i32_w]
                                  rfl
                                refine done_ (done_of HT_.out (by kernel_rfl)) ?_
                                try go_wp2
                                go_roundg k1
                                case measure => have := HK1.out; omega
                                case rel => exact ⟨(x3_1 ++ (strOfNums y193)), (wrap64 (x4_1 + 1)), (by first | rfl | (simp; done) | (simp [*]; done)), (by first | rfl | (simp; done) | (simp [*]; done)), H', ⟨by have := HK1.out; omega⟩, ⟨by repeat (first | (with_reducible first | exact HB.out | apply below_alloc | apply pw_below_drewN | apply below_drew1) | exact HB.out)⟩⟩
                              · rw [if_neg c203] at H
                                exact absurd H (by simp)
                            · rw [if_neg c201] at H
                              exact absurd H (by simp)
                          · rw [if_neg c200] at H
                            exact absurd H (by simp)
                        · rw [if_neg c197] at H
                          exact absurd H (by simp)
                      · rw [if_neg c196] at H
                        exact absurd H (by simp)
              · rw [if_neg c179] at H
                have c179b0 : decide (48 ≤ (bt a0 x4_1)) = false := decide_eq_false c179
                clear c179
                by_cases c208 : (bt a0 x4_1) = 46
                · rw [if_pos c208] at H
                  have c208b0 : ((bt a0 x4_1) == 46) = true := beq_iff_eq.mpr c208
                  have c208b1 : ((bt a0 x4_1) != 46) = false := bne_eq_false_iff_eq.mpr c208
                  clear c208
                  have c209b0 := eq_true (of_decide_eq_true (by first | (with_reducible assumption) | assumption) : 0 ≤ x4_1)
                  by_cases c210 : x4_1 ≤ (wrap64 (x4_1 + 1))
                  · rw [if_pos c210] at H
                    have c210b0 := eq_true c210
                    have c210b1 : decide (x4_1 ≤ (wrap64 (x4_1 + 1))) = true := decide_eq_true c210
                    by_cases c211 : (wrap64 (x4_1 + 1)) ≤ (a0.size : Int)
                    · rw [if_pos c211] at H
                      have c211b0 := eq_true c211
                      have c211b1 : decide ((wrap64 (x4_1 + 1)) ≤ (a0.size : Int)) = true := decide_eq_true c211
                      by_cases c212 : x3_1.size + (a0.extract (x4_1 : Int).toNat ((wrap64 (x4_1 + 1)) : Int).toNat).size ≤ 9223372036854775807
                      · rw [if_pos c212] at H
                        have c212b0 := eq_true c212
                        have c212b1 : decide (x3_1.size + (a0.extract (x4_1 : Int).toNat ((wrap64 (x4_1 + 1)) : Int).toNat).size ≤ 9223372036854775807) = true := decide_eq_true c212
                        try have c212b2 : (9223372036854775807 < x3_1.size + (a0.extract (x4_1 : Int).toNat ((wrap64 (x4_1 + 1)) : Int).toNat).size) = False := eq_false (Nat.not_lt.2 c212)
                        have H' := Aside0.mk H
                        clear H
                        have p4 : 0 ≤ (x4_1 : Int) := of_decide_eq_true (by first | (with_reducible assumption) | assumption)
                        have q4 : x4_1 < (a0.size : Int) := of_decide_eq_true (by first | (with_reducible assumption) | assumption)
                        have hx4 := bt_at a0 x4_1
                        replace p4 := eq_true p4
                        replace q4 := eq_true q4
                        go_wp2
                        go_roundg k1
                        case measure => have := HK1.out; omega
                        case rel => exact ⟨(x3_1 ++ (a0.extract (x4_1 : Int).toNat ((wrap64 (x4_1 + 1)) : Int).toNat)), (wrap64 (x4_1 + 1)), (by first | rfl | (simp; done) | (simp [*]; done)), (by first | rfl | (simp; done) | (simp [*]; done)), H', ⟨by have := HK1.out; omega⟩, ⟨by repeat (first | (with_reducible first | exact HB.out | apply below_alloc | apply pw_below_drewN | apply below_drew1) | exact HB.out)⟩⟩
                      · rw [if_neg c212] at H
                        exact absurd H (by simp)
                    · rw [if_neg c211] at H
                      exact absurd H (by simp)
                  · rw [if_neg c210] at H
                    exact absurd H (by simp)
                · rw [if_neg c208] at H
                  have c208b0 : ((bt a0 x4_1) == 46) = false := beq_eq_false_iff_ne.mpr c208
                  have c208b1 : ((bt a0 x4_1) != 46) = true := bne_iff_ne.mpr c208
                  by_cases c213 : (bt a0 x4_1) = 95
                  · rw [if_pos c213] at H
                    have c213b0 : ((bt a0 x4_1) == 95) = true := beq_iff_eq.mpr c213
                    have c213b1 : ((bt a0 x4_1) != 95) = false := bne_eq_false_iff_eq.mpr c213
                    clear c213
                    have c214b0 := eq_true (of_decide_eq_true (by first | (with_reducible assumption) | assumption) : 0 ≤ x4_1)
                    by_cases c215 : x4_1 ≤ (wrap64 (x4_1 + 1))
                    · rw [if_pos c215] at H
                      have c215b0 := eq_true c215
                      have c215b1 : decide (x4_1 ≤ (wrap64 (x4_1 + 1))) = true := decide_eq_true c215
                      by_cases c216 : (wrap64 (x4_1 + 1)) ≤ (a0.size : Int)
                      · rw [if_pos c216] at H
                        have c216b0 := eq_true c216
                        have c216b1 : decide ((wrap64 (x4_1 + 1)) ≤ (a0.size : Int)) = true := decide_eq_true c216
                        by_cases c217 : x3_1.size + (a0.extract (x4_1 : Int).toNat ((wrap64 (x4_1 + 1)) : Int).toNat).size ≤ 9223372036854775807
                        · rw [if_pos c217] at H
                          have c217b0 := eq_true c217
                          have c217b1 : decide (x3_1.size + (a0.extract (x4_1 : Int).toNat ((wrap64 (x4_1 + 1)) : Int).toNat).size ≤ 9223372036854775807) = true := decide_eq_true c217
                          try have c217b2 : (9223372036854775807 < x3_1.size + (a0.extract (x4_1 : Int).toNat ((wrap64 (x4_1 + 1)) : Int).toNat).size) = False := eq_false (Nat.not_lt.2 c217)
                          have H' := Aside0.mk H
                          clear H
                          have p4 : 0 ≤ (x4_1 : Int) := of_decide_eq_true (by first | (with_reducible assumption) | assumption)
                          have q4 : x4_1 < (a0.size : Int) := of_decide_eq_true (by first | (with_reducible assumption) | assumption)
                          have hx4 := bt_at a0 x4_1
                          replace p4 := eq_true p4
                          replace q4 := eq_true q4
                          go_wp2
                          go_roundg k1
                          case measure => have := HK1.out; omega
                          case rel => exact ⟨(x3_1 ++ (a0.extract (x4_1 : Int).toNat ((wrap64 (x4_1 + 1)) : Int).toNat)), (wrap64 (x4_1 + 1)), (by first | rfl | (simp; done) | (simp [*]; done)), (by first | rfl | (simp; done) | (simp [*]; done)), H', ⟨by have := HK1.out; omega⟩, ⟨by repeat (first | (with_reducible first | exact HB.out | apply below_alloc | apply pw_below_drewN | apply below_drew1) | exact HB.out)⟩⟩
                        · rw [if_neg c217] at H
                          exact absurd H (by simp)
                      · rw [if_neg c216] at H
                        exact absurd H (by simp)
                    · rw [if_neg c215] at H
                      exact absurd H (by simp)
                  · rw [if_neg c213] at H
                    have c213b0 : ((bt a0 x4_1) == 95) = false := beq_eq_false_iff_ne.mpr c213
                    have c213b1 : ((bt a0 x4_1) != 95) = true := bne_iff_ne.mpr c213
                    obtain ⟨ji218, hji218⟩ : ∃ j_ : Int, ((Int.tdiv (bt a0 x4_1) 16) % 256) = j_ := ⟨_, rfl⟩
                    have hwji218 : IntKind.u8.wrap (Int.tdiv (bt a0 x4_1) 16) = ji218 := by rw [← hji218]; simp [IntKind.wrap, IntKind.bits, IntKind.signed]
                    replace H : (if 0 ≤ (ji218) then (if (ji218) < 16 then (if 0 ≤ (Int.tmod (bt a0 x4_1) 16) then (if (Int.tmod (bt a0 x4_1) 16) < 16 then ((some (([37, bt (⟨#[48, 49, 50, 51, 52, 53, 54, 55, 56, 57, 65, 66, 67, 68, 69, 70]⟩ : ByteArray) (ji218), bt (⟨#[48, 49, 50, 51, 52, 53, 54, 55, 56, 57, 65, 66, 67, 68, 69, 70]⟩ : ByteArray) (Int.tmod (bt a0 x4_1) 16)] : List Int) : List Int)).bind fun y196 => (if x3_1.size + (strOfNums y196).size ≤ 9223372036854775807 then (quadrigaref32_Text.l0 k1 a0 (x3_1 ++ (strOfNums y196)) (wrap64 (x4_1 + 1))) else (none))) else (none)) else (none)) else (none)) else (none)) = some r := by first | (rw [hji218] at H; exact H) | (simp only [hji218] at H ⊢; exact H)
                    by_cases c219 : 0 ≤ (ji218)
                    · rw [if_pos c219] at H
                      have c219b0 : decide (0 ≤ (ji218)) = true := decide_eq_true c219
                      clear c219
                      by_cases c220 : (ji218) < 16
                      · rw [if_pos c220] at H
                        have c220b0 : decide ((ji218) < 16) = true := decide_eq_true c220
                        clear c220
                        obtain ⟨ji222, hji222⟩ : ∃ j_ : Int, (Int.tmod (bt a0 x4_1) 16) = j_ := ⟨_, rfl⟩
                        replace H : (if 0 ≤ (ji222) then (if (ji222) < 16 then ((some (([37, bt (⟨#[48, 49, 50, 51, 52, 53, 54, 55, 56, 57, 65, 66, 67, 68, 69, 70]⟩ : ByteArray) (ji218), bt (⟨#[48, 49, 50, 51, 52, 53, 54, 55, 56, 57, 65, 66, 67, 68, 69, 70]⟩ : ByteArray) (ji222)] : List Int) : List Int)).bind fun y196 => (if x3_1.size + (strOfNums y196).size ≤ 9223372036854775807 then (quadrigaref32_Text.l0 k1 a0 (x3_1 ++ (strOfNums y196)) (wrap64 (x4_1 + 1))) else (none))) else (none)) else (none)) = some r := by first | (rw [hji222] at H; exact H) | (simp only [hji222] at H ⊢; exact H)
                        by_cases c223 : 0 ≤ (ji222)
                        · rw [if_pos c223] at H
                          have c223b0 : decide (0 ≤ (ji222)) = true := decide_eq_true c223
                          clear c223
                          by_cases c224 : (ji222) < 16
                          · rw [if_pos c224] at H
                            have c224b0 : decide ((ji222) < 16) = true := decide_eq_true c224
                            clear c224
                            obtain ⟨y196, hy196⟩ : ∃ y_ : List Int, y_ = (([37, bt (⟨#[48, 49, 50, 51, 52, 53, 54, 55, 56, 57, 65, 66, 67, 68, 69, 70]⟩ : ByteArray) (ji218), bt (⟨#[48, 49, 50, 51, 52, 53, 54, 55, 56, 57, 65, 66, 67, 68, 69, 70]⟩ : ByteArray) (ji222)] : List Int)) := ⟨_, rfl⟩
                            replace H : (if x3_1.size + (strOfNums y196).size ≤ 9223372036854775807 then (quadrigaref32_Text.l0 k1 a0 (x3_1 ++ (strOfNums y196)) (wrap64 (x4_1 + 1))) else (none)) = some r := by first | (rw [hy196]; with_reducible exact H) | (have H2_ := (Option.bind_some _ _).symm.trans H; rw [hy196]; with_reducible exact H2_) | (have H2_ := (Option.bind_some _ _).symm.trans H; with_reducible exact H2_) | with_reducible exact H | (rw [hy196]; exact H) | exact H
                            have Ny196 := Aside0.mk hy196
                            clear hy196
                            by_cases c226 : x3_1.size + (strOfNums y196).size ≤ 9223372036854775807
                            · rw [if_pos c226] at H
                              have c226b0 := eq_true c226
                              have c226b1 : decide (x3_1.size + (strOfNums y196).size ≤ 9223372036854775807) = true := decide_eq_true c226
                              try have c226b2 : (9223372036854775807 < x3_1.size + (strOfNums y196).size) = False := eq_false (Nat.not_lt.2 c226)
                              have H' := Aside0.mk H
                              clear H
                              have p4 : 0 ≤ (x4_1 : Int) := of_decide_eq_true (by first | (with_reducible assumption) | assumption)
                              have q4 : x4_1 < (a0.size : Int) := of_decide_eq_true (by first | (with_reducible assumption) | assumption)
                              have hx4 := bt_at a0 x4_1
                              replace p4 := eq_true p4
                              replace q4 := eq_true q4
                              try go_wp2
                              have n0_ := Aside0.mk (below_drew1 HB.out)
                              clear HB
                              have HB := n0_
                              clear n0_
                              have p221 : 0 ≤ ((ji218) : Int) := of_decide_eq_true (by first | (with_reducible assumption) | assumption)
                              have q221 : (ji218) < (16 : Int) := of_decide_eq_true (by first | (with_reducible assumption) | assumption)
                              have hx221 := bt_at (⟨#[48, 49, 50, 51, 52, 53, 54, 55, 56, 57, 65, 66, 67, 68, 69, 70]⟩ : ByteArray) (ji218)
                              replace p221 := eq_true p221
                              replace q221 := eq_true q221
                              have p225 : 0 ≤ ((ji222) : Int) := of_decide_eq_true (by first | (with_reducible assumption) | assumption)
                              have q225 : (ji222) < (16 : Int) := of_decide_eq_true (by first | (with_reducible assumption) | assumption)
                              have hx225 := bt_at (⟨#[48, 49, 50, 51, 52, 53, 54, 55, 56, 57, 65, 66, 67, 68, 69, 70]⟩ : ByteArray) (ji222)
                              replace p225 := eq_true p225
                              replace q225 := eq_true q225
                              refine start_ (n := 11) (S := fun w' => True) (ds := []) #[false, false, false, false, false, false, false, false, false, false, false] (by kernel_rfl) rfl rfl trivial (fun hHeld => ?_); refine with_tabW quadrigaref32_Text.tab8 quadrigaref32_Text.bits8 (fun HT_ HW_ => ?_)
                              generalize wr.drew = w227 at HB hHeld ⊢
                              refine pure_ (i := 0) (N := some 52) (v := ?_) (a' := ?_) #[true, false, false, false, false, false, false, false, false, false, false] rfl rfl (any_of HT_.out (by kernel_rfl)) (fun _ _ _ h => h) (Or.inl ⟨by rfl, ?_⟩) ?_ ?_
                              rotate_left
                              · intro w'
                                go_simp
                                with_reducible rfl
                              rotate_left
                              · simp only [Act.put, List.setIfInBounds_toArray, List.set_cons_zero, List.set_cons_succ, i64_w, i32_w]
                                rfl
                              refine pure_ (i := 1) (N := some 53) (v := ?_) (a' := ?_) #[true, true, false, false, false, false, false, false, false, false, false] rfl rfl (any_of HT_.out (by kernel_rfl)) (fun _ _ _ h => h) (Or.inl ⟨by rfl, ?_⟩) ?_ ?_
                              rotate_left
                              · intro w'
                                go_simp
                                with_reducible rfl
                              rotate_left
                              · simp only [Act.put, List.setIfInBounds_toArray, List.set_cons_zero, List.set_cons_succ, i64_w, i32_w]
                                rfl
                              refine pure_ (i := 2) (N := some 54) (v := ?_) (a' := ?_) #[true, true, true, false, false, false, false, false, false, false, false] rfl rfl (any_of HT_.out (by kernel_rfl)) (fun _ _ _ h => h) (Or.inl ⟨by rfl, ?_⟩) ?_ ?_
                              rotate_left
                              · intro w'
                                go_simp
                                with_reducible rfl
                              rotate_left
                              · simp only [Act.put, List.setIfInBounds_toArray, List.set_cons_zero, List.set_cons_succ, i64_w, i32_w]
                                rfl
                              refine pure_ (i := 4) (N := some 56) (v := ?_) (a' := ?_) #[true, true, true, false, true, false, false, false, false, false, false] rfl rfl (any_of HT_.out (by kernel_rfl)) (fun _ _ _ h => h) (Or.inl ⟨by rfl, ?_⟩) ?_ ?_
                              rotate_left
                              · intro w'
                                go_simp
                                with_reducible rfl
                              rotate_left
                              · simp only [Act.put, List.setIfInBounds_toArray, List.set_cons_zero, List.set_cons_succ, i64_w, i32_w]
                                rfl
                              refine pure_ (i := 5) (N := some 57) (v := ?_) (a' := ?_) #[true, true, true, false, true, true, false, false, false, false, false] rfl rfl (any_of HT_.out (by kernel_rfl)) (fun _ _ _ h => h) (Or.inl ⟨by rfl, ?_⟩) ?_ ?_
                              rotate_left
                              · intro w'
                                go_simp
                                with_reducible rfl
                              rotate_left
                              · simp only [Act.put, List.setIfInBounds_toArray, List.set_cons_zero, List.set_cons_succ, i64_w, i32_w]
                                rfl
                              refine take_ (i := 3) (N := some 55) (v := ?_) (a' := ?_) #[true, true, true, true, true, true, false, false, false, false, false] rfl rfl (take_ofW HT_.out HW_.out (by kernel_rfl)) (fun _ _ _ h => h) (Or.inl ⟨by rfl, ?_⟩) hHeld ?_ ?_
                              rotate_left
                              · intro w' _
                                go_simp
                                with_reducible rfl
                              rotate_left
                              · simp only [Act.put, List.setIfInBounds_toArray, List.set_cons_zero, List.set_cons_succ, i64_w, i32_w]
                                rfl
                              refine take_ (i := 6) (N := some 58) (v := ?_) (a' := ?_) #[true, true, true, true, true, true, true, false, false, false, false] rfl rfl (take_ofW HT_.out HW_.out (by kernel_rfl)) (fun _ _ _ h => h) (Or.inl ⟨by rfl, ?_⟩) hHeld ?_ ?_
                              rotate_left
                              · intro w' _
                                go_simp
                                with_reducible rfl
                              rotate_left
                              · simp only [Act.put, List.setIfInBounds_toArray, List.set_cons_zero, List.set_cons_succ, i64_w, i32_w]
                                rfl
                              refine one_ (i := 7) (N := some 59) #[true, true, true, true, true, true, true, true, false, false, false] rfl rfl (one_of HT_.out (by kernel_rfl)) (by decide) (fun K hK => ?_)
                              refine Kd.R_lit_step (Kd.int .u8) _ 5 ?hg (N := 59) ?hd (xs := ([37, bt (⟨#[48, 49, 50, 51, 52, 53, 54, 55, 56, 57, 65, 66, 67, 68, 69, 70]⟩ : ByteArray) (ji218), bt (⟨#[48, 49, 50, 51, 52, 53, 54, 55, 56, 57, 65, 66, 67, 68, 69, 70]⟩ : ByteArray) (ji222)] : List Int)) (inner := [.int .u8 37, .int .u8 (bt (⟨#[48, 49, 50, 51, 52, 53, 54, 55, 56, 57, 65, 66, 67, 68, 69, 70]⟩ : ByteArray) (ji218)), .int .u8 (bt (⟨#[48, 49, 50, 51, 52, 53, 54, 55, 56, 57, 65, 66, 67, 68, 69, 70]⟩ : ByteArray) (ji222))]) (ok := fun _ => True) (okp := fun _ => True) ?hr ?hp (fun _ hk => hk) trivial (Below.refl _ _) (Nat.le_refl _) (by simp) ?_; (case hd => rfl); (case hg => rfl); (case hr => first | (go_simp; done) | (go_simp; rfl)); (case hp => exact (Reps.one (show Kd.M (Kd.int .u8) _ _ _ 37 [.int .u8 37] from rfl) (Reps.one (show Kd.M (Kd.int .u8) _ _ _ (bt (⟨#[48, 49, 50, 51, 52, 53, 54, 55, 56, 57, 65, 66, 67, 68, 69, 70]⟩ : ByteArray) (ji218)) [.int .u8 (bt (⟨#[48, 49, 50, 51, 52, 53, 54, 55, 56, 57, 65, 66, 67, 68, 69, 70]⟩ : ByteArray) (ji218))] from rfl) (Reps.one (show Kd.M (Kd.int .u8) _ _ _ (bt (⟨#[48, 49, 50, 51, 52, 53, 54, 55, 56, 57, 65, 66, 67, 68, 69, 70]⟩ : ByteArray) (ji222)) [.int .u8 (bt (⟨#[48, 49, 50, 51, 52, 53, 54, 55, 56, 57, 65, 66, 67, 68, 69, 70]⟩ : ByteArray) (ji222))] from rfl) (Reps.none _ _)))))
                              intro v197 w228 ho229 hb hg_ hnew_
                              clear hg_ hnew_
                              (first | rw [← Ny196.out] at ho229 | (simp only [Int.reduceToNat] at ho229; rw [← Ny196.out] at ho229))
                              have n0_ := Aside0.mk (Kd.R_lower ho229 (below_size (by repeat (first | (with_reducible first | exact HB.out | apply below_alloc | apply pw_below_drewN | apply below_drew1) | exact HB.out))))
                              have n1_ := Aside0.mk (below_step (by repeat (first | (with_reducible first | exact HB.out | apply below_alloc | apply pw_below_drewN | apply below_drew1) | exact HB.out)) hb)
                              clear HB
                              have HO198 := n0_
                              have HB := n1_
                              clear n0_ n1_
                              clear hb ho229
                              refine hK.out _ _ trivial (fun hHeld => ?_)
                              clear hK K
                              refine norm_ (a' := ?_) ?_ ?_
                              rotate_left
                              · show Act.put _ (some 59) _ = _
                                simp only [Act.put, List.setIfInBounds_toArray, List.set_cons_zero, List.set_cons_succ, i64_w, i32_w]
                                rfl
                              refine one_ (i := 8) (N := some 60) #[true, true, true, true, true, true, true, true, true, false, false] rfl rfl (one_of HT_.out (by kernel_rfl)) (by decide) (fun K hK => ?_)
                              have hcv230 := own_string (P := Tryd.prog) Tryd.underlying48 Tryd.underlying5 Tryd.underlying9 (Kd.own_of_R HO198.out)
                              refine value_ (w1 := ?_) (v := ?_) (by rfl) rfl ?_ ?_
                              rotate_left 2
                              · go_simp
                                constructor
                                · rfl
                                · rfl
                              clear hcv230
                              refine hK.out _ _ trivial (fun hHeld => ?_)
                              clear hK K
                              refine norm_ (a' := ?_) ?_ ?_
                              rotate_left
                              · show Act.put _ (some 60) _ = _
                                simp only [Act.put, List.setIfInBounds_toArray, List.set_cons_zero, List.set_cons_succ, i64_w, i32_w]
                                rfl
                              refine pure_ (i := 9) (N := some 61) (v := ?_) (a' := ?_) #[true, true, true, true, true, true, true, true, true, true, false] rfl rfl (any_of HT_.out (by kernel_rfl)) (fun _ _ _ h => h) (Or.inl ⟨by rfl, ?_⟩) ?_ ?_
                              rotate_left
                              · intro w'
                                go_simp
                                with_reducible rfl
                              rotate_left
                              · simp only [Act.put, List.setIfInBounds_toArray, List.set_cons_zero, List.set_cons_succ, i64_w, i32_w]
                                rfl
                              refine pure_ (i := 10) (N := some 3) (v := ?_) (a' := ?_) #[true, true, true, true, true, true, true, true, true, true, true] rfl rfl (any_of HT_.out (by kernel_rfl)) (fun _ _ _ h => h) (Or.inl ⟨by rfl, ?_⟩) ?_ ?_
                              rotate_left
                              · intro w'
                                go_simp
                                with_reducible rfl
                              rotate_left
                              · simp only [Act.put, List.setIfInBounds_toArray, List.set_cons_zero, List.set_cons_succ, i64_w, i32_w]
                                rfl
                              refine done_ (done_of HT_.out (by kernel_rfl)) ?_
                              try go_wp2
                              go_roundg k1
                              case measure => have := HK1.out; omega
                              case rel => exact ⟨(x3_1 ++ (strOfNums y196)), (wrap64 (x4_1 + 1)), (by first | rfl | (simp; done) | (simp [*]; done)), (by first | rfl | (simp; done) | (simp [*]; done)), H', ⟨by have := HK1.out; omega⟩, ⟨by repeat (first | (with_reducible first | exact HB.out | apply below_alloc | apply pw_below_drewN | apply below_drew1) | exact HB.out)⟩⟩
                            · rw [if_neg c226] at H
                              exact absurd H (by simp)
                          · rw [if_neg c224] at H
                            exact absurd H (by simp)
                        · rw [if_neg c223] at H
                          exact absurd H (by simp)
                      · rw [if_neg c220] at H
                        exact absurd H (by simp)
                    · rw [if_neg c219] at H
                      exact absurd H (by simp)
        · rw [if_neg c3] at H
          exact absurd H (by simp)
      · rw [if_neg c2] at H
        have c2b0 : decide (x4_1 < (a0.size : Int)) = false := decide_eq_false c2
        clear c2
        by_cases c231 : a0.toList = ([] : List UInt8)
        · rw [if_pos c231] at H
          have c231b0 : (a0.toList == ([] : List UInt8)) = true := beq_iff_eq.mpr c231
          have c231b1 : (a0.toList != ([] : List UInt8)) = false := bne_eq_false_iff_eq.mpr c231
          clear c231
          obtain rfl := Option.some.inj H
          go_wp2
          go_ret
          exact ⟨by first | rfl | (simp [errW_none, errW_some] <;> rfl) | (simp [*, errW_none, errW_some] <;> rfl), by repeat (first | (with_reducible first | exact HB.out | apply below_alloc | apply pw_below_drewN | apply below_drew1) | exact HB.out)⟩
        · rw [if_neg c231] at H
          have c231b0 : (a0.toList == ([] : List UInt8)) = false := beq_eq_false_iff_ne.mpr c231
          have c231b1 : (a0.toList != ([] : List UInt8)) = true := bne_iff_ne.mpr c231
          obtain rfl := Option.some.inj H
          go_wp2
          go_ret
          exact ⟨by first | rfl | (simp [errW_none, errW_some] <;> rfl) | (simp [*, errW_none, errW_some] <;> rfl), by repeat (first | (with_reducible first | exact HB.out | apply below_alloc | apply pw_below_drewN | apply below_drew1) | exact HB.out)⟩

end Go.Proofs.YtiidffblbpoijaaDoor.Q32
