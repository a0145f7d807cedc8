/-
  DERIVED. GIVEN WITH THE SEED: THE CARDS: each row of YthgppobkdedgdaaDoorRows.lean that lists a variable, with what it lists TIED to the program's text (the seventh form; the later family's looks); each row that meets fmt, with fmt's text TOLD by the authors' own Lean function (tested against real Go, not proved from fmt's source: count such statements apart). THE CARD IS WHAT COUNTS. Prove the row's statement (the work); the ties are given (YthgppobkdedgdaaDoorTie.lean); close each card by the builder's one call (the guide's Derived/Test/ToyasCard.lean, 'card_holds'). Laid BY PROGRAM, IN A SANDBOX (cutbox-door.mjs). By AI agents, Wed Nov 11 2026. No macro, syntax, notation, axiom, sorry.
-/
import Derived.Test.YthgppobkdedgdaaDoorRows
import GoSem.ClaimSeven
namespace Go.Proofs.YthgppobkdedgdaaDoor
namespace Rows

/-- THE TIED CARD OF 'quadrigalaw26.ImageNone'. -/
def imageNoneCard : Claim7 := { stood := { row := imageNoneRow, standIns := [], harness := (true, "fa17e5b8cd2392dbcc1381ae1836c7a80c57bef7c2b35da6925fec87638daa25"), looks := false }, kinds := [], alts := [], laidByText := true, laidKinds := [.data, .data, .pinned], laidTests := true, laidLooks := .later }
def ImageNoneCardSaid : Prop := Claim7.holds Tryd.pinned (.plain (OpenSpec.ofChange imageNoneSpec)) imageNoneCard

/-- THE TIED CARD OF 'quadrigalaw26.ImageDisks'. -/
def imageDisksCard : Claim7 := { stood := { row := imageDisksRow, standIns := [], harness := (true, "fa17e5b8cd2392dbcc1381ae1836c7a80c57bef7c2b35da6925fec87638daa25"), looks := false }, kinds := [], alts := [], laidByText := true, laidKinds := [.data, .data, .pinned], laidTests := true, laidLooks := .later }
def ImageDisksCardSaid : Prop := Claim7.holds Tryd.pinned (.plain (OpenSpec.ofChange imageDisksSpec)) imageDisksCard

/-- THE TIED CARD OF 'quadrigalaw26.ImageSame'. -/
def imageSameCard : Claim7 := { stood := { row := imageSameRow, standIns := [], harness := (true, "fa17e5b8cd2392dbcc1381ae1836c7a80c57bef7c2b35da6925fec87638daa25"), looks := false }, kinds := [], alts := [], laidByText := true, laidKinds := [.data, .data, .pinned], laidTests := true, laidLooks := .later }
def ImageSameCardSaid : Prop := Claim7.holds Tryd.pinned (.plain (OpenSpec.ofChange imageSameSpec)) imageSameCard

/-- THE SECOND FORM's CARD OF 'quadrigalaw26.ImageNone'. -/
def imageNoneUptoCard : Claim7 := { stood := { row := imageNoneUptoRow, standIns := [], harness := (true, "fa17e5b8cd2392dbcc1381ae1836c7a80c57bef7c2b35da6925fec87638daa25"), looks := false }, kinds := [], alts := [], laidByText := true, laidKinds := [.data, .data, .pinned], laidTests := true, laidLooks := .later }
def ImageNoneUptoCardSaid : Prop := Claim7.holds Tryd.pinned (.plain (OpenSpec.upto imageNoneSpec)) imageNoneUptoCard

/-- THE SECOND FORM's CARD OF 'quadrigalaw26.ImageDisks'. -/
def imageDisksUptoCard : Claim7 := { stood := { row := imageDisksUptoRow, standIns := [], harness := (true, "fa17e5b8cd2392dbcc1381ae1836c7a80c57bef7c2b35da6925fec87638daa25"), looks := false }, kinds := [], alts := [], laidByText := true, laidKinds := [.data, .data, .pinned], laidTests := true, laidLooks := .later }
def ImageDisksUptoCardSaid : Prop := Claim7.holds Tryd.pinned (.plain (OpenSpec.upto imageDisksSpec)) imageDisksUptoCard

/-- THE SECOND FORM's CARD OF 'quadrigalaw26.ImageSame'. -/
def imageSameUptoCard : Claim7 := { stood := { row := imageSameUptoRow, standIns := [], harness := (true, "fa17e5b8cd2392dbcc1381ae1836c7a80c57bef7c2b35da6925fec87638daa25"), looks := false }, kinds := [], alts := [], laidByText := true, laidKinds := [.data, .data, .pinned], laidTests := true, laidLooks := .later }
def ImageSameUptoCardSaid : Prop := Claim7.holds Tryd.pinned (.plain (OpenSpec.upto imageSameSpec)) imageSameUptoCard
end Rows
end Go.Proofs.YthgppobkdedgdaaDoor
