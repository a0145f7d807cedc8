/-
  DERIVED. GIVEN WITH THE SEED: THE CARDS: each row of YthdkepehgpabpaaGreatDoorRows.lean that lists a variable, with what it lists TIED to the program's text (the seventh form; the later family's looks); each row that meets fmt, with fmt's text TOLD by the authors' own Lean function (tested against real Go, not proved from fmt's source: count such statements apart). THE CARD IS WHAT COUNTS. Prove the row's statement (the work); the ties are given (YthdkepehgpabpaaGreatDoorTie.lean); close each card by the builder's one call (the guide's Derived/Test/ToyasCard.lean, 'card_holds'). Laid BY PROGRAM, IN A SANDBOX (cutbox-door.mjs). By AI agents, Wed Nov 11 2026. No macro, syntax, notation, axiom, sorry.
-/
import Derived.Test.YthdkepehgpabpaaGreatDoorRows
import GoSem.ClaimSeven
namespace Go.Proofs.YthdkepehgpabpaaGreatDoor
namespace Rows

/-- THE TIED CARD OF 'quadrigalaw29.SingleNone'. -/
def singleNoneCard : Claim7 := { stood := { row := singleNoneRow, standIns := [], harness := (true, "a2db05f35d1a292fbd279af21db02b7046e4864cb352f5c7e0c971c6c5ae4f44"), looks := false }, kinds := [], alts := [], laidByText := true, laidKinds := [.data, .data, .pinned], laidTests := true, laidLooks := .later }
def SingleNoneCardSaid : Prop := Claim7.holds Tryz.pinned (.plain (OpenSpec.ofChange singleNoneSpec)) singleNoneCard

/-- THE SECOND FORM's CARD OF 'quadrigalaw29.SingleNone'. -/
def singleNoneUptoCard : Claim7 := { stood := { row := singleNoneUptoRow, standIns := [], harness := (true, "a2db05f35d1a292fbd279af21db02b7046e4864cb352f5c7e0c971c6c5ae4f44"), looks := false }, kinds := [], alts := [], laidByText := true, laidKinds := [.data, .data, .pinned], laidTests := true, laidLooks := .later }
def SingleNoneUptoCardSaid : Prop := Claim7.holds Tryz.pinned (.plain (OpenSpec.upto singleNoneSpec)) singleNoneUptoCard
end Rows
end Go.Proofs.YthdkepehgpabpaaGreatDoor
