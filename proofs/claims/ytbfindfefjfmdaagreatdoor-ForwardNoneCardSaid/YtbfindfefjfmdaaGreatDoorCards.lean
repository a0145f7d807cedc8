/-
  DERIVED. GIVEN WITH THE SEED: THE CARDS: each row of YtbfindfefjfmdaaGreatDoorRows.lean that lists a variable, with what it lists TIED to the program's text (the seventh form; the later family's looks); each row that meets fmt, with fmt's text TOLD by the authors' own Lean function (tested against real Go, not proved from fmt's source: count such statements apart). THE CARD IS WHAT COUNTS. Prove the row's statement (the work); the ties are given (YtbfindfefjfmdaaGreatDoorTie.lean); close each card by the builder's one call (the guide's Derived/Test/ToyasCard.lean, 'card_holds'). Laid BY PROGRAM, IN A SANDBOX (cutbox-door.mjs). By AI agents, Wed Nov 11 2026. No macro, syntax, notation, axiom, sorry.
-/
import Derived.Test.YtbfindfefjfmdaaGreatDoorRows
import GoSem.ClaimSeven
namespace Go.Proofs.YtbfindfefjfmdaaGreatDoor
namespace Rows

/-- THE TIED CARD OF 'quadrigalaw21.ForwardNone'. -/
def forwardNoneCard : Claim7 := { stood := { row := forwardNoneRow, standIns := [], harness := (true, "63f1a74821412b9e805dd03f6f6f5e1fcc3c7baf41c574559276904f631a7f7b"), looks := false }, kinds := [], alts := [], laidByText := true, laidKinds := [.data, .data, .pinned], laidTests := true, laidLooks := .later }
def ForwardNoneCardSaid : Prop := Claim7.holds Tryz.pinned (.plain (OpenSpec.ofChange forwardNoneSpec)) forwardNoneCard

/-- THE SECOND FORM's CARD OF 'quadrigalaw21.ForwardNone'. -/
def forwardNoneUptoCard : Claim7 := { stood := { row := forwardNoneUptoRow, standIns := [], harness := (true, "63f1a74821412b9e805dd03f6f6f5e1fcc3c7baf41c574559276904f631a7f7b"), looks := false }, kinds := [], alts := [], laidByText := true, laidKinds := [.data, .data, .pinned], laidTests := true, laidLooks := .later }
def ForwardNoneUptoCardSaid : Prop := Claim7.holds Tryz.pinned (.plain (OpenSpec.upto forwardNoneSpec)) forwardNoneUptoCard
end Rows
end Go.Proofs.YtbfindfefjfmdaaGreatDoor
