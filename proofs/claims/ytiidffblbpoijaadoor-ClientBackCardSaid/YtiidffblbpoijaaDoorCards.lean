/-
  DERIVED. GIVEN WITH THE SEED: THE CARDS: each row of YtiidffblbpoijaaDoorRows.lean that lists a variable, with what it lists TIED to the program's text (the seventh form; the later family's looks); each row that meets fmt, with fmt's text TOLD by the authors' own Lean function (tested against real Go, not proved from fmt's source: count such statements apart). THE CARD IS WHAT COUNTS. Prove the row's statement (the work); the ties are given (YtiidffblbpoijaaDoorTie.lean); close each card by the builder's one call (the guide's Derived/Test/ToyasCard.lean, 'card_holds'). Laid BY PROGRAM, IN A SANDBOX (cutbox-door.mjs). By AI agents, Wed Nov 11 2026. No macro, syntax, notation, axiom, sorry.
-/
import Derived.Test.YtiidffblbpoijaaDoorRows
import GoSem.ClaimSeven
namespace Go.Proofs.YtiidffblbpoijaaDoor
namespace Rows

/-- THE TIED CARD OF 'quadrigalaw32.ClientTells'. -/
def clientTellsCard : Claim7 := { stood := { row := clientTellsRow, standIns := [], harness := (true, "3520c0f6066e128365e2a97609200308a4a9381787edb4b3cc09cc7c61677242"), looks := true }, kinds := [], alts := [], laidByText := true, laidKinds := [.data, .data, .data, .data, .sentinel, .sentinel, .pinned], laidTests := true, laidLooks := .later }
def ClientTellsCardSaid : Prop := Claim7.holds Tryd.pinned (.plain (OpenSpec.ofChange clientTellsSpec)) clientTellsCard

/-- THE TIED CARD OF 'quadrigalaw32.ClientBack'. -/
def clientBackCard : Claim7 := { stood := { row := clientBackRow, standIns := [], harness := (true, "3520c0f6066e128365e2a97609200308a4a9381787edb4b3cc09cc7c61677242"), looks := true }, kinds := [], alts := [], laidByText := true, laidKinds := [.data, .data, .data, .data, .sentinel, .sentinel, .pinned], laidTests := true, laidLooks := .later }
def ClientBackCardSaid : Prop := Claim7.holds Tryd.pinned (.plain (OpenSpec.ofChange clientBackSpec)) clientBackCard

/-- THE SECOND FORM's CARD OF 'quadrigalaw32.ClientTells'. -/
def clientTellsUptoCard : Claim7 := { stood := { row := clientTellsUptoRow, standIns := [], harness := (true, "3520c0f6066e128365e2a97609200308a4a9381787edb4b3cc09cc7c61677242"), looks := true }, kinds := [], alts := [], laidByText := true, laidKinds := [.data, .data, .data, .data, .sentinel, .sentinel, .pinned], laidTests := true, laidLooks := .later }
def ClientTellsUptoCardSaid : Prop := Claim7.holds Tryd.pinned (.plain (OpenSpec.upto clientTellsSpec)) clientTellsUptoCard

/-- THE SECOND FORM's CARD OF 'quadrigalaw32.ClientBack'. -/
def clientBackUptoCard : Claim7 := { stood := { row := clientBackUptoRow, standIns := [], harness := (true, "3520c0f6066e128365e2a97609200308a4a9381787edb4b3cc09cc7c61677242"), looks := true }, kinds := [], alts := [], laidByText := true, laidKinds := [.data, .data, .data, .data, .sentinel, .sentinel, .pinned], laidTests := true, laidLooks := .later }
def ClientBackUptoCardSaid : Prop := Claim7.holds Tryd.pinned (.plain (OpenSpec.upto clientBackSpec)) clientBackUptoCard
end Rows
end Go.Proofs.YtiidffblbpoijaaDoor
