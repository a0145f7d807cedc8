/-
  DERIVED. GIVEN WITH THE SEED: THE CARDS: each row of YtlicobfjeajcfaaDoorRows.lean that lists a variable, with what it lists TIED to the program's text (the seventh form; the later family's looks); each row that meets fmt, with fmt's text TOLD by the authors' own Lean function (tested against real Go, not proved from fmt's source: count such statements apart). THE CARD IS WHAT COUNTS. Prove the row's statement (the work); the ties are given (YtlicobfjeajcfaaDoorTie.lean); close each card by the builder's one call (the guide's Derived/Test/ToyasCard.lean, 'card_holds'). Laid BY PROGRAM, IN A SANDBOX (cutbox-door.mjs). By AI agents, Wed Nov 11 2026. No macro, syntax, notation, axiom, sorry.
-/
import Derived.Test.YtlicobfjeajcfaaDoorRows
import GoSem.ClaimSeven
namespace Go.Proofs.YtlicobfjeajcfaaDoor
namespace Rows

/-- THE TIED CARD OF 'quadrigalaw04.RecordPrints'. -/
def recordPrintsCard : Claim7 := { stood := { row := recordPrintsRow, standIns := [], harness := (true, "deabd7a9a0c35726893ca7ca5cd7d9634995bc04a6ef55c2225ca7e664ac5a30"), looks := false }, kinds := [], alts := [], laidByText := true, laidKinds := [.data, .data, .data], laidTests := true, laidLooks := .later }
def RecordPrintsCardSaid : Prop := Claim7.holds Tryd.pinned (.plain (OpenSpec.ofChange recordPrintsSpec)) recordPrintsCard

/-- THE TIED CARD OF 'quadrigalaw04.RecordRights'. -/
def recordRightsCard : Claim7 := { stood := { row := recordRightsRow, standIns := [], harness := (true, "deabd7a9a0c35726893ca7ca5cd7d9634995bc04a6ef55c2225ca7e664ac5a30"), looks := false }, kinds := [], alts := [], laidByText := true, laidKinds := [.data, .data, .data], laidTests := true, laidLooks := .later }
def RecordRightsCardSaid : Prop := Claim7.holds Tryd.pinned (.plain (OpenSpec.ofChange recordRightsSpec)) recordRightsCard

/-- THE TIED CARD OF 'quadrigalaw04.RecordBack'. -/
def recordBackCard : Claim7 := { stood := { row := recordBackRow, standIns := [], harness := (true, "deabd7a9a0c35726893ca7ca5cd7d9634995bc04a6ef55c2225ca7e664ac5a30"), looks := false }, kinds := [], alts := [], laidByText := true, laidKinds := [.data, .data, .data], laidTests := true, laidLooks := .later }
def RecordBackCardSaid : Prop := Claim7.holds Tryd.pinned (.plain (OpenSpec.ofChange recordBackSpec)) recordBackCard

/-- THE TIED CARD OF 'quadrigalaw04.RecordSizes'. -/
def recordSizesCard : Claim7 := { stood := { row := recordSizesRow, standIns := [], harness := (true, "deabd7a9a0c35726893ca7ca5cd7d9634995bc04a6ef55c2225ca7e664ac5a30"), looks := false }, kinds := [], alts := [], laidByText := true, laidKinds := [.data, .data, .data], laidTests := true, laidLooks := .later }
def RecordSizesCardSaid : Prop := Claim7.holds Tryd.pinned (.plain (OpenSpec.ofChange recordSizesSpec)) recordSizesCard

/-- THE TIED CARD OF 'quadrigalaw04.RecordBytes'. -/
def recordBytesCard : Claim7 := { stood := { row := recordBytesRow, standIns := [], harness := (true, "deabd7a9a0c35726893ca7ca5cd7d9634995bc04a6ef55c2225ca7e664ac5a30"), looks := false }, kinds := [], alts := [], laidByText := true, laidKinds := [.data, .data, .data], laidTests := true, laidLooks := .later }
def RecordBytesCardSaid : Prop := Claim7.holds Tryd.pinned (.plain (OpenSpec.ofChange recordBytesSpec)) recordBytesCard

/-- THE SECOND FORM's CARD OF 'quadrigalaw04.RecordPrints'. -/
def recordPrintsUptoCard : Claim7 := { stood := { row := recordPrintsUptoRow, standIns := [], harness := (true, "deabd7a9a0c35726893ca7ca5cd7d9634995bc04a6ef55c2225ca7e664ac5a30"), looks := false }, kinds := [], alts := [], laidByText := true, laidKinds := [.data, .data, .data], laidTests := true, laidLooks := .later }
def RecordPrintsUptoCardSaid : Prop := Claim7.holds Tryd.pinned (.plain (OpenSpec.upto recordPrintsSpec)) recordPrintsUptoCard

/-- THE SECOND FORM's CARD OF 'quadrigalaw04.RecordRights'. -/
def recordRightsUptoCard : Claim7 := { stood := { row := recordRightsUptoRow, standIns := [], harness := (true, "deabd7a9a0c35726893ca7ca5cd7d9634995bc04a6ef55c2225ca7e664ac5a30"), looks := false }, kinds := [], alts := [], laidByText := true, laidKinds := [.data, .data, .data], laidTests := true, laidLooks := .later }
def RecordRightsUptoCardSaid : Prop := Claim7.holds Tryd.pinned (.plain (OpenSpec.upto recordRightsSpec)) recordRightsUptoCard

/-- THE SECOND FORM's CARD OF 'quadrigalaw04.RecordBack'. -/
def recordBackUptoCard : Claim7 := { stood := { row := recordBackUptoRow, standIns := [], harness := (true, "deabd7a9a0c35726893ca7ca5cd7d9634995bc04a6ef55c2225ca7e664ac5a30"), looks := false }, kinds := [], alts := [], laidByText := true, laidKinds := [.data, .data, .data], laidTests := true, laidLooks := .later }
def RecordBackUptoCardSaid : Prop := Claim7.holds Tryd.pinned (.plain (OpenSpec.upto recordBackSpec)) recordBackUptoCard

/-- THE SECOND FORM's CARD OF 'quadrigalaw04.RecordSizes'. -/
def recordSizesUptoCard : Claim7 := { stood := { row := recordSizesUptoRow, standIns := [], harness := (true, "deabd7a9a0c35726893ca7ca5cd7d9634995bc04a6ef55c2225ca7e664ac5a30"), looks := false }, kinds := [], alts := [], laidByText := true, laidKinds := [.data, .data, .data], laidTests := true, laidLooks := .later }
def RecordSizesUptoCardSaid : Prop := Claim7.holds Tryd.pinned (.plain (OpenSpec.upto recordSizesSpec)) recordSizesUptoCard

/-- THE SECOND FORM's CARD OF 'quadrigalaw04.RecordBytes'. -/
def recordBytesUptoCard : Claim7 := { stood := { row := recordBytesUptoRow, standIns := [], harness := (true, "deabd7a9a0c35726893ca7ca5cd7d9634995bc04a6ef55c2225ca7e664ac5a30"), looks := false }, kinds := [], alts := [], laidByText := true, laidKinds := [.data, .data, .data], laidTests := true, laidLooks := .later }
def RecordBytesUptoCardSaid : Prop := Claim7.holds Tryd.pinned (.plain (OpenSpec.upto recordBytesSpec)) recordBytesUptoCard
end Rows
end Go.Proofs.YtlicobfjeajcfaaDoor
