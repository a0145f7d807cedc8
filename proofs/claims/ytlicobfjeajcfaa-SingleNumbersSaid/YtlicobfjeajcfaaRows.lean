/-
  No cell of these rows narrows 'for every input' (looked for: loops, veiled, ifaces, maps, wideKeys, modest, calm, conditions, laid).
  DERIVED. THE GIVEN ROWS OF THIS SEAT. 5 by the template 'for every input the law returns true; each argument reads behind the call as it read before'; 0 by the template 'total and deterministic' (their statements: YtlicobfjeajcfaaTotals.lean).
  GIVEN WITH THE SEED: the statements are not yours to turn. If you find one false, say at which input.
  Laid BY PROGRAM, IN A SANDBOX (cutbox-rows.mjs): the forced cells as the released guide's own fill.sh prints them over the translation 8c2048692826b2f6… (all of the seat's roots in one cut). By AI agents, Wed Nov 11 2026. No macro, syntax, notation, axiom, sorry.
-/
import Derived.Test.YtlicobfjeajcfaaChecked
import GoSem.Claim
import GoSem.ClaimJoined
import GoSem.ClaimMapViews
import Derived.JoinedTies
import Derived.KernelRfl
namespace Go.Proofs.Ytlicobfjeajcfaa
/- THE CELL 'sum', in the pinned program and in every row, IS THE sha256 OF THE DUMP (.gsa) THAT YtlicobfjeajcfaaProg.lean LOADS. Nothing in Lean hashes anything: it is a label: what it is worth is what the hold of that sum in a sandbox is worth. -/
noncomputable def Try.pinned : Pinned := { name := "ytlicobfjeajcfaa", sum := "8c2048692826b2f648537cc5d0901df9d6cec6cfdda2afc18c71836ef534ec40", checked := Try.checked }
namespace Rows
def none {H : Type} : Left H := { results := [], args := [] }

/-- 'quadrigalaw16.SpacePlaces': WHATEVER THE INPUT: true; the input reads as it did. -/
def spacePlacesSpec : ChangeSpec := { name := "spacePlaces", fn := fun _ => fun
  | [d1, d2] => { results := [.lit (.bool true)], args := [d1, d2] }
  | _ => none }
def spacePlacesRow : OpenClaim := { program := "ytlicobfjeajcfaa", sum := "8c2048692826b2f648537cc5d0901df9d6cec6cfdda2afc18c71836ef534ec40", func := "quadriga/quadrigalaw16.SpacePlaces", spec := "spacePlaces", plainKeys := false, apart := false }
def SpacePlacesSaid : Prop := spacePlacesRow.holds Try.pinned (OpenSpec.ofChange spacePlacesSpec)

/-- ITS FALSE NEIGHBOUR: 'it returns false'. Refute it at one input. -/
def spacePlacesWrong : ChangeSpec := { name := "spacePlaces", fn := fun _ => fun
  | [d1, d2] => { results := [.lit (.bool false)], args := [d1, d2] }
  | _ => none }
def SpacePlacesWrongFalsely : Prop := spacePlacesRow.holds Try.pinned (OpenSpec.ofChange spacePlacesWrong)

/-- 'quadrigalaw16.SpaceBack': WHATEVER THE INPUT: true; the input reads as it did. -/
def spaceBackSpec : ChangeSpec := { name := "spaceBack", fn := fun _ => fun
  | [d1, d2, d3] => { results := [.lit (.bool true)], args := [d1, d2, d3] }
  | _ => none }
def spaceBackRow : OpenClaim := { program := "ytlicobfjeajcfaa", sum := "8c2048692826b2f648537cc5d0901df9d6cec6cfdda2afc18c71836ef534ec40", func := "quadriga/quadrigalaw16.SpaceBack", spec := "spaceBack", plainKeys := false, apart := false }
def SpaceBackSaid : Prop := spaceBackRow.holds Try.pinned (OpenSpec.ofChange spaceBackSpec)

/-- ITS FALSE NEIGHBOUR: 'it returns false'. Refute it at one input. -/
def spaceBackWrong : ChangeSpec := { name := "spaceBack", fn := fun _ => fun
  | [d1, d2, d3] => { results := [.lit (.bool false)], args := [d1, d2, d3] }
  | _ => none }
def SpaceBackWrongFalsely : Prop := spaceBackRow.holds Try.pinned (OpenSpec.ofChange spaceBackWrong)

/-- 'quadrigalaw16.SpaceNotes': WHATEVER THE INPUT: true; the input reads as it did. -/
def spaceNotesSpec : ChangeSpec := { name := "spaceNotes", fn := fun _ => fun
  | [d1, d2, d3, d4] => { results := [.lit (.bool true)], args := [d1, d2, d3, d4] }
  | _ => none }
def spaceNotesRow : OpenClaim := { program := "ytlicobfjeajcfaa", sum := "8c2048692826b2f648537cc5d0901df9d6cec6cfdda2afc18c71836ef534ec40", func := "quadriga/quadrigalaw16.SpaceNotes", spec := "spaceNotes", plainKeys := false, apart := false }
def SpaceNotesSaid : Prop := spaceNotesRow.holds Try.pinned (OpenSpec.ofChange spaceNotesSpec)

/-- ITS FALSE NEIGHBOUR: 'it returns false'. Refute it at one input. -/
def spaceNotesWrong : ChangeSpec := { name := "spaceNotes", fn := fun _ => fun
  | [d1, d2, d3, d4] => { results := [.lit (.bool false)], args := [d1, d2, d3, d4] }
  | _ => none }
def SpaceNotesWrongFalsely : Prop := spaceNotesRow.holds Try.pinned (OpenSpec.ofChange spaceNotesWrong)

/-- 'quadrigalaw16.SpaceNone': WHATEVER THE INPUT: true; the input reads as it did. -/
def spaceNoneSpec : ChangeSpec := { name := "spaceNone", fn := fun _ => fun
  | [d1, d2] => { results := [.lit (.bool true)], args := [d1, d2] }
  | _ => none }
def spaceNoneRow : OpenClaim := { program := "ytlicobfjeajcfaa", sum := "8c2048692826b2f648537cc5d0901df9d6cec6cfdda2afc18c71836ef534ec40", func := "quadriga/quadrigalaw16.SpaceNone", spec := "spaceNone", plainKeys := false, apart := false }
def SpaceNoneSaid : Prop := spaceNoneRow.holds Try.pinned (OpenSpec.ofChange spaceNoneSpec)

/-- ITS FALSE NEIGHBOUR: 'it returns false'. Refute it at one input. -/
def spaceNoneWrong : ChangeSpec := { name := "spaceNone", fn := fun _ => fun
  | [d1, d2] => { results := [.lit (.bool false)], args := [d1, d2] }
  | _ => none }
def SpaceNoneWrongFalsely : Prop := spaceNoneRow.holds Try.pinned (OpenSpec.ofChange spaceNoneWrong)

/-- 'quadrigalaw29.SingleNumbers': WHATEVER THE INPUT: true; the input reads as it did. -/
def singleNumbersSpec : ChangeSpec := { name := "singleNumbers", fn := fun _ => fun
  | [d] => { results := [.lit (.bool true)], args := [d] }
  | _ => none }
def singleNumbersRow : OpenClaim := { program := "ytlicobfjeajcfaa", sum := "8c2048692826b2f648537cc5d0901df9d6cec6cfdda2afc18c71836ef534ec40", func := "quadriga/quadrigalaw29.SingleNumbers", spec := "singleNumbers", unfollowed := true, recurses := true, plainKeys := false, apart := false }
def SingleNumbersSaid : Prop := singleNumbersRow.holds Try.pinned (OpenSpec.ofChange singleNumbersSpec)

/-- ITS FALSE NEIGHBOUR: 'it returns false'. Refute it at one input. -/
def singleNumbersWrong : ChangeSpec := { name := "singleNumbers", fn := fun _ => fun
  | [d] => { results := [.lit (.bool false)], args := [d] }
  | _ => none }
def SingleNumbersWrongFalsely : Prop := singleNumbersRow.holds Try.pinned (OpenSpec.ofChange singleNumbersWrong)

/- THE SECOND FORM. 'bulk': how many values and letters a reading holds, each counted each time it is reached (what is shared counts as often as it is met; a slice's spare places count too). A statement '..UptoSaid' is the law's where the arguments, and the package variables that the reading takes, are together of bulk at most 1048576: NARROWER than '..Said'. Prove '..Said' where nothing that the law and all that it calls make is longer than what came in: it says more and counts as full. Else prove '..UptoSaid'. A law counts once. -/
mutual
def uptoBulk {H : Type} : DataW H → Nat
  | .lit (.string bytes) => bytes.length + 1
  | .lit _ => 1
  | .nil => 1
  | .ptr d => uptoBulk d + 1
  | .slice elems spare => uptoBulkAll elems + uptoBulkAll spare + 1
  | .agg parts => uptoBulkAll parts + 1
  | .iface _ d => uptoBulk d + 1
  | .map entries => uptoBulkEntries entries + 1
  | .held _ => 1
def uptoBulkAll {H : Type} : List (DataW H) → Nat
  | [] => 0
  | d :: r => uptoBulk d + uptoBulkAll r
def uptoBulkEntries {H : Type} : List (Lit × DataW H) → Nat
  | [] => 0
  | x :: r => uptoBulkEntry x + uptoBulkEntries r
def uptoBulkEntry {H : Type} : Lit × DataW H → Nat
  | (.string bytes, d) => bytes.length + uptoBulk d + 1
  | (_, d) => uptoBulk d + 1
 end
def uptoSmall : (H : Type) → List (DataW H) → Bool := fun _ ds => decide (uptoBulkAll ds ≤ 1048576)
def OpenSpec.upto (s : _root_.Go.ChangeSpec) : _root_.Go.OpenSpec := { _root_.Go.OpenSpec.ofChange s with cond := some uptoSmall }

/-- 'quadrigalaw16.SpacePlaces', WHERE WHAT IT READS IS OF BULK AT MOST 1048576: true; the input reads as it did. -/
def spacePlacesUptoRow : OpenClaim := { program := "ytlicobfjeajcfaa", sum := "8c2048692826b2f648537cc5d0901df9d6cec6cfdda2afc18c71836ef534ec40", func := "quadriga/quadrigalaw16.SpacePlaces", spec := "spacePlaces", plainKeys := false, apart := false, narrowed := true }
def SpacePlacesUptoSaid : Prop := spacePlacesUptoRow.holds Try.pinned (OpenSpec.upto spacePlacesSpec)

/-- 'quadrigalaw16.SpaceBack', WHERE WHAT IT READS IS OF BULK AT MOST 1048576: true; the input reads as it did. -/
def spaceBackUptoRow : OpenClaim := { program := "ytlicobfjeajcfaa", sum := "8c2048692826b2f648537cc5d0901df9d6cec6cfdda2afc18c71836ef534ec40", func := "quadriga/quadrigalaw16.SpaceBack", spec := "spaceBack", plainKeys := false, apart := false, narrowed := true }
def SpaceBackUptoSaid : Prop := spaceBackUptoRow.holds Try.pinned (OpenSpec.upto spaceBackSpec)

/-- 'quadrigalaw16.SpaceNotes', WHERE WHAT IT READS IS OF BULK AT MOST 1048576: true; the input reads as it did. -/
def spaceNotesUptoRow : OpenClaim := { program := "ytlicobfjeajcfaa", sum := "8c2048692826b2f648537cc5d0901df9d6cec6cfdda2afc18c71836ef534ec40", func := "quadriga/quadrigalaw16.SpaceNotes", spec := "spaceNotes", plainKeys := false, apart := false, narrowed := true }
def SpaceNotesUptoSaid : Prop := spaceNotesUptoRow.holds Try.pinned (OpenSpec.upto spaceNotesSpec)

/-- 'quadrigalaw16.SpaceNone', WHERE WHAT IT READS IS OF BULK AT MOST 1048576: true; the input reads as it did. -/
def spaceNoneUptoRow : OpenClaim := { program := "ytlicobfjeajcfaa", sum := "8c2048692826b2f648537cc5d0901df9d6cec6cfdda2afc18c71836ef534ec40", func := "quadriga/quadrigalaw16.SpaceNone", spec := "spaceNone", plainKeys := false, apart := false, narrowed := true }
def SpaceNoneUptoSaid : Prop := spaceNoneUptoRow.holds Try.pinned (OpenSpec.upto spaceNoneSpec)

/-- 'quadrigalaw29.SingleNumbers', WHERE WHAT IT READS IS OF BULK AT MOST 1048576: true; the input reads as it did. -/
def singleNumbersUptoRow : OpenClaim := { program := "ytlicobfjeajcfaa", sum := "8c2048692826b2f648537cc5d0901df9d6cec6cfdda2afc18c71836ef534ec40", func := "quadriga/quadrigalaw29.SingleNumbers", spec := "singleNumbers", unfollowed := true, recurses := true, plainKeys := false, apart := false, narrowed := true }
def SingleNumbersUptoSaid : Prop := singleNumbersUptoRow.holds Try.pinned (OpenSpec.upto singleNumbersSpec)

end Rows
end Go.Proofs.Ytlicobfjeajcfaa
