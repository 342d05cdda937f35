/-
  DERIVED. GIVEN WITH THE SEED: THE CARDS: each row of YtoobapkccogdhaaDoorRows.lean that lists a variable, with what it lists TIED to the program's text (the seventh form; the later family's looks); each row that meets fmt, with fmt's text TOLD by the authors' own Lean function (tested against real Go, not proved from fmt's source: count such statements apart). THE CARD IS WHAT COUNTS. Prove the row's statement (the work); the ties are given (YtoobapkccogdhaaDoorTie.lean); close each card by the builder's one call (the guide's Derived/Test/ToyasCard.lean, 'card_holds'). Laid BY PROGRAM, IN A SANDBOX (cutbox-door.mjs). By AI agents, Wed Nov 11 2026. No macro, syntax, notation, axiom, sorry.
-/
import Derived.Test.YtoobapkccogdhaaDoorRows
import GoSem.ClaimSeven
namespace Go.Proofs.YtoobapkccogdhaaDoor
namespace Rows

/-- THE TIED CARD OF 'tricklelaw04.BitsetOf'. -/
def bitsetOfCard : Claim7 := { stood := { row := bitsetOfRow, standIns := [], harness := (true, "4a42d2e86c0e42513b7ae1d4b5dd106955897981451bd086a6371d087d40c758"), looks := false }, kinds := [], alts := [], laidByText := true, laidKinds := [.data, .data, .data], laidTests := true, laidLooks := .later }
def BitsetOfCardSaid : Prop := Claim7.holds Tryd.pinned (.plain (OpenSpec.ofChange bitsetOfSpec)) bitsetOfCard

/-- THE TIED CARD OF 'tricklelaw04.BitsetRange'. -/
def bitsetRangeCard : Claim7 := { stood := { row := bitsetRangeRow, standIns := [], harness := (true, "4a42d2e86c0e42513b7ae1d4b5dd106955897981451bd086a6371d087d40c758"), looks := false }, kinds := [], alts := [], laidByText := true, laidKinds := [.data, .data, .data], laidTests := true, laidLooks := .later }
def BitsetRangeCardSaid : Prop := Claim7.holds Tryd.pinned (.plain (OpenSpec.ofChange bitsetRangeSpec)) bitsetRangeCard

/-- THE TIED CARD OF 'tricklelaw04.BitsetString'. -/
def bitsetStringCard : Claim7 := { stood := { row := bitsetStringRow, standIns := [], harness := (true, "4a42d2e86c0e42513b7ae1d4b5dd106955897981451bd086a6371d087d40c758"), looks := false }, kinds := [], alts := [], laidByText := true, laidKinds := [.data, .data, .data], laidTests := true, laidLooks := .later }
def BitsetStringCardSaid : Prop := Claim7.holds Tryd.pinned (.plain (OpenSpec.ofChange bitsetStringSpec)) bitsetStringCard

/-- THE TIED CARD OF 'tricklelaw04.BitsetIterates'. -/
def bitsetIteratesCard : Claim7 := { stood := { row := bitsetIteratesRow, standIns := [], harness := (true, "4a42d2e86c0e42513b7ae1d4b5dd106955897981451bd086a6371d087d40c758"), looks := false }, kinds := [], alts := [], laidByText := true, laidKinds := [.data, .data, .data], laidTests := true, laidLooks := .later }
def BitsetIteratesCardSaid : Prop := Claim7.holds Tryd.pinned (.plain (OpenSpec.ofChange bitsetIteratesSpec)) bitsetIteratesCard

/-- THE TIED CARD OF 'tricklelaw04.BitsetOperations'. -/
def bitsetOperationsCard : Claim7 := { stood := { row := bitsetOperationsRow, standIns := [], harness := (true, "4a42d2e86c0e42513b7ae1d4b5dd106955897981451bd086a6371d087d40c758"), looks := false }, kinds := [], alts := [], laidByText := true, laidKinds := [.data, .data, .data], laidTests := true, laidLooks := .later }
def BitsetOperationsCardSaid : Prop := Claim7.holds Tryd.pinned (.plain (OpenSpec.ofChange bitsetOperationsSpec)) bitsetOperationsCard

/-- THE TIED CARD OF 'tricklelaw04.BitsetEdits'. -/
def bitsetEditsCard : Claim7 := { stood := { row := bitsetEditsRow, standIns := [], harness := (true, "4a42d2e86c0e42513b7ae1d4b5dd106955897981451bd086a6371d087d40c758"), looks := false }, kinds := [], alts := [], laidByText := true, laidKinds := [.data, .data, .data], laidTests := true, laidLooks := .later }
def BitsetEditsCardSaid : Prop := Claim7.holds Tryd.pinned (.plain (OpenSpec.ofChange bitsetEditsSpec)) bitsetEditsCard

/-- THE TIED CARD OF 'tricklelaw04.BitsetComparisons'. -/
def bitsetComparisonsCard : Claim7 := { stood := { row := bitsetComparisonsRow, standIns := [], harness := (true, "4a42d2e86c0e42513b7ae1d4b5dd106955897981451bd086a6371d087d40c758"), looks := false }, kinds := [], alts := [], laidByText := true, laidKinds := [.data, .data, .data], laidTests := true, laidLooks := .later }
def BitsetComparisonsCardSaid : Prop := Claim7.holds Tryd.pinned (.plain (OpenSpec.ofChange bitsetComparisonsSpec)) bitsetComparisonsCard

/-- THE TIED CARD OF 'tricklelaw04.BitsetAlgebra'. -/
def bitsetAlgebraCard : Claim7 := { stood := { row := bitsetAlgebraRow, standIns := [], harness := (true, "4a42d2e86c0e42513b7ae1d4b5dd106955897981451bd086a6371d087d40c758"), looks := false }, kinds := [], alts := [], laidByText := true, laidKinds := [.data, .data, .data], laidTests := true, laidLooks := .later }
def BitsetAlgebraCardSaid : Prop := Claim7.holds Tryd.pinned (.plain (OpenSpec.ofChange bitsetAlgebraSpec)) bitsetAlgebraCard

/-- THE SECOND FORM's CARD OF 'tricklelaw04.BitsetOf'. -/
def bitsetOfUptoCard : Claim7 := { stood := { row := bitsetOfUptoRow, standIns := [], harness := (true, "4a42d2e86c0e42513b7ae1d4b5dd106955897981451bd086a6371d087d40c758"), looks := false }, kinds := [], alts := [], laidByText := true, laidKinds := [.data, .data, .data], laidTests := true, laidLooks := .later }
def BitsetOfUptoCardSaid : Prop := Claim7.holds Tryd.pinned (.plain (OpenSpec.upto bitsetOfSpec)) bitsetOfUptoCard

/-- THE SECOND FORM's CARD OF 'tricklelaw04.BitsetRange'. -/
def bitsetRangeUptoCard : Claim7 := { stood := { row := bitsetRangeUptoRow, standIns := [], harness := (true, "4a42d2e86c0e42513b7ae1d4b5dd106955897981451bd086a6371d087d40c758"), looks := false }, kinds := [], alts := [], laidByText := true, laidKinds := [.data, .data, .data], laidTests := true, laidLooks := .later }
def BitsetRangeUptoCardSaid : Prop := Claim7.holds Tryd.pinned (.plain (OpenSpec.upto bitsetRangeSpec)) bitsetRangeUptoCard

/-- THE SECOND FORM's CARD OF 'tricklelaw04.BitsetString'. -/
def bitsetStringUptoCard : Claim7 := { stood := { row := bitsetStringUptoRow, standIns := [], harness := (true, "4a42d2e86c0e42513b7ae1d4b5dd106955897981451bd086a6371d087d40c758"), looks := false }, kinds := [], alts := [], laidByText := true, laidKinds := [.data, .data, .data], laidTests := true, laidLooks := .later }
def BitsetStringUptoCardSaid : Prop := Claim7.holds Tryd.pinned (.plain (OpenSpec.upto bitsetStringSpec)) bitsetStringUptoCard

/-- THE SECOND FORM's CARD OF 'tricklelaw04.BitsetIterates'. -/
def bitsetIteratesUptoCard : Claim7 := { stood := { row := bitsetIteratesUptoRow, standIns := [], harness := (true, "4a42d2e86c0e42513b7ae1d4b5dd106955897981451bd086a6371d087d40c758"), looks := false }, kinds := [], alts := [], laidByText := true, laidKinds := [.data, .data, .data], laidTests := true, laidLooks := .later }
def BitsetIteratesUptoCardSaid : Prop := Claim7.holds Tryd.pinned (.plain (OpenSpec.upto bitsetIteratesSpec)) bitsetIteratesUptoCard

/-- THE SECOND FORM's CARD OF 'tricklelaw04.BitsetOperations'. -/
def bitsetOperationsUptoCard : Claim7 := { stood := { row := bitsetOperationsUptoRow, standIns := [], harness := (true, "4a42d2e86c0e42513b7ae1d4b5dd106955897981451bd086a6371d087d40c758"), looks := false }, kinds := [], alts := [], laidByText := true, laidKinds := [.data, .data, .data], laidTests := true, laidLooks := .later }
def BitsetOperationsUptoCardSaid : Prop := Claim7.holds Tryd.pinned (.plain (OpenSpec.upto bitsetOperationsSpec)) bitsetOperationsUptoCard

/-- THE SECOND FORM's CARD OF 'tricklelaw04.BitsetEdits'. -/
def bitsetEditsUptoCard : Claim7 := { stood := { row := bitsetEditsUptoRow, standIns := [], harness := (true, "4a42d2e86c0e42513b7ae1d4b5dd106955897981451bd086a6371d087d40c758"), looks := false }, kinds := [], alts := [], laidByText := true, laidKinds := [.data, .data, .data], laidTests := true, laidLooks := .later }
def BitsetEditsUptoCardSaid : Prop := Claim7.holds Tryd.pinned (.plain (OpenSpec.upto bitsetEditsSpec)) bitsetEditsUptoCard

/-- THE SECOND FORM's CARD OF 'tricklelaw04.BitsetComparisons'. -/
def bitsetComparisonsUptoCard : Claim7 := { stood := { row := bitsetComparisonsUptoRow, standIns := [], harness := (true, "4a42d2e86c0e42513b7ae1d4b5dd106955897981451bd086a6371d087d40c758"), looks := false }, kinds := [], alts := [], laidByText := true, laidKinds := [.data, .data, .data], laidTests := true, laidLooks := .later }
def BitsetComparisonsUptoCardSaid : Prop := Claim7.holds Tryd.pinned (.plain (OpenSpec.upto bitsetComparisonsSpec)) bitsetComparisonsUptoCard

/-- THE SECOND FORM's CARD OF 'tricklelaw04.BitsetAlgebra'. -/
def bitsetAlgebraUptoCard : Claim7 := { stood := { row := bitsetAlgebraUptoRow, standIns := [], harness := (true, "4a42d2e86c0e42513b7ae1d4b5dd106955897981451bd086a6371d087d40c758"), looks := false }, kinds := [], alts := [], laidByText := true, laidKinds := [.data, .data, .data], laidTests := true, laidLooks := .later }
def BitsetAlgebraUptoCardSaid : Prop := Claim7.holds Tryd.pinned (.plain (OpenSpec.upto bitsetAlgebraSpec)) bitsetAlgebraUptoCard
end Rows
end Go.Proofs.YtoobapkccogdhaaDoor
