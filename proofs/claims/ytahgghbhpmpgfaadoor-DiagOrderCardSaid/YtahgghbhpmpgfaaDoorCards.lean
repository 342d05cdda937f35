/-
  DERIVED. GIVEN WITH THE SEED: THE CARDS: each row of YtahgghbhpmpgfaaDoorRows.lean that lists a variable, with what it lists TIED to the program's text (the seventh form; the later family's looks); each row that meets fmt, with fmt's text TOLD by the authors' own Lean function (tested against real Go, not proved from fmt's source: count such statements apart). THE CARD IS WHAT COUNTS. Prove the row's statement (the work); the ties are given (YtahgghbhpmpgfaaDoorTie.lean); close each card by the builder's one call (the guide's Derived/Test/ToyasCard.lean, 'card_holds'). Laid BY PROGRAM, IN A SANDBOX (cutbox-door.mjs). By AI agents, Wed Nov 11 2026. No macro, syntax, notation, axiom, sorry.
-/
import Derived.Test.YtahgghbhpmpgfaaDoorRows
import GoSem.ClaimSeven
namespace Go.Proofs.YtahgghbhpmpgfaaDoor
namespace Rows

/-- THE TIED CARD OF 'tricklelaw14.DiagPosition'. -/
def diagPositionCard : Claim7 := { stood := { row := diagPositionRow, standIns := [], harness := (true, "2d433fc236d150c148e54f194dfcac6946b0f09b1ef1bad97d000d669d7d7c1d"), looks := false }, kinds := [], alts := [], laidByText := true, laidKinds := [.data, .data, .data], laidTests := true, laidLooks := .later }
def DiagPositionCardSaid : Prop := Claim7.holds Tryd.pinned (.plain (OpenSpec.ofChange diagPositionSpec)) diagPositionCard

/-- THE TIED CARD OF 'tricklelaw14.DiagFormat'. -/
def diagFormatCard : Claim7 := { stood := { row := diagFormatRow, standIns := [], harness := (true, "2d433fc236d150c148e54f194dfcac6946b0f09b1ef1bad97d000d669d7d7c1d"), looks := false }, kinds := [], alts := [], laidByText := true, laidKinds := [.data, .data, .data], laidTests := true, laidLooks := .later }
def DiagFormatCardSaid : Prop := Claim7.holds Tryd.pinned (.plain (OpenSpec.ofChange diagFormatSpec)) diagFormatCard

/-- THE TIED CARD OF 'tricklelaw14.DiagExcerpt'. -/
def diagExcerptCard : Claim7 := { stood := { row := diagExcerptRow, standIns := [], harness := (true, "2d433fc236d150c148e54f194dfcac6946b0f09b1ef1bad97d000d669d7d7c1d"), looks := false }, kinds := [], alts := [], laidByText := true, laidKinds := [.data, .data, .data], laidTests := true, laidLooks := .later }
def DiagExcerptCardSaid : Prop := Claim7.holds Tryd.pinned (.plain (OpenSpec.ofChange diagExcerptSpec)) diagExcerptCard

/-- THE TIED CARD OF 'tricklelaw14.DiagOffset'. -/
def diagOffsetCard : Claim7 := { stood := { row := diagOffsetRow, standIns := [], harness := (true, "2d433fc236d150c148e54f194dfcac6946b0f09b1ef1bad97d000d669d7d7c1d"), looks := false }, kinds := [], alts := [], laidByText := true, laidKinds := [.data, .data, .data, .data, .pinned], laidTests := true, laidLooks := .later }
def DiagOffsetCardSaid : Prop := Claim7.holds Tryd.pinned (.plain (OpenSpec.ofChange diagOffsetSpec)) diagOffsetCard

/-- THE TIED CARD OF 'tricklelaw14.DiagInverse'. -/
def diagInverseCard : Claim7 := { stood := { row := diagInverseRow, standIns := [], harness := (true, "2d433fc236d150c148e54f194dfcac6946b0f09b1ef1bad97d000d669d7d7c1d"), looks := false }, kinds := [], alts := [], laidByText := true, laidKinds := [.data, .data, .data, .data, .pinned], laidTests := true, laidLooks := .later }
def DiagInverseCardSaid : Prop := Claim7.holds Tryd.pinned (.plain (OpenSpec.ofChange diagInverseSpec)) diagInverseCard

/-- THE TIED CARD OF 'tricklelaw14.DiagOrder'. -/
def diagOrderCard : Claim7 := { stood := { row := diagOrderRow, standIns := [], harness := (true, "2d433fc236d150c148e54f194dfcac6946b0f09b1ef1bad97d000d669d7d7c1d"), looks := false }, kinds := [], alts := [], laidByText := true, laidKinds := [.data, .data, .data], laidTests := true, laidLooks := .later }
def DiagOrderCardSaid : Prop := Claim7.holds Tryd.pinned (.plain (OpenSpec.ofChange diagOrderSpec)) diagOrderCard

/-- THE TIED CARD OF 'tricklelaw14.DiagCopies'. -/
def diagCopiesCard : Claim7 := { stood := { row := diagCopiesRow, standIns := [], harness := (true, "2d433fc236d150c148e54f194dfcac6946b0f09b1ef1bad97d000d669d7d7c1d"), looks := false }, kinds := [], alts := [], laidByText := true, laidKinds := [.data, .data, .data], laidTests := true, laidLooks := .later }
def DiagCopiesCardSaid : Prop := Claim7.holds Tryd.pinned (.plain (OpenSpec.ofChange diagCopiesSpec)) diagCopiesCard

/-- THE TIED CARD OF 'tricklelaw14.DiagList'. -/
def diagListCard : Claim7 := { stood := { row := diagListRow, standIns := [], harness := (true, "2d433fc236d150c148e54f194dfcac6946b0f09b1ef1bad97d000d669d7d7c1d"), looks := false }, kinds := [], alts := [], laidByText := true, laidKinds := [.data, .data, .data], laidTests := true, laidLooks := .later }
def DiagListCardSaid : Prop := Claim7.holds Tryd.pinned (.plain (OpenSpec.ofChange diagListSpec)) diagListCard

/-- THE SECOND FORM's CARD OF 'tricklelaw14.DiagPosition'. -/
def diagPositionUptoCard : Claim7 := { stood := { row := diagPositionUptoRow, standIns := [], harness := (true, "2d433fc236d150c148e54f194dfcac6946b0f09b1ef1bad97d000d669d7d7c1d"), looks := false }, kinds := [], alts := [], laidByText := true, laidKinds := [.data, .data, .data], laidTests := true, laidLooks := .later }
def DiagPositionUptoCardSaid : Prop := Claim7.holds Tryd.pinned (.plain (OpenSpec.upto diagPositionSpec)) diagPositionUptoCard

/-- THE SECOND FORM's CARD OF 'tricklelaw14.DiagFormat'. -/
def diagFormatUptoCard : Claim7 := { stood := { row := diagFormatUptoRow, standIns := [], harness := (true, "2d433fc236d150c148e54f194dfcac6946b0f09b1ef1bad97d000d669d7d7c1d"), looks := false }, kinds := [], alts := [], laidByText := true, laidKinds := [.data, .data, .data], laidTests := true, laidLooks := .later }
def DiagFormatUptoCardSaid : Prop := Claim7.holds Tryd.pinned (.plain (OpenSpec.upto diagFormatSpec)) diagFormatUptoCard

/-- THE SECOND FORM's CARD OF 'tricklelaw14.DiagExcerpt'. -/
def diagExcerptUptoCard : Claim7 := { stood := { row := diagExcerptUptoRow, standIns := [], harness := (true, "2d433fc236d150c148e54f194dfcac6946b0f09b1ef1bad97d000d669d7d7c1d"), looks := false }, kinds := [], alts := [], laidByText := true, laidKinds := [.data, .data, .data], laidTests := true, laidLooks := .later }
def DiagExcerptUptoCardSaid : Prop := Claim7.holds Tryd.pinned (.plain (OpenSpec.upto diagExcerptSpec)) diagExcerptUptoCard

/-- THE SECOND FORM's CARD OF 'tricklelaw14.DiagOffset'. -/
def diagOffsetUptoCard : Claim7 := { stood := { row := diagOffsetUptoRow, standIns := [], harness := (true, "2d433fc236d150c148e54f194dfcac6946b0f09b1ef1bad97d000d669d7d7c1d"), looks := false }, kinds := [], alts := [], laidByText := true, laidKinds := [.data, .data, .data, .data, .pinned], laidTests := true, laidLooks := .later }
def DiagOffsetUptoCardSaid : Prop := Claim7.holds Tryd.pinned (.plain (OpenSpec.upto diagOffsetSpec)) diagOffsetUptoCard

/-- THE SECOND FORM's CARD OF 'tricklelaw14.DiagInverse'. -/
def diagInverseUptoCard : Claim7 := { stood := { row := diagInverseUptoRow, standIns := [], harness := (true, "2d433fc236d150c148e54f194dfcac6946b0f09b1ef1bad97d000d669d7d7c1d"), looks := false }, kinds := [], alts := [], laidByText := true, laidKinds := [.data, .data, .data, .data, .pinned], laidTests := true, laidLooks := .later }
def DiagInverseUptoCardSaid : Prop := Claim7.holds Tryd.pinned (.plain (OpenSpec.upto diagInverseSpec)) diagInverseUptoCard

/-- THE SECOND FORM's CARD OF 'tricklelaw14.DiagOrder'. -/
def diagOrderUptoCard : Claim7 := { stood := { row := diagOrderUptoRow, standIns := [], harness := (true, "2d433fc236d150c148e54f194dfcac6946b0f09b1ef1bad97d000d669d7d7c1d"), looks := false }, kinds := [], alts := [], laidByText := true, laidKinds := [.data, .data, .data], laidTests := true, laidLooks := .later }
def DiagOrderUptoCardSaid : Prop := Claim7.holds Tryd.pinned (.plain (OpenSpec.upto diagOrderSpec)) diagOrderUptoCard

/-- THE SECOND FORM's CARD OF 'tricklelaw14.DiagCopies'. -/
def diagCopiesUptoCard : Claim7 := { stood := { row := diagCopiesUptoRow, standIns := [], harness := (true, "2d433fc236d150c148e54f194dfcac6946b0f09b1ef1bad97d000d669d7d7c1d"), looks := false }, kinds := [], alts := [], laidByText := true, laidKinds := [.data, .data, .data], laidTests := true, laidLooks := .later }
def DiagCopiesUptoCardSaid : Prop := Claim7.holds Tryd.pinned (.plain (OpenSpec.upto diagCopiesSpec)) diagCopiesUptoCard

/-- THE SECOND FORM's CARD OF 'tricklelaw14.DiagList'. -/
def diagListUptoCard : Claim7 := { stood := { row := diagListUptoRow, standIns := [], harness := (true, "2d433fc236d150c148e54f194dfcac6946b0f09b1ef1bad97d000d669d7d7c1d"), looks := false }, kinds := [], alts := [], laidByText := true, laidKinds := [.data, .data, .data], laidTests := true, laidLooks := .later }
def DiagListUptoCardSaid : Prop := Claim7.holds Tryd.pinned (.plain (OpenSpec.upto diagListSpec)) diagListUptoCard
end Rows
end Go.Proofs.YtahgghbhpmpgfaaDoor
