/-
  DERIVED. GIVEN WITH THE SEED: THE CARDS: each row of YtmpbkemicfmbaaaDoorRows.lean that lists a variable, with what it lists TIED to the program's text (the seventh form; the later family's looks); each row that meets fmt, with fmt's text TOLD by the authors' own Lean function (tested against real Go, not proved from fmt's source: count such statements apart). THE CARD IS WHAT COUNTS. Prove the row's statement (the work); the ties are given (YtmpbkemicfmbaaaDoorTie.lean); close each card by the builder's one call (the guide's Derived/Test/ToyasCard.lean, 'card_holds'). Laid BY PROGRAM, IN A SANDBOX (cutbox-door.mjs). By AI agents, Wed Nov 11 2026. No macro, syntax, notation, axiom, sorry.
-/
import Derived.Test.YtmpbkemicfmbaaaDoorRows
import GoSem.ClaimSeven
namespace Go.Proofs.YtmpbkemicfmbaaaDoor
namespace Rows

/-- THE TIED CARD OF 'tricklelaw15.LexerScan'. -/
def lexerScanCard : Claim7 := { stood := { row := lexerScanRow, standIns := [], harness := (true, "40c9fce082ab58dc53830d77ce36f6a2bee6d69da8c5f56e02a73b5d15319de8"), looks := false }, kinds := [], alts := [], laidByText := true, laidKinds := [.listed, .data], laidTests := true, laidLooks := .later }
def LexerScanCardSaid : Prop := Claim7.holds Tryd.pinned (.plain (OpenSpec.ofChange lexerScanSpec)) lexerScanCard

/-- THE TIED CARD OF 'tricklelaw15.LexerJoin'. -/
def lexerJoinCard : Claim7 := { stood := { row := lexerJoinRow, standIns := [], harness := (true, "40c9fce082ab58dc53830d77ce36f6a2bee6d69da8c5f56e02a73b5d15319de8"), looks := false }, kinds := [], alts := [], laidByText := true, laidKinds := [.listed, .data], laidTests := true, laidLooks := .later }
def LexerJoinCardSaid : Prop := Claim7.holds Tryd.pinned (.plain (OpenSpec.ofChange lexerJoinSpec)) lexerJoinCard

/-- THE TIED CARD OF 'tricklelaw15.LexerRescan'. -/
def lexerRescanCard : Claim7 := { stood := { row := lexerRescanRow, standIns := [], harness := (true, "40c9fce082ab58dc53830d77ce36f6a2bee6d69da8c5f56e02a73b5d15319de8"), looks := false }, kinds := [], alts := [], laidByText := true, laidKinds := [.listed, .data], laidTests := true, laidLooks := .later }
def LexerRescanCardSaid : Prop := Claim7.holds Tryd.pinned (.plain (OpenSpec.ofChange lexerRescanSpec)) lexerRescanCard

/-- THE TIED CARD OF 'tricklelaw15.LexerCovers'. -/
def lexerCoversCard : Claim7 := { stood := { row := lexerCoversRow, standIns := [], harness := (true, "40c9fce082ab58dc53830d77ce36f6a2bee6d69da8c5f56e02a73b5d15319de8"), looks := false }, kinds := [], alts := [], laidByText := true, laidKinds := [.listed, .data], laidTests := true, laidLooks := .later }
def LexerCoversCardSaid : Prop := Claim7.holds Tryd.pinned (.plain (OpenSpec.ofChange lexerCoversSpec)) lexerCoversCard

/-- THE TIED CARD OF 'tricklelaw15.LexerSpaces'. -/
def lexerSpacesCard : Claim7 := { stood := { row := lexerSpacesRow, standIns := [], harness := (true, "40c9fce082ab58dc53830d77ce36f6a2bee6d69da8c5f56e02a73b5d15319de8"), looks := false }, kinds := [], alts := [], laidByText := true, laidKinds := [.listed, .data], laidTests := true, laidLooks := .later }
def LexerSpacesCardSaid : Prop := Claim7.holds Tryd.pinned (.plain (OpenSpec.ofChange lexerSpacesSpec)) lexerSpacesCard

/-- THE TIED CARD OF 'tricklelaw15.LexerTables'. -/
def lexerTablesCard : Claim7 := { stood := { row := lexerTablesRow, standIns := [], harness := (true, "40c9fce082ab58dc53830d77ce36f6a2bee6d69da8c5f56e02a73b5d15319de8"), looks := false }, kinds := [], alts := [], laidByText := true, laidKinds := [.listed, .data], laidTests := true, laidLooks := .later }
def LexerTablesCardSaid : Prop := Claim7.holds Tryd.pinned (.plain (OpenSpec.ofChange lexerTablesSpec)) lexerTablesCard

/-- THE TIED CARD OF 'tricklelaw15.LexerErrors'. -/
def lexerErrorsCard : Claim7 := { stood := { row := lexerErrorsRow, standIns := [], harness := (true, "40c9fce082ab58dc53830d77ce36f6a2bee6d69da8c5f56e02a73b5d15319de8"), looks := false }, kinds := [], alts := [], laidByText := true, laidKinds := [.listed, .data], laidTests := true, laidLooks := .later }
def LexerErrorsCardSaid : Prop := Claim7.holds Tryd.pinned (.plain (OpenSpec.ofChange lexerErrorsSpec)) lexerErrorsCard

/-- THE SECOND FORM's CARD OF 'tricklelaw15.LexerScan'. -/
def lexerScanUptoCard : Claim7 := { stood := { row := lexerScanUptoRow, standIns := [], harness := (true, "40c9fce082ab58dc53830d77ce36f6a2bee6d69da8c5f56e02a73b5d15319de8"), looks := false }, kinds := [], alts := [], laidByText := true, laidKinds := [.listed, .data], laidTests := true, laidLooks := .later }
def LexerScanUptoCardSaid : Prop := Claim7.holds Tryd.pinned (.plain (OpenSpec.upto lexerScanSpec)) lexerScanUptoCard

/-- THE SECOND FORM's CARD OF 'tricklelaw15.LexerJoin'. -/
def lexerJoinUptoCard : Claim7 := { stood := { row := lexerJoinUptoRow, standIns := [], harness := (true, "40c9fce082ab58dc53830d77ce36f6a2bee6d69da8c5f56e02a73b5d15319de8"), looks := false }, kinds := [], alts := [], laidByText := true, laidKinds := [.listed, .data], laidTests := true, laidLooks := .later }
def LexerJoinUptoCardSaid : Prop := Claim7.holds Tryd.pinned (.plain (OpenSpec.upto lexerJoinSpec)) lexerJoinUptoCard

/-- THE SECOND FORM's CARD OF 'tricklelaw15.LexerRescan'. -/
def lexerRescanUptoCard : Claim7 := { stood := { row := lexerRescanUptoRow, standIns := [], harness := (true, "40c9fce082ab58dc53830d77ce36f6a2bee6d69da8c5f56e02a73b5d15319de8"), looks := false }, kinds := [], alts := [], laidByText := true, laidKinds := [.listed, .data], laidTests := true, laidLooks := .later }
def LexerRescanUptoCardSaid : Prop := Claim7.holds Tryd.pinned (.plain (OpenSpec.upto lexerRescanSpec)) lexerRescanUptoCard

/-- THE SECOND FORM's CARD OF 'tricklelaw15.LexerCovers'. -/
def lexerCoversUptoCard : Claim7 := { stood := { row := lexerCoversUptoRow, standIns := [], harness := (true, "40c9fce082ab58dc53830d77ce36f6a2bee6d69da8c5f56e02a73b5d15319de8"), looks := false }, kinds := [], alts := [], laidByText := true, laidKinds := [.listed, .data], laidTests := true, laidLooks := .later }
def LexerCoversUptoCardSaid : Prop := Claim7.holds Tryd.pinned (.plain (OpenSpec.upto lexerCoversSpec)) lexerCoversUptoCard

/-- THE SECOND FORM's CARD OF 'tricklelaw15.LexerSpaces'. -/
def lexerSpacesUptoCard : Claim7 := { stood := { row := lexerSpacesUptoRow, standIns := [], harness := (true, "40c9fce082ab58dc53830d77ce36f6a2bee6d69da8c5f56e02a73b5d15319de8"), looks := false }, kinds := [], alts := [], laidByText := true, laidKinds := [.listed, .data], laidTests := true, laidLooks := .later }
def LexerSpacesUptoCardSaid : Prop := Claim7.holds Tryd.pinned (.plain (OpenSpec.upto lexerSpacesSpec)) lexerSpacesUptoCard

/-- THE SECOND FORM's CARD OF 'tricklelaw15.LexerTables'. -/
def lexerTablesUptoCard : Claim7 := { stood := { row := lexerTablesUptoRow, standIns := [], harness := (true, "40c9fce082ab58dc53830d77ce36f6a2bee6d69da8c5f56e02a73b5d15319de8"), looks := false }, kinds := [], alts := [], laidByText := true, laidKinds := [.listed, .data], laidTests := true, laidLooks := .later }
def LexerTablesUptoCardSaid : Prop := Claim7.holds Tryd.pinned (.plain (OpenSpec.upto lexerTablesSpec)) lexerTablesUptoCard

/-- THE SECOND FORM's CARD OF 'tricklelaw15.LexerErrors'. -/
def lexerErrorsUptoCard : Claim7 := { stood := { row := lexerErrorsUptoRow, standIns := [], harness := (true, "40c9fce082ab58dc53830d77ce36f6a2bee6d69da8c5f56e02a73b5d15319de8"), looks := false }, kinds := [], alts := [], laidByText := true, laidKinds := [.listed, .data], laidTests := true, laidLooks := .later }
def LexerErrorsUptoCardSaid : Prop := Claim7.holds Tryd.pinned (.plain (OpenSpec.upto lexerErrorsSpec)) lexerErrorsUptoCard
end Rows
end Go.Proofs.YtmpbkemicfmbaaaDoor
