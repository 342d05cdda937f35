/-
  DERIVED. GIVEN WITH THE SEED: THE CARDS: each row of YtakkifbcaedcoaaDoorRows.lean that lists a variable, with what it lists TIED to the program's text (the seventh form; the later family's looks); each row that meets fmt, with fmt's text TOLD by the authors' own Lean function (tested against real Go, not proved from fmt's source: count such statements apart). THE CARD IS WHAT COUNTS. Prove the row's statement (the work); the ties are given (YtakkifbcaedcoaaDoorTie.lean); close each card by the builder's one call (the guide's Derived/Test/ToyasCard.lean, 'card_holds'). Laid BY PROGRAM, IN A SANDBOX (cutbox-door.mjs). By AI agents, Wed Nov 11 2026. No macro, syntax, notation, axiom, sorry.
-/
import Derived.Test.YtakkifbcaedcoaaDoorRows
import GoSem.ClaimSeven
namespace Go.Proofs.YtakkifbcaedcoaaDoor
namespace Rows

/-- THE TIED CARD OF 'tricklelaw55.VerifySequence'. -/
def verifySequenceCard : Claim7 := { stood := { row := verifySequenceRow, standIns := [], harness := (true, "a0e6720bc3b6ce1546ae2a1f8cf95a08d945ba3933b70c4a52f1b1fb8e058b73"), looks := false }, kinds := [], alts := [], laidByText := true, laidKinds := [.widerDeep], laidTests := true, laidLooks := .later }
def VerifySequenceCardSaid : Prop := Claim7.holds Tryd.pinned (.plain (OpenSpec.ofChange verifySequenceSpec)) verifySequenceCard

/-- THE TIED CARD OF 'tricklelaw55.VerifyUpdates'. -/
def verifyUpdatesCard : Claim7 := { stood := { row := verifyUpdatesRow, standIns := [], harness := (true, "a0e6720bc3b6ce1546ae2a1f8cf95a08d945ba3933b70c4a52f1b1fb8e058b73"), looks := false }, kinds := [], alts := [], laidByText := true, laidKinds := [.widerDeep], laidTests := true, laidLooks := .later }
def VerifyUpdatesCardSaid : Prop := Claim7.holds Tryd.pinned (.plain (OpenSpec.ofChange verifyUpdatesSpec)) verifyUpdatesCard

/-- THE TIED CARD OF 'tricklelaw55.VerifyPrefix'. -/
def verifyPrefixCard : Claim7 := { stood := { row := verifyPrefixRow, standIns := [], harness := (true, "a0e6720bc3b6ce1546ae2a1f8cf95a08d945ba3933b70c4a52f1b1fb8e058b73"), looks := false }, kinds := [], alts := [], laidByText := true, laidKinds := [.widerDeep], laidTests := true, laidLooks := .later }
def VerifyPrefixCardSaid : Prop := Claim7.holds Tryd.pinned (.plain (OpenSpec.ofChange verifyPrefixSpec)) verifyPrefixCard

/-- THE TIED CARD OF 'tricklelaw55.VerifySummary'. -/
def verifySummaryCard : Claim7 := { stood := { row := verifySummaryRow, standIns := [], harness := (true, "a0e6720bc3b6ce1546ae2a1f8cf95a08d945ba3933b70c4a52f1b1fb8e058b73"), looks := false }, kinds := [], alts := [], laidByText := true, laidKinds := [.widerDeep], laidTests := true, laidLooks := .later }
def VerifySummaryCardSaid : Prop := Claim7.holds Tryd.pinned (.plain (OpenSpec.ofChange verifySummarySpec)) verifySummaryCard

/-- THE TIED CARD OF 'tricklelaw55.VerifyFreshness'. -/
def verifyFreshnessCard : Claim7 := { stood := { row := verifyFreshnessRow, standIns := [], harness := (true, "a0e6720bc3b6ce1546ae2a1f8cf95a08d945ba3933b70c4a52f1b1fb8e058b73"), looks := false }, kinds := [], alts := [], laidByText := true, laidKinds := [.widerDeep], laidTests := true, laidLooks := .later }
def VerifyFreshnessCardSaid : Prop := Claim7.holds Tryd.pinned (.plain (OpenSpec.ofChange verifyFreshnessSpec)) verifyFreshnessCard

/-- THE SECOND FORM's CARD OF 'tricklelaw55.VerifySequence'. -/
def verifySequenceUptoCard : Claim7 := { stood := { row := verifySequenceUptoRow, standIns := [], harness := (true, "a0e6720bc3b6ce1546ae2a1f8cf95a08d945ba3933b70c4a52f1b1fb8e058b73"), looks := false }, kinds := [], alts := [], laidByText := true, laidKinds := [.widerDeep], laidTests := true, laidLooks := .later }
def VerifySequenceUptoCardSaid : Prop := Claim7.holds Tryd.pinned (.plain (OpenSpec.upto verifySequenceSpec)) verifySequenceUptoCard

/-- THE SECOND FORM's CARD OF 'tricklelaw55.VerifyUpdates'. -/
def verifyUpdatesUptoCard : Claim7 := { stood := { row := verifyUpdatesUptoRow, standIns := [], harness := (true, "a0e6720bc3b6ce1546ae2a1f8cf95a08d945ba3933b70c4a52f1b1fb8e058b73"), looks := false }, kinds := [], alts := [], laidByText := true, laidKinds := [.widerDeep], laidTests := true, laidLooks := .later }
def VerifyUpdatesUptoCardSaid : Prop := Claim7.holds Tryd.pinned (.plain (OpenSpec.upto verifyUpdatesSpec)) verifyUpdatesUptoCard

/-- THE SECOND FORM's CARD OF 'tricklelaw55.VerifyPrefix'. -/
def verifyPrefixUptoCard : Claim7 := { stood := { row := verifyPrefixUptoRow, standIns := [], harness := (true, "a0e6720bc3b6ce1546ae2a1f8cf95a08d945ba3933b70c4a52f1b1fb8e058b73"), looks := false }, kinds := [], alts := [], laidByText := true, laidKinds := [.widerDeep], laidTests := true, laidLooks := .later }
def VerifyPrefixUptoCardSaid : Prop := Claim7.holds Tryd.pinned (.plain (OpenSpec.upto verifyPrefixSpec)) verifyPrefixUptoCard

/-- THE SECOND FORM's CARD OF 'tricklelaw55.VerifySummary'. -/
def verifySummaryUptoCard : Claim7 := { stood := { row := verifySummaryUptoRow, standIns := [], harness := (true, "a0e6720bc3b6ce1546ae2a1f8cf95a08d945ba3933b70c4a52f1b1fb8e058b73"), looks := false }, kinds := [], alts := [], laidByText := true, laidKinds := [.widerDeep], laidTests := true, laidLooks := .later }
def VerifySummaryUptoCardSaid : Prop := Claim7.holds Tryd.pinned (.plain (OpenSpec.upto verifySummarySpec)) verifySummaryUptoCard

/-- THE SECOND FORM's CARD OF 'tricklelaw55.VerifyFreshness'. -/
def verifyFreshnessUptoCard : Claim7 := { stood := { row := verifyFreshnessUptoRow, standIns := [], harness := (true, "a0e6720bc3b6ce1546ae2a1f8cf95a08d945ba3933b70c4a52f1b1fb8e058b73"), looks := false }, kinds := [], alts := [], laidByText := true, laidKinds := [.widerDeep], laidTests := true, laidLooks := .later }
def VerifyFreshnessUptoCardSaid : Prop := Claim7.holds Tryd.pinned (.plain (OpenSpec.upto verifyFreshnessSpec)) verifyFreshnessUptoCard
end Rows
end Go.Proofs.YtakkifbcaedcoaaDoor
