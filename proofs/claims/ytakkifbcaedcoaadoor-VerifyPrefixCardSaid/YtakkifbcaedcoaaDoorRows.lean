/-
  NARROWER THAN 'FOR EVERY INPUT', by the rows' own cells (each row's printed sentence says how): VerifySequence: laid · VerifyUpdates: laid · VerifyPrefix: laid · VerifySummary: laid · VerifyFreshness: loops, laid.
  DERIVED. THE GIVEN ROWS OF THIS SEAT. 5 by the template 'for every input the law returns true; each argument reads behind the call as it read before'; 0 by the template 'total and deterministic' (their statements: YtakkifbcaedcoaaDoorTotals.lean).
  GIVEN WITH THE SEED: the statements are not yours to turn. If you find one false, say at which input.
  Laid BY PROGRAM, IN A SANDBOX (cutbox-rows.mjs): the forced cells as the released guide's own fill.sh prints them over the translation a1663ba272fcfbc0… (all of the seat's roots in one cut). By AI agents, Wed Nov 11 2026. No macro, syntax, notation, axiom, sorry.
-/
import Derived.Test.YtakkifbcaedcoaaDoorChecked
import GoSem.Claim
import GoSem.ClaimJoined
import GoSem.ClaimMapViews
import Derived.JoinedTies
import Derived.KernelRfl
namespace Go.Proofs.YtakkifbcaedcoaaDoor
/- THE CELL 'sum', in the pinned program and in every row, IS THE sha256 OF THE DUMP (.gsa) THAT YtakkifbcaedcoaaDoorProg.lean LOADS. Nothing in Lean hashes anything: it is a label: what it is worth is what the hold of that sum in a sandbox is worth. -/
noncomputable def Tryd.pinned : Pinned := { name := "ytakkifbcaedcoaadoor", sum := "a1663ba272fcfbc001777fde3057901e39a6b313c3fb9c3947de48f7e8d5d21e", checked := Tryd.checked }
namespace Rows
def none {H : Type} : Left H := { results := [], args := [] }

/- WHAT THE LISTED PACKAGE-LEVEL VARIABLES READ AS WHEN THE CALL BEGINS. Each datum BY PROGRAM (the guide's laid-datum.mjs) off the statement by which the dump's own 'gosem.cut.vars' lays the variable. In a bare row this is a premise. The card (YtakkifbcaedcoaaDoorCards.lean) ties it to the program's text. -/
def laid_trickle_trace_kinds {H : Type} : DataW H := .agg [.agg [.lit (.string []), .nil], .agg [.lit (.string [98, 111, 111, 116]), .slice [.lit (.int .i64 2)] []], .agg [.lit (.string [102, 97, 105, 108]), .slice [.lit (.int .i64 2)] []], .agg [.lit (.string [115, 116, 97, 114, 116]), .slice [.lit (.int .i64 0), .lit (.int .i64 4)] []], .agg [.lit (.string [114, 101, 97, 100]), .slice [.lit (.int .i64 0), .lit (.int .i64 1), .lit (.int .i64 4)] []], .agg [.lit (.string [99, 111, 109, 109, 105, 116]), .slice [.lit (.int .i64 0), .lit (.int .i64 3)] []], .agg [.lit (.string [101, 110, 100]), .slice [.lit (.int .i64 0)] []], .agg [.lit (.string [111, 117, 116, 112, 117, 116]), .slice [.lit (.int .i64 1), .lit (.int .i64 2), .lit (.int .i64 4)] []], .agg [.lit (.string [114, 101, 99, 101, 105, 118, 101]), .slice [.lit (.int .i64 2), .lit (.int .i64 4)] []], .agg [.lit (.string [101, 120, 112, 105, 114, 101]), .slice [.lit (.int .i64 0), .lit (.int .i64 4)] []], .agg [.lit (.string [117, 112, 100, 97, 116, 101]), .slice [.lit (.int .i64 2)] []], .agg [.lit (.string [100, 114, 111, 112]), .slice [.lit (.int .i64 0), .lit (.int .i64 1), .lit (.int .i64 4), .lit (.int .i64 2)] []], .agg [.lit (.string [115, 101, 110, 100]), .slice [.lit (.int .i64 0), .lit (.int .i64 1), .lit (.int .i64 4), .lit (.int .i64 2)] []]]

/-- 'tricklelaw55.VerifySequence': WHATEVER THE INPUT: true; the input reads as it did. -/
def verifySequenceSpec : ChangeSpec := { name := "verifySequence", fn := fun _ => fun
  | [d] => { results := [.lit (.bool true)], args := [d] }
  | _ => none }
def verifySequenceRow : OpenClaim := { program := "ytakkifbcaedcoaadoor", sum := "a1663ba272fcfbc001777fde3057901e39a6b313c3fb9c3947de48f7e8d5d21e", func := "trickle/tricklelaw55.VerifySequence", spec := "verifySequence", named := ["trickle/trace.kinds"], apart := false, laid := [("trickle/trace.kinds", laid_trickle_trace_kinds)] }
def VerifySequenceSaid : Prop := verifySequenceRow.holds Tryd.pinned (OpenSpec.ofChange verifySequenceSpec)

/-- ITS FALSE NEIGHBOUR: 'it returns false'. Refute it at one input. -/
def verifySequenceWrong : ChangeSpec := { name := "verifySequence", fn := fun _ => fun
  | [d] => { results := [.lit (.bool false)], args := [d] }
  | _ => none }
def VerifySequenceWrongFalsely : Prop := verifySequenceRow.holds Tryd.pinned (OpenSpec.ofChange verifySequenceWrong)

/-- 'tricklelaw55.VerifyUpdates': WHATEVER THE INPUT: true; the input reads as it did. -/
def verifyUpdatesSpec : ChangeSpec := { name := "verifyUpdates", fn := fun _ => fun
  | [d] => { results := [.lit (.bool true)], args := [d] }
  | _ => none }
def verifyUpdatesRow : OpenClaim := { program := "ytakkifbcaedcoaadoor", sum := "a1663ba272fcfbc001777fde3057901e39a6b313c3fb9c3947de48f7e8d5d21e", func := "trickle/tricklelaw55.VerifyUpdates", spec := "verifyUpdates", named := ["trickle/trace.kinds"], apart := false, laid := [("trickle/trace.kinds", laid_trickle_trace_kinds)] }
def VerifyUpdatesSaid : Prop := verifyUpdatesRow.holds Tryd.pinned (OpenSpec.ofChange verifyUpdatesSpec)

/-- ITS FALSE NEIGHBOUR: 'it returns false'. Refute it at one input. -/
def verifyUpdatesWrong : ChangeSpec := { name := "verifyUpdates", fn := fun _ => fun
  | [d] => { results := [.lit (.bool false)], args := [d] }
  | _ => none }
def VerifyUpdatesWrongFalsely : Prop := verifyUpdatesRow.holds Tryd.pinned (OpenSpec.ofChange verifyUpdatesWrong)

/-- 'tricklelaw55.VerifyPrefix': WHATEVER THE INPUT: true; the input reads as it did. -/
def verifyPrefixSpec : ChangeSpec := { name := "verifyPrefix", fn := fun _ => fun
  | [d1, d2] => { results := [.lit (.bool true)], args := [d1, d2] }
  | _ => none }
def verifyPrefixRow : OpenClaim := { program := "ytakkifbcaedcoaadoor", sum := "a1663ba272fcfbc001777fde3057901e39a6b313c3fb9c3947de48f7e8d5d21e", func := "trickle/tricklelaw55.VerifyPrefix", spec := "verifyPrefix", unfollowed := true, recurses := true, named := ["trickle/trace.kinds"], apart := false, laid := [("trickle/trace.kinds", laid_trickle_trace_kinds)] }
def VerifyPrefixSaid : Prop := verifyPrefixRow.holds Tryd.pinned (OpenSpec.ofChange verifyPrefixSpec)

/-- ITS FALSE NEIGHBOUR: 'it returns false'. Refute it at one input. -/
def verifyPrefixWrong : ChangeSpec := { name := "verifyPrefix", fn := fun _ => fun
  | [d1, d2] => { results := [.lit (.bool false)], args := [d1, d2] }
  | _ => none }
def VerifyPrefixWrongFalsely : Prop := verifyPrefixRow.holds Tryd.pinned (OpenSpec.ofChange verifyPrefixWrong)

/-- 'tricklelaw55.VerifySummary': WHATEVER THE INPUT: true; the input reads as it did. -/
def verifySummarySpec : ChangeSpec := { name := "verifySummary", fn := fun _ => fun
  | [d1, d2] => { results := [.lit (.bool true)], args := [d1, d2] }
  | _ => none }
def verifySummaryRow : OpenClaim := { program := "ytakkifbcaedcoaadoor", sum := "a1663ba272fcfbc001777fde3057901e39a6b313c3fb9c3947de48f7e8d5d21e", func := "trickle/tricklelaw55.VerifySummary", spec := "verifySummary", named := ["trickle/trace.kinds"], apart := false, laid := [("trickle/trace.kinds", laid_trickle_trace_kinds)] }
def VerifySummarySaid : Prop := verifySummaryRow.holds Tryd.pinned (OpenSpec.ofChange verifySummarySpec)

/-- ITS FALSE NEIGHBOUR: 'it returns false'. Refute it at one input. -/
def verifySummaryWrong : ChangeSpec := { name := "verifySummary", fn := fun _ => fun
  | [d1, d2] => { results := [.lit (.bool false)], args := [d1, d2] }
  | _ => none }
def VerifySummaryWrongFalsely : Prop := verifySummaryRow.holds Tryd.pinned (OpenSpec.ofChange verifySummaryWrong)

/-- 'tricklelaw55.VerifyFreshness': WHATEVER THE INPUT: true; the input reads as it did. -/
def verifyFreshnessSpec : ChangeSpec := { name := "verifyFreshness", fn := fun _ => fun
  | [d1, d2] => { results := [.lit (.bool true)], args := [d1, d2] }
  | _ => none }
def verifyFreshnessRow : OpenClaim := { program := "ytakkifbcaedcoaadoor", sum := "a1663ba272fcfbc001777fde3057901e39a6b313c3fb9c3947de48f7e8d5d21e", func := "trickle/tricklelaw55.VerifyFreshness", spec := "verifyFreshness", unfollowed := true, recurses := true, named := ["trickle/trace.kinds"], loops := true, apart := false, laid := [("trickle/trace.kinds", laid_trickle_trace_kinds)] }
def VerifyFreshnessSaid : Prop := verifyFreshnessRow.holds Tryd.pinned (OpenSpec.ofChange verifyFreshnessSpec)

/-- ITS FALSE NEIGHBOUR: 'it returns false'. Refute it at one input. -/
def verifyFreshnessWrong : ChangeSpec := { name := "verifyFreshness", fn := fun _ => fun
  | [d1, d2] => { results := [.lit (.bool false)], args := [d1, d2] }
  | _ => none }
def VerifyFreshnessWrongFalsely : Prop := verifyFreshnessRow.holds Tryd.pinned (OpenSpec.ofChange verifyFreshnessWrong)

/- THE SECOND FORM. 'bulk': how many values and letters a reading holds, each counted each time it is reached (what is shared counts as often as it is met; a slice's spare places count too). A statement '..UptoSaid' is the law's where the arguments, and the package variables that the reading takes, are together of bulk at most 1048576: NARROWER than '..Said'. Prove '..Said' where nothing that the law and all that it calls make is longer than what came in: it says more and counts as full. Else prove '..UptoSaid'. A law counts once. -/
mutual
def uptoBulk {H : Type} : DataW H → Nat
  | .lit (.string bytes) => bytes.length + 1
  | .lit _ => 1
  | .nil => 1
  | .ptr d => uptoBulk d + 1
  | .slice elems spare => uptoBulkAll elems + uptoBulkAll spare + 1
  | .agg parts => uptoBulkAll parts + 1
  | .iface _ d => uptoBulk d + 1
  | .map entries => uptoBulkEntries entries + 1
  | .held _ => 1
def uptoBulkAll {H : Type} : List (DataW H) → Nat
  | [] => 0
  | d :: r => uptoBulk d + uptoBulkAll r
def uptoBulkEntries {H : Type} : List (Lit × DataW H) → Nat
  | [] => 0
  | x :: r => uptoBulkEntry x + uptoBulkEntries r
def uptoBulkEntry {H : Type} : Lit × DataW H → Nat
  | (.string bytes, d) => bytes.length + uptoBulk d + 1
  | (_, d) => uptoBulk d + 1
 end
def uptoSmall : (H : Type) → List (DataW H) → Bool := fun _ ds => decide (uptoBulkAll ds ≤ 1048576)
def OpenSpec.upto (s : _root_.Go.ChangeSpec) : _root_.Go.OpenSpec := { _root_.Go.OpenSpec.ofChange s with cond := some uptoSmall }

/-- 'tricklelaw55.VerifySequence', WHERE WHAT IT READS IS OF BULK AT MOST 1048576: true; the input reads as it did. -/
def verifySequenceUptoRow : OpenClaim := { program := "ytakkifbcaedcoaadoor", sum := "a1663ba272fcfbc001777fde3057901e39a6b313c3fb9c3947de48f7e8d5d21e", func := "trickle/tricklelaw55.VerifySequence", spec := "verifySequence", named := ["trickle/trace.kinds"], apart := false, laid := [("trickle/trace.kinds", laid_trickle_trace_kinds)], narrowed := true }
def VerifySequenceUptoSaid : Prop := verifySequenceUptoRow.holds Tryd.pinned (OpenSpec.upto verifySequenceSpec)

/-- 'tricklelaw55.VerifyUpdates', WHERE WHAT IT READS IS OF BULK AT MOST 1048576: true; the input reads as it did. -/
def verifyUpdatesUptoRow : OpenClaim := { program := "ytakkifbcaedcoaadoor", sum := "a1663ba272fcfbc001777fde3057901e39a6b313c3fb9c3947de48f7e8d5d21e", func := "trickle/tricklelaw55.VerifyUpdates", spec := "verifyUpdates", named := ["trickle/trace.kinds"], apart := false, laid := [("trickle/trace.kinds", laid_trickle_trace_kinds)], narrowed := true }
def VerifyUpdatesUptoSaid : Prop := verifyUpdatesUptoRow.holds Tryd.pinned (OpenSpec.upto verifyUpdatesSpec)

/-- 'tricklelaw55.VerifyPrefix', WHERE WHAT IT READS IS OF BULK AT MOST 1048576: true; the input reads as it did. -/
def verifyPrefixUptoRow : OpenClaim := { program := "ytakkifbcaedcoaadoor", sum := "a1663ba272fcfbc001777fde3057901e39a6b313c3fb9c3947de48f7e8d5d21e", func := "trickle/tricklelaw55.VerifyPrefix", spec := "verifyPrefix", unfollowed := true, recurses := true, named := ["trickle/trace.kinds"], apart := false, laid := [("trickle/trace.kinds", laid_trickle_trace_kinds)], narrowed := true }
def VerifyPrefixUptoSaid : Prop := verifyPrefixUptoRow.holds Tryd.pinned (OpenSpec.upto verifyPrefixSpec)

/-- 'tricklelaw55.VerifySummary', WHERE WHAT IT READS IS OF BULK AT MOST 1048576: true; the input reads as it did. -/
def verifySummaryUptoRow : OpenClaim := { program := "ytakkifbcaedcoaadoor", sum := "a1663ba272fcfbc001777fde3057901e39a6b313c3fb9c3947de48f7e8d5d21e", func := "trickle/tricklelaw55.VerifySummary", spec := "verifySummary", named := ["trickle/trace.kinds"], apart := false, laid := [("trickle/trace.kinds", laid_trickle_trace_kinds)], narrowed := true }
def VerifySummaryUptoSaid : Prop := verifySummaryUptoRow.holds Tryd.pinned (OpenSpec.upto verifySummarySpec)

/-- 'tricklelaw55.VerifyFreshness', WHERE WHAT IT READS IS OF BULK AT MOST 1048576: true; the input reads as it did. -/
def verifyFreshnessUptoRow : OpenClaim := { program := "ytakkifbcaedcoaadoor", sum := "a1663ba272fcfbc001777fde3057901e39a6b313c3fb9c3947de48f7e8d5d21e", func := "trickle/tricklelaw55.VerifyFreshness", spec := "verifyFreshness", unfollowed := true, recurses := true, named := ["trickle/trace.kinds"], loops := true, apart := false, laid := [("trickle/trace.kinds", laid_trickle_trace_kinds)], narrowed := true }
def VerifyFreshnessUptoSaid : Prop := verifyFreshnessUptoRow.holds Tryd.pinned (OpenSpec.upto verifyFreshnessSpec)

end Rows
end Go.Proofs.YtakkifbcaedcoaaDoor
