/-
  NARROWER THAN 'FOR EVERY INPUT', by the rows' own cells (each row's printed sentence says how): InterpRun: loops · InterpMore: loops · InterpNoAliasing: loops · InterpEval: loops · InterpSession: loops · InterpStart: loops · InterpSteps: loops.
  DERIVED. THE GIVEN ROWS OF THIS SEAT. 8 by the template 'for every input the law returns true; each argument reads behind the call as it read before'; 0 by the template 'total and deterministic' (their statements: YteonloecenodbaaTotals.lean).
  GIVEN WITH THE SEED: the statements are not yours to turn. If you find one false, say at which input.
  Laid BY PROGRAM, IN A SANDBOX (cutbox-rows.mjs): the forced cells as the released guide's own fill.sh prints them over the translation 2f6205934cfbe9be… (all of the seat's roots in one cut). By AI agents, Wed Nov 11 2026. No macro, syntax, notation, axiom, sorry.
-/
import Derived.Test.YteonloecenodbaaChecked
import GoSem.Claim
import GoSem.ClaimJoined
import GoSem.ClaimMapViews
import Derived.JoinedTies
import Derived.KernelRfl
namespace Go.Proofs.Yteonloecenodbaa
/- THE CELL 'sum', in the pinned program and in every row, IS THE sha256 OF THE DUMP (.gsa) THAT YteonloecenodbaaProg.lean LOADS. Nothing in Lean hashes anything: it is a label: what it is worth is what the hold of that sum in a sandbox is worth. -/
noncomputable def Try.pinned : Pinned := { name := "yteonloecenodbaa", sum := "2f6205934cfbe9bea9dc06b7e3a42669faac39713759580feb179a748b00719a", checked := Try.checked }
namespace Rows
def none {H : Type} : Left H := { results := [], args := [] }

/-- 'tricklelaw19.InterpRun': WHATEVER THE INPUT: true; the input reads as it did. -/
def interpRunSpec : ChangeSpec := { name := "interpRun", fn := fun _ => fun
  | [d1, d2] => { results := [.lit (.bool true)], args := [d1, d2] }
  | _ => none }
def interpRunRow : OpenClaim := { program := "yteonloecenodbaa", sum := "2f6205934cfbe9bea9dc06b7e3a42669faac39713759580feb179a748b00719a", func := "trickle/tricklelaw19.InterpRun", spec := "interpRun", unfollowed := true, recurses := true, loops := true, apart := false }
def InterpRunSaid : Prop := interpRunRow.holds Try.pinned (OpenSpec.ofChange interpRunSpec)

/-- ITS FALSE NEIGHBOUR: 'it returns false'. Refute it at one input. -/
def interpRunWrong : ChangeSpec := { name := "interpRun", fn := fun _ => fun
  | [d1, d2] => { results := [.lit (.bool false)], args := [d1, d2] }
  | _ => none }
def InterpRunWrongFalsely : Prop := interpRunRow.holds Try.pinned (OpenSpec.ofChange interpRunWrong)

/-- 'tricklelaw19.InterpMore': WHATEVER THE INPUT: true; the input reads as it did. -/
def interpMoreSpec : ChangeSpec := { name := "interpMore", fn := fun _ => fun
  | [d1, d2, d3] => { results := [.lit (.bool true)], args := [d1, d2, d3] }
  | _ => none }
def interpMoreRow : OpenClaim := { program := "yteonloecenodbaa", sum := "2f6205934cfbe9bea9dc06b7e3a42669faac39713759580feb179a748b00719a", func := "trickle/tricklelaw19.InterpMore", spec := "interpMore", unfollowed := true, recurses := true, loops := true, apart := false }
def InterpMoreSaid : Prop := interpMoreRow.holds Try.pinned (OpenSpec.ofChange interpMoreSpec)

/-- ITS FALSE NEIGHBOUR: 'it returns false'. Refute it at one input. -/
def interpMoreWrong : ChangeSpec := { name := "interpMore", fn := fun _ => fun
  | [d1, d2, d3] => { results := [.lit (.bool false)], args := [d1, d2, d3] }
  | _ => none }
def InterpMoreWrongFalsely : Prop := interpMoreRow.holds Try.pinned (OpenSpec.ofChange interpMoreWrong)

/-- 'tricklelaw19.InterpNoAliasing': WHATEVER THE INPUT: true; the input reads as it did. -/
def interpNoAliasingSpec : ChangeSpec := { name := "interpNoAliasing", fn := fun _ => fun
  | [d1, d2] => { results := [.lit (.bool true)], args := [d1, d2] }
  | _ => none }
def interpNoAliasingRow : OpenClaim := { program := "yteonloecenodbaa", sum := "2f6205934cfbe9bea9dc06b7e3a42669faac39713759580feb179a748b00719a", func := "trickle/tricklelaw19.InterpNoAliasing", spec := "interpNoAliasing", unfollowed := true, recurses := true, loops := true, apart := false }
def InterpNoAliasingSaid : Prop := interpNoAliasingRow.holds Try.pinned (OpenSpec.ofChange interpNoAliasingSpec)

/-- ITS FALSE NEIGHBOUR: 'it returns false'. Refute it at one input. -/
def interpNoAliasingWrong : ChangeSpec := { name := "interpNoAliasing", fn := fun _ => fun
  | [d1, d2] => { results := [.lit (.bool false)], args := [d1, d2] }
  | _ => none }
def InterpNoAliasingWrongFalsely : Prop := interpNoAliasingRow.holds Try.pinned (OpenSpec.ofChange interpNoAliasingWrong)

/-- 'tricklelaw19.InterpEval': WHATEVER THE INPUT: true; the input reads as it did. -/
def interpEvalSpec : ChangeSpec := { name := "interpEval", fn := fun _ => fun
  | [d1, d2, d3] => { results := [.lit (.bool true)], args := [d1, d2, d3] }
  | _ => none }
def interpEvalRow : OpenClaim := { program := "yteonloecenodbaa", sum := "2f6205934cfbe9bea9dc06b7e3a42669faac39713759580feb179a748b00719a", func := "trickle/tricklelaw19.InterpEval", spec := "interpEval", unfollowed := true, recurses := true, loops := true, apart := false }
def InterpEvalSaid : Prop := interpEvalRow.holds Try.pinned (OpenSpec.ofChange interpEvalSpec)

/-- ITS FALSE NEIGHBOUR: 'it returns false'. Refute it at one input. -/
def interpEvalWrong : ChangeSpec := { name := "interpEval", fn := fun _ => fun
  | [d1, d2, d3] => { results := [.lit (.bool false)], args := [d1, d2, d3] }
  | _ => none }
def InterpEvalWrongFalsely : Prop := interpEvalRow.holds Try.pinned (OpenSpec.ofChange interpEvalWrong)

/-- 'tricklelaw19.InterpEqual': WHATEVER THE INPUT: true; the input reads as it did. -/
def interpEqualSpec : ChangeSpec := { name := "interpEqual", fn := fun _ => fun
  | [d1, d2, d3] => { results := [.lit (.bool true)], args := [d1, d2, d3] }
  | _ => none }
def interpEqualRow : OpenClaim := { program := "yteonloecenodbaa", sum := "2f6205934cfbe9bea9dc06b7e3a42669faac39713759580feb179a748b00719a", func := "trickle/tricklelaw19.InterpEqual", spec := "interpEqual", unfollowed := true, recurses := true, apart := false }
def InterpEqualSaid : Prop := interpEqualRow.holds Try.pinned (OpenSpec.ofChange interpEqualSpec)

/-- ITS FALSE NEIGHBOUR: 'it returns false'. Refute it at one input. -/
def interpEqualWrong : ChangeSpec := { name := "interpEqual", fn := fun _ => fun
  | [d1, d2, d3] => { results := [.lit (.bool false)], args := [d1, d2, d3] }
  | _ => none }
def InterpEqualWrongFalsely : Prop := interpEqualRow.holds Try.pinned (OpenSpec.ofChange interpEqualWrong)

/-- 'tricklelaw19.InterpSession': WHATEVER THE INPUT: true; the input reads as it did. -/
def interpSessionSpec : ChangeSpec := { name := "interpSession", fn := fun _ => fun
  | [d1, d2, d3] => { results := [.lit (.bool true)], args := [d1, d2, d3] }
  | _ => none }
def interpSessionRow : OpenClaim := { program := "yteonloecenodbaa", sum := "2f6205934cfbe9bea9dc06b7e3a42669faac39713759580feb179a748b00719a", func := "trickle/tricklelaw19.InterpSession", spec := "interpSession", unfollowed := true, recurses := true, loops := true, apart := false }
def InterpSessionSaid : Prop := interpSessionRow.holds Try.pinned (OpenSpec.ofChange interpSessionSpec)

/-- ITS FALSE NEIGHBOUR: 'it returns false'. Refute it at one input. -/
def interpSessionWrong : ChangeSpec := { name := "interpSession", fn := fun _ => fun
  | [d1, d2, d3] => { results := [.lit (.bool false)], args := [d1, d2, d3] }
  | _ => none }
def InterpSessionWrongFalsely : Prop := interpSessionRow.holds Try.pinned (OpenSpec.ofChange interpSessionWrong)

/-- 'tricklelaw19.InterpStart': WHATEVER THE INPUT: true; the input reads as it did. -/
def interpStartSpec : ChangeSpec := { name := "interpStart", fn := fun _ => fun
  | [d] => { results := [.lit (.bool true)], args := [d] }
  | _ => none }
def interpStartRow : OpenClaim := { program := "yteonloecenodbaa", sum := "2f6205934cfbe9bea9dc06b7e3a42669faac39713759580feb179a748b00719a", func := "trickle/tricklelaw19.InterpStart", spec := "interpStart", unfollowed := true, recurses := true, loops := true, apart := false }
def InterpStartSaid : Prop := interpStartRow.holds Try.pinned (OpenSpec.ofChange interpStartSpec)

/-- ITS FALSE NEIGHBOUR: 'it returns false'. Refute it at one input. -/
def interpStartWrong : ChangeSpec := { name := "interpStart", fn := fun _ => fun
  | [d] => { results := [.lit (.bool false)], args := [d] }
  | _ => none }
def InterpStartWrongFalsely : Prop := interpStartRow.holds Try.pinned (OpenSpec.ofChange interpStartWrong)

/-- 'tricklelaw19.InterpSteps': WHATEVER THE INPUT: true; the input reads as it did. -/
def interpStepsSpec : ChangeSpec := { name := "interpSteps", fn := fun _ => fun
  | [d1, d2] => { results := [.lit (.bool true)], args := [d1, d2] }
  | _ => none }
def interpStepsRow : OpenClaim := { program := "yteonloecenodbaa", sum := "2f6205934cfbe9bea9dc06b7e3a42669faac39713759580feb179a748b00719a", func := "trickle/tricklelaw19.InterpSteps", spec := "interpSteps", unfollowed := true, recurses := true, loops := true, apart := false }
def InterpStepsSaid : Prop := interpStepsRow.holds Try.pinned (OpenSpec.ofChange interpStepsSpec)

/-- ITS FALSE NEIGHBOUR: 'it returns false'. Refute it at one input. -/
def interpStepsWrong : ChangeSpec := { name := "interpSteps", fn := fun _ => fun
  | [d1, d2] => { results := [.lit (.bool false)], args := [d1, d2] }
  | _ => none }
def InterpStepsWrongFalsely : Prop := interpStepsRow.holds Try.pinned (OpenSpec.ofChange interpStepsWrong)

/- THE SECOND FORM. 'bulk': how many values and letters a reading holds, each counted each time it is reached (what is shared counts as often as it is met; a slice's spare places count too). A statement '..UptoSaid' is the law's where the arguments, and the package variables that the reading takes, are together of bulk at most 1048576: NARROWER than '..Said'. Prove '..Said' where nothing that the law and all that it calls make is longer than what came in: it says more and counts as full. Else prove '..UptoSaid'. A law counts once. -/
mutual
def uptoBulk {H : Type} : DataW H → Nat
  | .lit (.string bytes) => bytes.length + 1
  | .lit _ => 1
  | .nil => 1
  | .ptr d => uptoBulk d + 1
  | .slice elems spare => uptoBulkAll elems + uptoBulkAll spare + 1
  | .agg parts => uptoBulkAll parts + 1
  | .iface _ d => uptoBulk d + 1
  | .map entries => uptoBulkEntries entries + 1
  | .held _ => 1
def uptoBulkAll {H : Type} : List (DataW H) → Nat
  | [] => 0
  | d :: r => uptoBulk d + uptoBulkAll r
def uptoBulkEntries {H : Type} : List (Lit × DataW H) → Nat
  | [] => 0
  | x :: r => uptoBulkEntry x + uptoBulkEntries r
def uptoBulkEntry {H : Type} : Lit × DataW H → Nat
  | (.string bytes, d) => bytes.length + uptoBulk d + 1
  | (_, d) => uptoBulk d + 1
 end
def uptoSmall : (H : Type) → List (DataW H) → Bool := fun _ ds => decide (uptoBulkAll ds ≤ 1048576)
def OpenSpec.upto (s : _root_.Go.ChangeSpec) : _root_.Go.OpenSpec := { _root_.Go.OpenSpec.ofChange s with cond := some uptoSmall }

/-- 'tricklelaw19.InterpRun', WHERE WHAT IT READS IS OF BULK AT MOST 1048576: true; the input reads as it did. -/
def interpRunUptoRow : OpenClaim := { program := "yteonloecenodbaa", sum := "2f6205934cfbe9bea9dc06b7e3a42669faac39713759580feb179a748b00719a", func := "trickle/tricklelaw19.InterpRun", spec := "interpRun", unfollowed := true, recurses := true, loops := true, apart := false, narrowed := true }
def InterpRunUptoSaid : Prop := interpRunUptoRow.holds Try.pinned (OpenSpec.upto interpRunSpec)

/-- 'tricklelaw19.InterpMore', WHERE WHAT IT READS IS OF BULK AT MOST 1048576: true; the input reads as it did. -/
def interpMoreUptoRow : OpenClaim := { program := "yteonloecenodbaa", sum := "2f6205934cfbe9bea9dc06b7e3a42669faac39713759580feb179a748b00719a", func := "trickle/tricklelaw19.InterpMore", spec := "interpMore", unfollowed := true, recurses := true, loops := true, apart := false, narrowed := true }
def InterpMoreUptoSaid : Prop := interpMoreUptoRow.holds Try.pinned (OpenSpec.upto interpMoreSpec)

/-- 'tricklelaw19.InterpNoAliasing', WHERE WHAT IT READS IS OF BULK AT MOST 1048576: true; the input reads as it did. -/
def interpNoAliasingUptoRow : OpenClaim := { program := "yteonloecenodbaa", sum := "2f6205934cfbe9bea9dc06b7e3a42669faac39713759580feb179a748b00719a", func := "trickle/tricklelaw19.InterpNoAliasing", spec := "interpNoAliasing", unfollowed := true, recurses := true, loops := true, apart := false, narrowed := true }
def InterpNoAliasingUptoSaid : Prop := interpNoAliasingUptoRow.holds Try.pinned (OpenSpec.upto interpNoAliasingSpec)

/-- 'tricklelaw19.InterpEval', WHERE WHAT IT READS IS OF BULK AT MOST 1048576: true; the input reads as it did. -/
def interpEvalUptoRow : OpenClaim := { program := "yteonloecenodbaa", sum := "2f6205934cfbe9bea9dc06b7e3a42669faac39713759580feb179a748b00719a", func := "trickle/tricklelaw19.InterpEval", spec := "interpEval", unfollowed := true, recurses := true, loops := true, apart := false, narrowed := true }
def InterpEvalUptoSaid : Prop := interpEvalUptoRow.holds Try.pinned (OpenSpec.upto interpEvalSpec)

/-- 'tricklelaw19.InterpEqual', WHERE WHAT IT READS IS OF BULK AT MOST 1048576: true; the input reads as it did. -/
def interpEqualUptoRow : OpenClaim := { program := "yteonloecenodbaa", sum := "2f6205934cfbe9bea9dc06b7e3a42669faac39713759580feb179a748b00719a", func := "trickle/tricklelaw19.InterpEqual", spec := "interpEqual", unfollowed := true, recurses := true, apart := false, narrowed := true }
def InterpEqualUptoSaid : Prop := interpEqualUptoRow.holds Try.pinned (OpenSpec.upto interpEqualSpec)

/-- 'tricklelaw19.InterpSession', WHERE WHAT IT READS IS OF BULK AT MOST 1048576: true; the input reads as it did. -/
def interpSessionUptoRow : OpenClaim := { program := "yteonloecenodbaa", sum := "2f6205934cfbe9bea9dc06b7e3a42669faac39713759580feb179a748b00719a", func := "trickle/tricklelaw19.InterpSession", spec := "interpSession", unfollowed := true, recurses := true, loops := true, apart := false, narrowed := true }
def InterpSessionUptoSaid : Prop := interpSessionUptoRow.holds Try.pinned (OpenSpec.upto interpSessionSpec)

/-- 'tricklelaw19.InterpStart', WHERE WHAT IT READS IS OF BULK AT MOST 1048576: true; the input reads as it did. -/
def interpStartUptoRow : OpenClaim := { program := "yteonloecenodbaa", sum := "2f6205934cfbe9bea9dc06b7e3a42669faac39713759580feb179a748b00719a", func := "trickle/tricklelaw19.InterpStart", spec := "interpStart", unfollowed := true, recurses := true, loops := true, apart := false, narrowed := true }
def InterpStartUptoSaid : Prop := interpStartUptoRow.holds Try.pinned (OpenSpec.upto interpStartSpec)

/-- 'tricklelaw19.InterpSteps', WHERE WHAT IT READS IS OF BULK AT MOST 1048576: true; the input reads as it did. -/
def interpStepsUptoRow : OpenClaim := { program := "yteonloecenodbaa", sum := "2f6205934cfbe9bea9dc06b7e3a42669faac39713759580feb179a748b00719a", func := "trickle/tricklelaw19.InterpSteps", spec := "interpSteps", unfollowed := true, recurses := true, loops := true, apart := false, narrowed := true }
def InterpStepsUptoSaid : Prop := interpStepsUptoRow.holds Try.pinned (OpenSpec.upto interpStepsSpec)

end Rows
end Go.Proofs.Yteonloecenodbaa
