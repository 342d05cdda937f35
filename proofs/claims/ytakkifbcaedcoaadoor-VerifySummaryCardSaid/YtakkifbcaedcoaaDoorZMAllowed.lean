/- The reference's allowed: what it computes, and that the call computes it. -/
import Derived.Test.YtakkifbcaedcoaaDoorZPXx0
import Derived.Test.YtakkifbcaedcoaaDoorZPXx4
import Derived.Test.YtakkifbcaedcoaaDoorZEv
namespace Go.Proofs.YtakkifbcaedcoaaDoor.PX
open Go.RowKit Go.Proofs.YtakkifbcaedcoaaDoorW.PrintWords Go.Proofs.YtakkifbcaedcoaaDoorW.PrintLast Go.Proofs.YtakkifbcaedcoaaDoorW.PrintMore
set_option linter.unusedVariables false
set_option linter.unusedSimpArgs false
def stStep (s : Bool × Int) (e : S55) : Bool × Int := (if e.f0 = 1 then true else if e.f0 = 2 then false else s.1, if e.f0 = 3 then e.f2 else if e.f0 = 6 ∨ e.f0 = 9 then -1 else s.2)
def stF (l : List S55) : Bool × Int := l.foldl stStep (false, -1)
def lastE (l : List S55) : S55 := l.getLast?.getD z55
/-- The rule of an event's kind: power, the running task, the event before, the event. -/
def sw (on : Bool) (run : Int) (p e : S55) : Bool :=
  if e.f0 = 1 then !on || p.f0 == 10 else if e.f0 = 2 ∨ e.f0 = 7 then on else if e.f0 = 10 ∨ e.f0 = 3 then on && decide (run < 0)
  else if e.f0 = 4 ∨ e.f0 = 12 ∨ e.f0 = 11 ∨ e.f0 = 5 then on && run == e.f2 else if e.f0 = 6 then on && (run == e.f2 && (p.f0 == 5 && p.f2 == e.f2))
  else if e.f0 = 9 then on && (decide (run < 0) || run == e.f2) else true
def refAllow (l : List S55) (e : S55) : Bool := l.all (fun x => decide (x.f1 ≤ e.f1)) && sw (stF l).1 (stF l).2 (lastE l) e
def trickleref55_allowed.f (l0 : List (S55)) (a1_0 : Int) (a1_1 : Int) (a1_2 : Int) (a1_3 : Int) (a1_4 : Int) (a1_5 : Int) : Option Bool := some (refAllow l0 ⟨a1_0, a1_1, a1_2, a1_3, a1_4, a1_5⟩)
end Go.Proofs.YtakkifbcaedcoaaDoor.PX
