-- Written by a program of this session (wip/xprint.py, over the kit's print tool). Lean checks it.
import Derived.Test.YtakkifbcaedcoaaDoorZPXx0
import Derived.Test.YtakkifbcaedcoaaDoorZPXx6
import Derived.Test.YtakkifbcaedcoaaDoorZPXx7
import Derived.Test.YtakkifbcaedcoaaDoorZPXx10
namespace Go.Proofs.YtakkifbcaedcoaaDoor.PX
open Go.RowKit Go.Proofs.YtakkifbcaedcoaaDoorW.PrintWords Go.Proofs.YtakkifbcaedcoaaDoorW.PrintLast Go.Proofs.YtakkifbcaedcoaaDoorW.PrintMore
attribute [local go_sem] max2_int min2_int max_two min_two max_three min_three max_four min_four   -- for this text's walks alone
set_option linter.unusedVariables false
set_option linter.unusedSimpArgs false

/-! ### trickleref55_Updates: function 14 -/
mutual
def trickleref55_Updates.l0 : Nat → List (S55) → List (S33) → Bool → Int → Int → Option ((List (S33)))
  | 0, _, _, _, _, _ => none
  | k + 1, x0, x3, x4, x5, x6 => if x6 < (x0.length : Int) then (if 0 ≤ x6 then ((trickleref52_Valid.f k ((rd_T55 x0 x6).f0) ((rd_T55 x0 x6).f1) ((rd_T55 x0 x6).f2) ((rd_T55 x0 x6).f3) ((rd_T55 x0 x6).f4) ((rd_T55 x0 x6).f5)).bind fun t244 => (if t244 = true then (if ((rd_T55 x0 x6).f0) = 1 then (trickleref55_Updates.j1 k x0 x3 x4 x5 x6 false ((rd_T55 x0 x6).f0) ((rd_T55 x0 x6).f1) ((rd_T55 x0 x6).f2) ((rd_T55 x0 x6).f3) ((rd_T55 x0 x6).f4) ((rd_T55 x0 x6).f5)) else (trickleref55_Updates.j1 k x0 x3 x4 x5 x6 (((rd_T55 x0 x6).f0) != 10) ((rd_T55 x0 x6).f0) ((rd_T55 x0 x6).f1) ((rd_T55 x0 x6).f2) ((rd_T55 x0 x6).f3) ((rd_T55 x0 x6).f4) ((rd_T55 x0 x6).f5))) else (trickleref55_Updates.j1 k x0 x3 x4 x5 x6 true ((rd_T55 x0 x6).f0) ((rd_T55 x0 x6).f1) ((rd_T55 x0 x6).f2) ((rd_T55 x0 x6).f3) ((rd_T55 x0 x6).f4) ((rd_T55 x0 x6).f5)))) else (none)) else (some x3)
def trickleref55_Updates.j1 : Nat → List (S55) → List (S33) → Bool → Int → Int → Bool → Int → Int → Int → Int → Int → Int → Option ((List (S33)))
  | 0, _, _, _, _, _, _, _, _, _, _, _, _ => none
  | k + 1, x0, x3, x4, x5, x6, x30, x244000, x244001, x244002, x244003, x244004, x244005 => if x30 = true then (trickleref55_Updates.l0 k x0 x3 x4 x5 (wrap64 (x6 + 1))) else (if x4 = true then (if x244000 = 1 then (if x244003 = x5 then (if x244000 = 10 then (trickleref55_Updates.j2 k x0 x3 x6 (decide (x244003 ≤ x5)) x244000 x244001 x244002 x244003 x244004 x244005) else (trickleref55_Updates.j2 k x0 x3 x6 false x244000 x244001 x244002 x244003 x244004 x244005)) else (trickleref55_Updates.j2 k x0 x3 x6 true x244000 x244001 x244002 x244003 x244004 x244005)) else (if x244000 = 10 then (trickleref55_Updates.j2 k x0 x3 x6 (decide (x244003 ≤ x5)) x244000 x244001 x244002 x244003 x244004 x244005) else (trickleref55_Updates.j2 k x0 x3 x6 false x244000 x244001 x244002 x244003 x244004 x244005))) else (trickleref55_Updates.j2 k x0 x3 x6 false x244000 x244001 x244002 x244003 x244004 x244005))
def trickleref55_Updates.j2 : Nat → List (S55) → List (S33) → Int → Bool → Int → Int → Int → Int → Int → Int → Option ((List (S33)))
  | 0, _, _, _, _, _, _, _, _, _, _ => none
  | k + 1, x0, x3, x6, x53, x244000, x244001, x244002, x244003, x244004, x244005 => if x53 = true then (if x3.length < 8796093022208 then (trickleref55_Updates.l0 k x0 (x3 ++ [(⟨x6, 5⟩ : S33)]) true x244003 (wrap64 (x6 + 1))) else (none)) else (trickleref55_Updates.l0 k x0 x3 true x244003 (wrap64 (x6 + 1)))
end
def trickleref55_Updates.f (k : Nat) (l0 : List (S55)) : Option ((List (S33))) := trickleref55_Updates.l0 k l0 ([] : List (S33)) false 0 0
/-! ### tricklelaw55_VerifyUpdates: function 4 -/
def tricklelaw55_VerifyUpdates.f (k : Nat) (l0 : List (S55)) : Option (Bool) := (tricklelaw55_wakes.f).bind fun t248 => (if t248 = true then (if (l0.length : Int) > 90 then (some true) else ((verify_Updates.f k l0).bind fun t249 => ((tricklelaw55_plain.f k t249).bind fun t252 => ((trickleref55_Updates.f k l0).bind fun t255 => ((trickleref55_Same.f k t252 t255).bind fun t258 => (some t258)))))) else (some false))
end Go.Proofs.YtakkifbcaedcoaaDoor.PX
