/- Parts of the proof, merged in build order: MMinus. -/
import Derived.Test.YtoobapkccogdhaaDoorZ8
/- trickleref04.Minus, its result told as a row that is only read. -/
namespace Go.Proofs.YtoobapkccogdhaaDoor.PX
open Go.RowKit Go.Proofs.YtoobapkccogdhaaDoorW.PrintWords
def trickleref04_MinusV.f (k : Nat) (l0 : List Int) (l1 : List Int) : Option (List Int) := trickleref04_Minus.f k l0 l1
theorem trickleref04_MinusV.calls (k : Nat) (A0 : Option Addr) (c0 : Nat) (l0 : List Int) (A1 : Option Addr) (c1 : Nat) (l1 : List Int) (r : List Int) (w : World) (hr0 : Kd.C (Kd.int .i64) w A0 l0.length l0) (hc0 : l0.length ≤ c0) (hr1 : Kd.C (Kd.int .i64) w A1 l1.length l1) (hc1 : l1.length ≤ c1) (h : trickleref04_MinusV.f k l0 l1 = some r) :
    Calls Tryd.prog 30 #[.slice A0 l0.length c0, .slice A1 l1.length c1] w fun e w' => ∃ v0_ : Value, e = .returned (v0_) ∧ Kd.V (Kd.int .i64) 3 w' w.heap.size (fun k_ => (w.heap.size ≤ k_)) v0_ r ∧ Below w.heap.size w w' := by
  refine (trickleref04_Minus.calls k A0 c0 l0 A1 c1 l1 r w hr0 hc0 hr1 hc1 h).mono ?_
  rintro e w1 ⟨v, rfl, hR, hb⟩
  exact ⟨v, rfl, Kd.R_V (Kd.R_mono (Kd.R_bound hR) (fun k_ hk => hk.2.1)), hb⟩
end Go.Proofs.YtoobapkccogdhaaDoor.PX
