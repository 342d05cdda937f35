/- A property of worlds: the table trace.kinds lies in memory as its initialiser lays it. -/
import Derived.Test.YtakkifbcaedcoaaDoorProg
import Derived.Test.YtakkifbcaedcoaaDoorWWords
namespace Go.Proofs.YtakkifbcaedcoaaDoor.PX
open Go.RowKit Go.Proofs.YtakkifbcaedcoaaDoorW.PrintWords
/-- The fields of each kind of events, by the kind's number. -/
def fldsN : List (List Int) := [[], [2], [2], [0, 4], [0, 1, 4], [0, 3], [0], [1, 2, 4], [2, 4], [0, 4], [2], [0, 1, 4, 2], [0, 1, 4, 2]]
def flds (k : Int) : List Int := fldsN.getD k.toNat []
structure GW (w : World) : Prop where
  at_ : ∀ k : Int, 1 ≤ k → k < 13 → ∃ a : Addr, w.cell? ⟨0, k.toNat * 2 + 1, none⟩ = some (.slice (some a) (flds k).length (flds k).length) ∧
    ∀ j : Nat, j < (flds k).length → w.cell? (a.add j) = some (.int .i64 ((flds k).getD j 0))
theorem GW.below {w w1 : World} (h : GW w) (hb : Below w.heap.size w w1) : GW w1 :=
  ⟨fun k h0 h1 => by
    obtain ⟨a, hc, hj⟩ := h.at_ k h0 h1
    exact ⟨a, pw_cell_below hb hc, fun j hl => pw_cell_below hb (hj j hl)⟩⟩
end Go.Proofs.YtakkifbcaedcoaaDoor.PX
