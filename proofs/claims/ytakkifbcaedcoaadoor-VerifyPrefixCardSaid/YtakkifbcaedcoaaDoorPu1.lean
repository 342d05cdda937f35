/- What the reference's functions of layers 52 and 55 compute, in plain words: events and their validity, the filter, the state, the counts. -/
import Derived.Test.YtakkifbcaedcoaaDoorPXx6
import Derived.Test.YtakkifbcaedcoaaDoorPu4
import Derived.Test.YtakkifbcaedcoaaDoorTypes
import Derived.Test.YtakkifbcaedcoaaDoorEv
namespace Go.Proofs.YtakkifbcaedcoaaDoor.PX
open Go.RowKit Go.Proofs.YtakkifbcaedcoaaDoorW.PrintWords Go.Proofs.YtakkifbcaedcoaaDoorW.PrintLast Go.Proofs.YtakkifbcaedcoaaDoorW.PrintMore
set_option linter.unusedVariables false
set_option linter.unusedSimpArgs false
theorem rd_T55_nat (xs : List S55) (j : Nat) (h : j < xs.length) : rd_T55 xs (j : Int) = xs[j] := getD_nat xs z55 j h
theorem rd_T32_nat (xs : List S32) (j : Nat) (h : j < xs.length) : rd_T32 xs (j : Int) = xs[j] := getD_nat xs z32 j h
theorem rd_T33_nat (xs : List S33) (j : Nat) (h : j < xs.length) : rd_T33 xs (j : Int) = xs[j] := getD_nat xs z33 j h
theorem plain_loop (l : List S32) (hn : l.length < 8796093022208) : ∀ (d j : Nat) (acc : List S33), j + d = l.length → acc.length ≤ j → Ev (fun k => tricklelaw55_plain.l0 k acc l (l.length : Int) (j : Int)) (acc ++ (l.drop j).map to33)
  | 0, j, acc, hj, ha => by
    refine Ev.step (fun k => by rw [tricklelaw55_plain.l0]) (Ev.neg (by omega) ?_)
    rw [List.drop_of_length_le (by omega), List.map_nil, List.append_nil]
    exact Ev.now _
  | d + 1, j, acc, hj, ha => by
    refine Ev.step (fun k => by rw [tricklelaw55_plain.l0]) (Ev.pos (by omega) (Ev.pos (by omega) (Ev.pos (by omega) (Ev.pos (by omega) ?_))))
    rw [rd_T32_nat l j (by omega), wrap_nat (n := l.length) (by omega) (by omega)]
    refine Ev.cast (plain_loop l hn d (j + 1) _ (by omega) (by simp; omega)) ?_
    rw [drop_cons l j (by omega), List.map_cons, List.append_assoc]
    rfl
theorem plain_ev (l : List S32) (hn : l.length < 8796093022208) : Ev (fun k => tricklelaw55_plain.f k l) (l.map to33) := by
  have h := plain_loop l hn l.length 0 [] (by omega) (by simp)
  simpa [tricklelaw55_plain.f] using h
theorem same_loop (l : List S33) (hn : l.length < 8796093022208) : ∀ (d j : Nat), j + d = l.length → Ev (fun k => trickleref55_Same.l0 k l l (j : Int)) true
  | 0, j, hj => Ev.step (fun k => by rw [trickleref55_Same.l0]) (Ev.neg (by omega) (Ev.now _))
  | d + 1, j, hj => by
    refine Ev.step (fun k => by rw [trickleref55_Same.l0]) (Ev.pos (by omega) (Ev.pos (by omega) (Ev.pos (by omega) (Ev.neg (by simp) ?_))))
    rw [wrap_nat (n := l.length) (by omega) (by omega)]
    exact same_loop l hn d (j + 1) (by omega)
theorem same_ev (l : List S33) (hn : l.length < 8796093022208) : Ev (fun k => trickleref55_Same.f k l l) true :=
  Ev.congr (f := fun k => trickleref55_Same.l0 k l l ((0 : Nat) : Int)) (fun k => by rw [trickleref55_Same.f, if_pos rfl]; rfl) (same_loop l hn l.length 0 (by omega))
theorem wakes55 : tricklelaw55_wakes.f = some true := by kernel_rfl
end Go.Proofs.YtakkifbcaedcoaaDoor.PX
