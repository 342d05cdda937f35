/- The table trace.kinds: what the row's condition on it gives the walks. -/
import Derived.Test.YtakkifbcaedcoaaDoorRows
import Derived.Test.YtakkifbcaedcoaaDoorMGW
import Derived.Test.YtakkifbcaedcoaaDoorOpen
import Derived.LaidMore
import Derived.Stop.Joined
namespace Go.Proofs.YtakkifbcaedcoaaDoor.PX
open Go.ChangeShapes Go.WideShapes Go.ChangeAt Go.RowKit
open Go.Proofs.YtakkifbcaedcoaaDoorW.PrintWords
set_option linter.unusedVariables false
theorem gKinds : Tryd.prog.globalNamed "trickle/trace.kinds" = some 0 := by kernel_rfl
theorem tKinds : (Tryd.prog.globals[0]?).map (·.type) = some 96 := by kernel_rfl
theorem flds_data {H : Type} (k : Nat) (h1 : 1 ≤ k) (h2 : k < 13) : ∃ y0 : DataW H, ∃ xs, Rows.laid_trickle_trace_kinds (H := H) = .agg xs ∧ xs[k]? = some (.agg [y0, .slice ((fldsN.getD k []).map fun n => .lit (.int .i64 n)) []]) := by
  have h : ∀ k, 1 ≤ k → k < 13 → ∃ y0 : DataW H, ∃ xs, Rows.laid_trickle_trace_kinds (H := H) = .agg xs ∧ xs[k]? = some (.agg [y0, .slice ((fldsN.getD k []).map fun n => .lit (.int .i64 n)) []]) := by
    intro k h1 h2
    match k, h1, h2 with
    | 1, _, _ => exact ⟨_, _, rfl, rfl⟩
    | 2, _, _ => exact ⟨_, _, rfl, rfl⟩
    | 3, _, _ => exact ⟨_, _, rfl, rfl⟩
    | 4, _, _ => exact ⟨_, _, rfl, rfl⟩
    | 5, _, _ => exact ⟨_, _, rfl, rfl⟩
    | 6, _, _ => exact ⟨_, _, rfl, rfl⟩
    | 7, _, _ => exact ⟨_, _, rfl, rfl⟩
    | 8, _, _ => exact ⟨_, _, rfl, rfl⟩
    | 9, _, _ => exact ⟨_, _, rfl, rfl⟩
    | 10, _, _ => exact ⟨_, _, rfl, rfl⟩
    | 11, _, _ => exact ⟨_, _, rfl, rfl⟩
    | 12, _, _ => exact ⟨_, _, rfl, rfl⟩
    | k + 13, _, h => omega
  exact h k h1 h2
set_option maxRecDepth 100000 in
theorem gw_of_laid {W : World} (h : laidMetH Tryd.prog [("trickle/trace.kinds", Rows.laid_trickle_trace_kinds)] W) : GW W := by
  rw [MakeChecks.laidMetH_plain _ _ _ (by kernel_rfl)] at h
  obtain ⟨ps, ⟨g0, t0, cs0, f0, p0, q0, hg0, ht0, hv0, hd0, _⟩, _⟩ := h
  obtain rfl := Option.some.inj (gKinds.symm.trans hg0)
  obtain rfl := Option.some.inj (tKinds.symm.trans ht0)
  obtain ⟨xs, m, rfl, hx, hlen, hn, hel⟩ := DataW.trod_array Tryd.underlying96 hd0
  have c95 : Tryd.prog.cellsOf 95 = 2 := by kernel_rfl
  have c97 : Tryd.prog.cellsOf 97 = 1 := by kernel_rfl
  have c94 : Tryd.prog.cellsOf 94 = 1 := by kernel_rfl
  have c96 : Tryd.prog.cellsOf 96 = 26 := by kernel_rfl
  refine ⟨fun k h1 h2 => ?_⟩
  obtain ⟨k, rfl⟩ := Int.eq_ofNat_of_zero_le (show 0 ≤ k by omega)
  have h1' : 1 ≤ k := by omega
  have h2' : k < 13 := by omega
  simp only [flds, Int.toNat_natCast]
  obtain ⟨y0, zs, hD, hz⟩ := flds_data (H := Unit) k h1' h2'
  have hxk := hel k h2'
  rw [c95, List.getElem?_eq_getElem (by omega)] at hxk
  obtain ⟨a0, a1, n, hx1, _, _, ht1⟩ := trod_struct2 Tryd.underlying95 hxk
  simp only at ht1
  have hdat : (.agg [a0.1, a1.1] : DataW Unit) = .agg [y0, .slice ((fldsN.getD k []).map fun n => .lit (.int .i64 n)) []] := by
    have e1 : Rows.laid_trickle_trace_kinds (H := Unit) = .agg (xs.map (·.1)) := by
      have := congrArg Prod.fst hx
      simpa using this
    rw [e1] at hD
    injection hD with hD
    rw [← hD, List.getElem?_map, List.getElem?_eq_getElem (by omega)] at hz
    simp only [Option.map_some, Option.some.injEq] at hz
    rw [← hz, hx1]
  injection hdat with hdat
  simp only [List.cons.injEq, and_true] at hdat
  obtain ⟨_, hs⟩ := hdat
  have hl0 : cs0.toList.length = 26 := by rw [hlen, c96]
  have hv := World.var?_cell hg0 hv0
  rcases DataW.trod_slice Tryd.underlying94 ht1 with ⟨_, hnil⟩ | ⟨a, len, cap, elems, rest, n2, _, hcs, hy, _, hle, _, hel2, hat, hsp, _⟩
  · rw [hnil] at hs; cases hs
  · rw [hy] at hs
    simp only [DataW.slice.injEq] at hs
    obtain ⟨hs1, hs2⟩ := hs
    have hlen2 : len = (fldsN.getD k []).length := by rw [← hel2, ← List.length_map (f := (·.1)), hs1, List.length_map]
    have hcap : cap = len := by
      have hr := (hsp rfl).1
      have : rest = [] := by cases rest with
        | nil => rfl
        | cons => simp at hs2
      rw [this] at hr
      simp at hr
      omega
    refine ⟨a, ?_, fun j hj => ?_⟩
    · rw [c94] at hcs
      have hc : cs0.toList[k * 2 + 1]? = some (.slice (some a) len cap) := by
        have h5 : ((((cs0.toList.drop (k * 2)).take 2).drop 1).take 1) = [.slice (some a) len cap] := hcs
        have h6 : ((((cs0.toList.drop (k * 2)).take 2).drop 1).take 1)[0]? = cs0.toList[k * 2 + 1]? := by
          simp [List.getElem?_drop]
        rw [← h6, h5]; rfl
      have h7 := hv (k * 2 + 1)
      rw [h7, ← Array.getElem?_toList, hc, hcap, hlen2]
    · have h8 := hat j (by omega)
      rw [List.getElem?_eq_getElem (by omega)] at h8
      obtain ⟨c1, hc1, hc2⟩ := Option.bind_eq_some_iff.mp h8
      obtain ⟨z, rfl, hz2, _⟩ := DataW.trod_int Tryd.underlying97 hc2
      obtain ⟨_, _, hatc⟩ := World.cells?_some hc1
      have h9 := hatc 0 (by rw [c97]; omega)
      rw [c97, Nat.mul_one] at h9
      have hz3 : (elems.map (·.1))[j]? = some (.lit (.int .i64 z)) := by
        rw [List.getElem?_map, List.getElem?_eq_getElem (by omega), hz2]; rfl
      rw [hs1, List.getElem?_map, List.getElem?_eq_getElem hj] at hz3
      simp only [Option.map_some, Option.some.injEq, DataW.lit.injEq, Lit.int.injEq, true_and] at hz3
      rw [Go.Deep.add_add, Nat.add_zero] at h9
      rw [h9, List.getD_eq_getElem?_getD, List.getElem?_eq_getElem hj, Option.getD_some, hz3]
      rfl
end Go.Proofs.YtakkifbcaedcoaaDoor.PX
