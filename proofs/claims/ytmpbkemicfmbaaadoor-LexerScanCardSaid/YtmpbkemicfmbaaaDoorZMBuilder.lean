/- strings.Builder over this program: copyCheck, WriteByte, WriteString and String, at a builder that the caller has made. -/
import Derived.Test.YtmpbkemicfmbaaaDoorZShelfB
import Derived.Test.YtmpbkemicfmbaaaDoorZWWords
import Derived.Lib.Builder
import Derived.Lib.AppendStr
import Derived.Laws.Externs
import Derived.WalkKit
namespace Go.Proofs.YtmpbkemicfmbaaaDoor.PX
open Go.RowKit Go.Proofs.YtmpbkemicfmbaaaDoorW.PrintWords
set_option linter.unusedVariables false
set_option linter.unusedSimpArgs false
/-- A builder of the call's own that holds the bytes l. -/
def Bd (B b : Nat) (l : List UInt8) (w : World) : Prop := Lib.IsBuilder 53 5 B b (Lib.byteCells l) w
theorem builderAt_below {B b : Nat} {p : Value} {bs : List Value} {w w1 : World} (h : Lib.BuilderAt 53 5 B b p bs w) (hb : Below w.heap.size w w1) : Lib.BuilderAt 53 5 B b p bs w1 := by
  have hlt := h.lt
  obtain ⟨hB, v, hk, ho, hne⟩ := h
  exact ⟨hB, v, (hb.block b hlt).trans hk, pw_own_below ho hb, hne⟩
theorem Bd.below {B b : Nat} {l : List UInt8} {w w1 : World} (h : Bd B b l w) (hb : Below w.heap.size w w1) : Bd B b l w1 :=
  h.elim (fun h => .inl (builderAt_below h hb)) (fun h => .inr (builderAt_below h hb))
/-- Boxes of tokens stand as they stood. -/
def Keep37 (w w1 : World) : Prop := ∀ (g : Nat) (cs : Array Value), w.heap[g]? = some (.cells cs 37 (0, 0)) → w1.heap[g]? = some (.cells cs 37 (0, 0))
theorem Keep37.refl (w : World) : Keep37 w w := fun _ _ h => h
theorem Keep37.trans {a b c : World} (h : Keep37 a b) (k : Keep37 b c) : Keep37 a c := fun g cs hg => k g cs (h g cs hg)
theorem Keep37.set {w : World} {b j : Nat} {v : Value} {cs1 : Array Value} (hb : w.heap[b]? = some (.cells cs1 53 (0, 0))) : Keep37 w (w.setCell ⟨b, j, none⟩ v) := fun g cs hg => by
  have hne : g ≠ b := by
    rintro rfl
    rw [hg] at hb
    cases hb
  exact (Below.heap_setCell w ⟨b, j, none⟩ v g hne).trans hg
theorem Keep37.alloc (w : World) (o : Obj) : Keep37 w (w.alloc o) := fun g cs hg => by
  have hlt : g < w.heap.size := by
    by_cases hl : g < w.heap.size
    · exact hl
    · rw [Array.getElem?_eq_none (by omega)] at hg; cases hg
  rw [Lib.alloc_old w _ g hlt]
  exact hg
theorem Keep37.grown {w w1 : World} {B n : Nat} {v : Value} {xs : List Value} (ho : w.ownsRow B 5 1 v n xs) (hgr : w.grownBy w1 v.ownBlock) : Keep37 w w1 := fun g cs hg => by
  have hlt : g < w.heap.size := by
    by_cases hl : g < w.heap.size
    · exact hl
    · rw [Array.getElem?_eq_none (by omega)] at hg; cases hg
  have hne : v.ownBlock ≠ some g := by
    intro e
    obtain ⟨cells, hc⟩ := own_typed ho g e
    rw [hg] at hc
    cases hc
  rw [hgr.block g hlt (fun e => hne e.symm)]
  exact hg
set_option maxHeartbeats 1000000 in
set_option maxRecDepth 100000 in
theorem check_calls (B b : Nat) (bs : List Value) (w : World) (h : Lib.IsBuilder 53 5 B b bs w) :
    Calls Tryd.prog 49 #[.pointer (some ⟨b, 0, none⟩)] w fun e w1 => e = .returned (.tuple #[]) ∧ Lib.BuilderAt 53 5 B b (.pointer (some ⟨b, 0, none⟩)) bs w1 ∧ Below B w w1 ∧ Keep37 w w1 := by
  obtain ⟨j, hj, hjs⟩ := Option.map_eq_some_iff.1 (show (Tryd.prog.info? 53).map (·.size) = some 2 by kernel_rfl)
  have hlies : liesAt Tryd.prog Tryd.prog.depth 53 (2 / Tryd.prog.cellsOf 53) 0 53 1 = true := by kernel_rfl
  rcases h with h | h
  · have h0 := h.cell0
    have hsh := h.shape
    have hfz := h.frozen0
    go_enter Tryd.func49, Tryd.ntmps49
    go_wp2
    rw [Lib.run_to_unsafe w ⟨b, 0, none⟩ Tryd.underlying50 Tryd.underlying70 hj (by rw [hjs]; decide) hsh (Nat.zero_lt_succ 1)]
    simp only [Result.andThen]
    rw [Oper.upon_value]
    go_wp2
    rw [run_callFunc_extern Tryd.func55 (by kernel_rfl) (by kernel_rfl) (by kernel_rfl) (e := Extern.AbiNoEscape.same) (by kernel_rfl), Lib.run_noEscape]
    simp only [Result.andThen]
    rw [Oper.upon_value]
    go_wp2
    rw [Lib.run_from_unsafe w ⟨b, 0, none⟩ Tryd.underlying70 Tryd.underlying50 hj hsh hlies]
    simp only [Result.andThen]
    rw [Oper.upon_value]
    go_wp2
    go_end0
    exact ⟨rfl, h.used _, (Below.refl B w).setCell (p := ⟨b, 0, none⟩) h.1 _, Keep37.set (h.2.choose_spec.1)⟩
  · have h0 := h.cell0
    go_enter Tryd.func49, Tryd.ntmps49
    go_wp2
    rw [Lib.run_neq_ptr_same w _ Tryd.underlying50 hj]
    go_wp2
    go_end0
    exact ⟨rfl, h, Below.refl B w, Keep37.refl w⟩
theorem byteCells_append (a c : List UInt8) : Lib.byteCells a ++ Lib.byteCells c = Lib.byteCells (a ++ c) := by simp [Lib.byteCells]
theorem info_u8 : (Tryd.prog.info? 5).map (fun i => (i.zero, i.size, i.bytes)) = some (some (.int .u8 0), 1, 1) := by kernel_rfl
set_option maxHeartbeats 2000000 in
set_option maxRecDepth 100000 in
theorem writeByte_calls (B b : Nat) (l : List UInt8) (w : World) (h : Bd B b l w) (hlen : l.length + 1 ≤ 140737488355328) (hBw : B ≤ w.heap.size) :
    Calls Tryd.prog 31 #[.pointer (some ⟨b, 0, none⟩), .int .u8 32] w fun e w1 => e = .returned .nilIface ∧ Bd B b (l ++ [32]) w1 ∧ Below B w w1 ∧ Keep37 w w1 := by
  obtain ⟨i0, hi, hz0, hz1, hz2⟩ := info_parts info_u8
  have hbl : (Lib.byteCells l).length = l.length := Lib.byteCells_length l
  go_enter Tryd.func31, Tryd.ntmps31
  go_wp2_with (go_at_call 49; refine (check_calls B b (Lib.byteCells l) _ h).mono ?_)
  rintro e w1 ⟨rfl, h1, hb1, hk1⟩
  obtain ⟨hB, v, hbk, hown, hne⟩ := h1
  have c0 : w1.cell? ⟨b, 0, none⟩ = some (.pointer (some ⟨b, 0, none⟩)) := by rw [Lib.cell_of_heap hbk]; rfl
  have c1 : w1.cell? ⟨b, 1, none⟩ = some v := by rw [Lib.cell_of_heap hbk]; rfl
  go_wp2_with (at_builtin; refine wpList_append_own _ rfl _ _ 51 rfl B 5 i0 (.int .u8 0) 1 1 Tryd.underlying51 hi hz0 hz1 hz2 rfl (by decide) _ _ _ rfl (hown.alloc _) ⟨w1.heap.size, 0, none⟩ 1 1 [.int .u8 32] rfl rfl ?c1 ?c2 ?c3 ?c4 ?c5 ?_)
  case c1 =>
    intro j u hj
    match j, hj with
    | 0, hj => simp at hj; subst hj; simp [Addr.add]
  case c2 => intro u hu; simp at hu; subst hu; rfl
  case c3 => unfold maxLen; omega
  case c4 => omega
  case c5 => have := hb1.size; simp; omega
  intro v2 w2 hown2 hgrow _
  have hlt : b < w1.heap.size := Lib.BuilderAt.lt ⟨hB, v, hbk, hown, hne⟩
  have hb2 : w2.heap[b]? = some (.cells #[.pointer (some ⟨b, 0, none⟩), v] 53 (0, 0)) := by
    rw [hgrow.block b (by simp; omega) (fun e => hne e.symm), Lib.alloc_old w1 _ b hlt]
    exact hbk
  have d0 : w2.cell? ⟨b, 0, none⟩ = some (.pointer (some ⟨b, 0, none⟩)) := by rw [Lib.cell_of_heap hb2]; rfl
  have d1 : w2.cell? ⟨b, 1, none⟩ = some v := by rw [Lib.cell_of_heap hb2]; rfl
  have f1 : w2.frozen? ⟨b, 1, none⟩ = false := Lib.frozen_of_heap hb2 1
  obtain ⟨ao, n2, cap, rfl⟩ : ∃ ao n2 cap, v2 = .slice ao n2 cap := by
    rcases hown2.2 with ⟨hv, _⟩ | ⟨g, cap, cur, hv, _⟩
    · exact ⟨_, _, _, hv⟩
    · exact ⟨_, _, _, hv⟩
  go_wp2
  go_ret
  refine ⟨rfl, .inr ?_, ?_, ?_⟩
  · have h5 := Lib.BuilderAt.put (T := 53) (e := 5) (bs' := Lib.byteCells l ++ [.int .u8 32]) hB hb2 (by rw [List.length_append, hbl]; simpa [hbl] using hown2) (by decide)
    rw [show Lib.byteCells l ++ [Value.int .u8 32] = Lib.byteCells (l ++ [32]) from byteCells_append l [32]] at h5
    exact h5
  · exact ((hb1.alloc (by have := hb1.size; omega) _).grown hgrow (by have := hb1.size; simp; omega) (fun k hk => (hown.lt k hk).1)).setCell (p := ⟨b, 1, none⟩) hB _
  · exact ((hk1.trans (Keep37.alloc w1 _)).trans (Keep37.grown (hown.alloc _) hgrow)).trans (Keep37.set hb2)
set_option maxHeartbeats 2000000 in
set_option maxRecDepth 100000 in
theorem writeString_calls (B b : Nat) (l : List UInt8) (s : ByteArray) (w : World) (h : Bd B b l w) (hlen : l.length + s.size ≤ 140737488355328) (hBw : B ≤ w.heap.size) :
    Calls Tryd.prog 32 #[.pointer (some ⟨b, 0, none⟩), .string s] w fun e w1 => e = .returned (.tuple #[.int .i64 s.size, .nilIface]) ∧ Bd B b (l ++ s.data.toList) w1 ∧ Below B w w1 ∧ Keep37 w w1 := by
  obtain ⟨i0, hi, hz0, hz1, hz2⟩ := info_parts info_u8
  have hbl : (Lib.byteCells l).length = l.length := Lib.byteCells_length l
  go_enter Tryd.func32, Tryd.ntmps32
  go_wp2_with (go_at_call 49; refine (check_calls B b (Lib.byteCells l) _ h).mono ?_)
  rintro e w1 ⟨rfl, h1, hb1, hk1⟩
  obtain ⟨hB, v, hbk, hown, hne⟩ := h1
  have c0 : w1.cell? ⟨b, 0, none⟩ = some (.pointer (some ⟨b, 0, none⟩)) := by rw [Lib.cell_of_heap hbk]; rfl
  have c1 : w1.cell? ⟨b, 1, none⟩ = some v := by rw [Lib.cell_of_heap hbk]; rfl
  go_wp2_with (at_builtin; refine Lib.wpList_append_own_string _ rfl _ _ 51 9 rfl B 5 i0 Tryd.underlying51 Tryd.underlying9 hi hz0 hz1 hz2 _ _ _ rfl hown s rfl ?c3 ?c4 ?c5 ?_)
  case c3 => unfold maxLen; omega
  case c4 => omega
  case c5 => have := hb1.size; omega
  intro v2 w2 hown2 hgrow _
  have hlt : b < w1.heap.size := Lib.BuilderAt.lt ⟨hB, v, hbk, hown, hne⟩
  have hb2 : w2.heap[b]? = some (.cells #[.pointer (some ⟨b, 0, none⟩), v] 53 (0, 0)) := by
    rw [hgrow.block b hlt (fun e => hne e.symm)]
    exact hbk
  have d0 : w2.cell? ⟨b, 0, none⟩ = some (.pointer (some ⟨b, 0, none⟩)) := by rw [Lib.cell_of_heap hb2]; rfl
  have d1 : w2.cell? ⟨b, 1, none⟩ = some v := by rw [Lib.cell_of_heap hb2]; rfl
  have f1 : w2.frozen? ⟨b, 1, none⟩ = false := Lib.frozen_of_heap hb2 1
  obtain ⟨ao, n2, cap, rfl⟩ : ∃ ao n2 cap, v2 = .slice ao n2 cap := by
    rcases hown2.2 with ⟨hv, _⟩ | ⟨g, cap, cur, hv, _⟩
    · exact ⟨_, _, _, hv⟩
    · exact ⟨_, _, _, hv⟩
  go_wp2
  go_ret2
  refine ⟨rfl, .inr ?_, ?_, ?_⟩
  · have h5 := Lib.BuilderAt.put (T := 53) (e := 5) (bs' := Lib.byteCells l ++ Lib.strCells s) hB hb2 (by rw [List.length_append, hbl, Lib.strCells_length]; simpa [hbl] using hown2) (by decide)
    rw [show Lib.byteCells l ++ Lib.strCells s = Lib.byteCells (l ++ s.data.toList) from byteCells_append l s.data.toList] at h5
    exact h5
  · exact (hb1.grown hgrow (by have := hb1.size; omega) (fun k hk => (hown.lt k hk).1)).setCell (p := ⟨b, 1, none⟩) hB _
  · exact (hk1.trans (Keep37.grown hown hgrow)).trans (Keep37.set hb2)
end Go.Proofs.YtmpbkemicfmbaaaDoor.PX
