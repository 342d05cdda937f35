/- Parts of the proof, merged in build order: MBuilder, MFormat, PXx11, PXx34, ShelfB, MLib2. -/
import Derived.Test.YtfhnpphceeoeeaaDoorS1
import Derived.Test.YtfhnpphceeoeeaaDoorS0
import Derived.Lib.Builder
import Derived.Lib.AppendStr
import Derived.Laws.Externs
import Derived.WalkKit
import Derived.Lib.ItoaLen
import Derived.Lib.AppendIntMem
import Derived.Deep.LoopGhost
import Derived.Shelf.Strings.Builder1
import Derived.Shelf.Strconv.Itoa0
import Derived.Shelf.Strconv.Itoa1
import Derived.Shelf.LaysM
import Derived.Shelf.Strconv.Itoa2
import Derived.Shelf.Strconv.Itoa3
import Derived.Shelf.Strings.Fields
import Derived.Shelf.Strings.SplitShaped
import Derived.Shelf.Unicode.Latin
import Derived.Shelf.Unicode.Is16White
import Derived.Shelf.Unicode.IsSpaceAny
import Derived.Shelf.Unicode.Is16Any
import Derived.Shelf.Unicode.Is32Any
import Derived.Shelf.Unicode.ExclAny
import Derived.Ground.SlbCloneProg
import Derived.Shelf.Bytes.SlClone
import Derived.Shelf.Bytes.SlEqualAll
import Derived.Shelf.Bytes.Small
import Derived.Shelf.Bytes.IndexByte
import Derived.Test.YtfhnpphceeoeeaaDoorProg
import Derived.Shelf.Bytes.SlIndexAt
/- strings.Builder over this program: copyCheck, WriteByte, WriteString and String, at a builder that the caller has made. -/
namespace Go.Proofs.YtfhnpphceeoeeaaDoor.PX
open Go.RowKit Go.Proofs.YtfhnpphceeoeeaaDoorW.PrintWords
set_option linter.unusedVariables false
set_option linter.unusedSimpArgs false
/-- A builder of the call's own that holds the bytes l. -/
def Bd (B b : Nat) (l : List UInt8) (w : World) : Prop := Lib.IsBuilder 63 5 B b (Lib.byteCells l) w
theorem builderAt_below {B b : Nat} {p : Value} {bs : List Value} {w w1 : World} (h : Lib.BuilderAt 63 5 B b p bs w) (hb : Below w.heap.size w w1) : Lib.BuilderAt 63 5 B b p bs w1 := by
  have hlt := h.lt
  obtain ⟨hB, v, hk, ho, hne⟩ := h
  exact ⟨hB, v, (hb.block b hlt).trans hk, pw_own_below ho hb, hne⟩
theorem Bd.below {B b : Nat} {l : List UInt8} {w w1 : World} (h : Bd B b l w) (hb : Below w.heap.size w w1) : Bd B b l w1 :=
  h.elim (fun h => .inl (builderAt_below h hb)) (fun h => .inr (builderAt_below h hb))
/-- Blocks of other types than a builder's and a byte's stand as they stood. -/
def KeepB (w w1 : World) : Prop := ∀ (t : TypeId) (g : Nat) (cs : Array Value), t ≠ 63 → t ≠ 5 → w.heap[g]? = some (.cells cs t (0, 0)) → w1.heap[g]? = some (.cells cs t (0, 0))
theorem KeepB.refl (w : World) : KeepB w w := fun _ _ _ _ _ h => h
theorem KeepB.trans {a b c : World} (h : KeepB a b) (k : KeepB b c) : KeepB a c := fun t g cs h1 h2 hg => k t g cs h1 h2 (h t g cs h1 h2 hg)
theorem KeepB.set {w : World} {b j : Nat} {v : Value} {cs1 : Array Value} (hb : w.heap[b]? = some (.cells cs1 63 (0, 0))) : KeepB w (w.setCell ⟨b, j, none⟩ v) := fun t g cs h1 h2 hg => by
  have hne : g ≠ b := by
    rintro rfl
    rw [hg] at hb
    cases hb
    exact h1 rfl
  exact (Below.heap_setCell w ⟨b, j, none⟩ v g hne).trans hg
theorem KeepB.alloc (w : World) (o : Obj) : KeepB w (w.alloc o) := fun t g cs h1 h2 hg => by
  have hlt : g < w.heap.size := by
    by_cases hl : g < w.heap.size
    · exact hl
    · rw [Array.getElem?_eq_none (by omega)] at hg; cases hg
  rw [Lib.alloc_old w _ g hlt]
  exact hg
theorem KeepB.grown {w w1 : World} {B n : Nat} {v : Value} {xs : List Value} (ho : w.ownsRow B 5 1 v n xs) (hgr : w.grownBy w1 v.ownBlock) : KeepB w w1 := fun t g cs h1 h2 hg => by
  have hlt : g < w.heap.size := by
    by_cases hl : g < w.heap.size
    · exact hl
    · rw [Array.getElem?_eq_none (by omega)] at hg; cases hg
  have hne : v.ownBlock ≠ some g := by
    intro e
    obtain ⟨cells, hc⟩ := own_typed ho g e
    rw [hg] at hc
    cases hc
    exact h2 rfl
  rw [hgr.block g hlt (fun e => hne e.symm)]
  exact hg
set_option maxHeartbeats 1000000 in
set_option maxRecDepth 100000 in
theorem check_calls (B b : Nat) (bs : List Value) (w : World) (h : Lib.IsBuilder 63 5 B b bs w) :
    Calls Tryd.prog 65 #[.pointer (some ⟨b, 0, none⟩)] w fun e w1 => e = .returned (.tuple #[]) ∧ Lib.BuilderAt 63 5 B b (.pointer (some ⟨b, 0, none⟩)) bs w1 ∧ Below B w w1 ∧ KeepB w w1 := by
  obtain ⟨j, hj, hjs⟩ := Option.map_eq_some_iff.1 (show (Tryd.prog.info? 63).map (·.size) = some 2 by kernel_rfl)
  have hlies : liesAt Tryd.prog Tryd.prog.depth 63 (2 / Tryd.prog.cellsOf 63) 0 63 1 = true := by kernel_rfl
  rcases h with h | h
  · have h0 := h.cell0
    have hsh := h.shape
    have hfz := h.frozen0
    go_enter Tryd.func65, Tryd.ntmps65
    go_wp2
    rw [Lib.run_to_unsafe w ⟨b, 0, none⟩ Tryd.underlying61 Tryd.underlying91 hj (by rw [hjs]; decide) hsh (Nat.zero_lt_succ 1)]
    simp only [Result.andThen]
    rw [Oper.upon_value]
    go_wp2
    rw [run_callFunc_extern Tryd.func74 (by kernel_rfl) (by kernel_rfl) (by kernel_rfl) (e := Extern.AbiNoEscape.same) (by kernel_rfl), Lib.run_noEscape]
    simp only [Result.andThen]
    rw [Oper.upon_value]
    go_wp2
    rw [Lib.run_from_unsafe w ⟨b, 0, none⟩ Tryd.underlying91 Tryd.underlying61 hj hsh hlies]
    simp only [Result.andThen]
    rw [Oper.upon_value]
    go_wp2
    go_end0
    exact ⟨rfl, h.used _, (Below.refl B w).setCell (p := ⟨b, 0, none⟩) h.1 _, KeepB.set (h.2.choose_spec.1)⟩
  · have h0 := h.cell0
    go_enter Tryd.func65, Tryd.ntmps65
    go_wp2
    rw [Lib.run_neq_ptr_same w _ Tryd.underlying61 hj]
    go_wp2
    go_end0
    exact ⟨rfl, h, Below.refl B w, KeepB.refl w⟩
theorem byteCells_append (a c : List UInt8) : Lib.byteCells a ++ Lib.byteCells c = Lib.byteCells (a ++ c) := by simp [Lib.byteCells]
theorem info_u8 : (Tryd.prog.info? 5).map (fun i => (i.zero, i.size, i.bytes)) = some (some (.int .u8 0), 1, 1) := by kernel_rfl
set_option maxHeartbeats 2000000 in
set_option maxRecDepth 100000 in
theorem writeByte_calls (B b : Nat) (l : List UInt8) (c : UInt8) (w : World) (h : Bd B b l w) (hlen : l.length + 1 ≤ 140737488355328) (hBw : B ≤ w.heap.size) :
    Calls Tryd.prog 48 #[.pointer (some ⟨b, 0, none⟩), .int .u8 (c.toNat : Int)] w fun e w1 => e = .returned .nilIface ∧ Bd B b (l ++ [c]) w1 ∧ Below B w w1 ∧ KeepB w w1 := by
  obtain ⟨i0, hi, hz0, hz1, hz2⟩ := info_parts info_u8
  have hbl : (Lib.byteCells l).length = l.length := Lib.byteCells_length l
  go_enter Tryd.func48, Tryd.ntmps48
  go_wp2_with (go_at_call 65; refine (check_calls B b (Lib.byteCells l) _ h).mono ?_)
  rintro e w1 ⟨rfl, h1, hb1, hk1⟩
  obtain ⟨hB, v, hbk, hown, hne⟩ := h1
  have c0 : w1.cell? ⟨b, 0, none⟩ = some (.pointer (some ⟨b, 0, none⟩)) := by rw [Lib.cell_of_heap hbk]; rfl
  have c1 : w1.cell? ⟨b, 1, none⟩ = some v := by rw [Lib.cell_of_heap hbk]; rfl
  go_wp2_with (at_builtin; refine wpList_append_own _ rfl _ _ 24 rfl B 5 i0 (.int .u8 0) 1 1 Tryd.underlying24 hi hz0 hz1 hz2 rfl (by decide) _ _ _ rfl (hown.alloc _) ⟨w1.heap.size, 0, none⟩ 1 1 [.int .u8 (c.toNat : Int)] rfl rfl ?c1 ?c2 ?c3 ?c4 ?c5 ?_)
  case c1 =>
    intro j u hj
    match j, hj with
    | 0, hj => simp at hj; subst hj; simp [Addr.add]
  case c2 => intro u hu; simp at hu; subst hu; rfl
  case c3 => unfold maxLen; omega
  case c4 => omega
  case c5 => have := hb1.size; simp; omega
  intro v2 w2 hown2 hgrow _
  have hlt : b < w1.heap.size := Lib.BuilderAt.lt ⟨hB, v, hbk, hown, hne⟩
  have hb2 : w2.heap[b]? = some (.cells #[.pointer (some ⟨b, 0, none⟩), v] 63 (0, 0)) := by
    rw [hgrow.block b (by simp; omega) (fun e => hne e.symm), Lib.alloc_old w1 _ b hlt]
    exact hbk
  have d0 : w2.cell? ⟨b, 0, none⟩ = some (.pointer (some ⟨b, 0, none⟩)) := by rw [Lib.cell_of_heap hb2]; rfl
  have d1 : w2.cell? ⟨b, 1, none⟩ = some v := by rw [Lib.cell_of_heap hb2]; rfl
  have f1 : w2.frozen? ⟨b, 1, none⟩ = false := Lib.frozen_of_heap hb2 1
  obtain ⟨ao, n2, cap, rfl⟩ : ∃ ao n2 cap, v2 = .slice ao n2 cap := by
    rcases hown2.2 with ⟨hv, _⟩ | ⟨g, cap, cur, hv, _⟩
    · exact ⟨_, _, _, hv⟩
    · exact ⟨_, _, _, hv⟩
  go_wp2
  go_ret
  refine ⟨rfl, .inr ?_, ?_, ?_⟩
  · have h5 := Lib.BuilderAt.put (T := 63) (e := 5) (bs' := Lib.byteCells l ++ [.int .u8 (c.toNat : Int)]) hB hb2 (by rw [List.length_append, hbl]; simpa [hbl] using hown2) (by decide)
    rw [show Lib.byteCells l ++ [Value.int .u8 (c.toNat : Int)] = Lib.byteCells (l ++ [c]) from byteCells_append l [c]] at h5
    exact h5
  · exact ((hb1.alloc (by have := hb1.size; omega) _).grown hgrow (by have := hb1.size; simp; omega) (fun k hk => (hown.lt k hk).1)).setCell (p := ⟨b, 1, none⟩) hB _
  · exact ((hk1.trans (KeepB.alloc w1 _)).trans (KeepB.grown (hown.alloc _) hgrow)).trans (KeepB.set hb2)
set_option maxHeartbeats 2000000 in
set_option maxRecDepth 100000 in
theorem writeString_calls (B b : Nat) (l : List UInt8) (s : ByteArray) (w : World) (h : Bd B b l w) (hlen : l.length + s.size ≤ 140737488355328) (hBw : B ≤ w.heap.size) :
    Calls Tryd.prog 45 #[.pointer (some ⟨b, 0, none⟩), .string s] w fun e w1 => e = .returned (.tuple #[.int .i64 s.size, .nilIface]) ∧ Bd B b (l ++ s.data.toList) w1 ∧ Below B w w1 ∧ KeepB w w1 := by
  obtain ⟨i0, hi, hz0, hz1, hz2⟩ := info_parts info_u8
  have hbl : (Lib.byteCells l).length = l.length := Lib.byteCells_length l
  go_enter Tryd.func45, Tryd.ntmps45
  go_wp2_with (go_at_call 65; refine (check_calls B b (Lib.byteCells l) _ h).mono ?_)
  rintro e w1 ⟨rfl, h1, hb1, hk1⟩
  obtain ⟨hB, v, hbk, hown, hne⟩ := h1
  have c0 : w1.cell? ⟨b, 0, none⟩ = some (.pointer (some ⟨b, 0, none⟩)) := by rw [Lib.cell_of_heap hbk]; rfl
  have c1 : w1.cell? ⟨b, 1, none⟩ = some v := by rw [Lib.cell_of_heap hbk]; rfl
  go_wp2_with (at_builtin; refine Lib.wpList_append_own_string _ rfl _ _ 24 9 rfl B 5 i0 Tryd.underlying24 Tryd.underlying9 hi hz0 hz1 hz2 _ _ _ rfl hown s rfl ?c3 ?c4 ?c5 ?_)
  case c3 => unfold maxLen; omega
  case c4 => omega
  case c5 => have := hb1.size; omega
  intro v2 w2 hown2 hgrow _
  have hlt : b < w1.heap.size := Lib.BuilderAt.lt ⟨hB, v, hbk, hown, hne⟩
  have hb2 : w2.heap[b]? = some (.cells #[.pointer (some ⟨b, 0, none⟩), v] 63 (0, 0)) := by
    rw [hgrow.block b hlt (fun e => hne e.symm)]
    exact hbk
  have d0 : w2.cell? ⟨b, 0, none⟩ = some (.pointer (some ⟨b, 0, none⟩)) := by rw [Lib.cell_of_heap hb2]; rfl
  have d1 : w2.cell? ⟨b, 1, none⟩ = some v := by rw [Lib.cell_of_heap hb2]; rfl
  have f1 : w2.frozen? ⟨b, 1, none⟩ = false := Lib.frozen_of_heap hb2 1
  obtain ⟨ao, n2, cap, rfl⟩ : ∃ ao n2 cap, v2 = .slice ao n2 cap := by
    rcases hown2.2 with ⟨hv, _⟩ | ⟨g, cap, cur, hv, _⟩
    · exact ⟨_, _, _, hv⟩
    · exact ⟨_, _, _, hv⟩
  go_wp2
  go_ret2
  refine ⟨rfl, .inr ?_, ?_, ?_⟩
  · have h5 := Lib.BuilderAt.put (T := 63) (e := 5) (bs' := Lib.byteCells l ++ Lib.strCells s) hB hb2 (by rw [List.length_append, hbl, Lib.strCells_length]; simpa [hbl] using hown2) (by decide)
    rw [show Lib.byteCells l ++ Lib.strCells s = Lib.byteCells (l ++ s.data.toList) from byteCells_append l s.data.toList] at h5
    exact h5
  · exact (hb1.grown hgrow (by have := hb1.size; omega) (fun k hk => (hown.lt k hk).1)).setCell (p := ⟨b, 1, none⟩) hB _
  · exact (hk1.trans (KeepB.grown hown hgrow)).trans (KeepB.set hb2)
end Go.Proofs.YtfhnpphceeoeeaaDoor.PX
/- frame.Format: what it computes, and that the call computes it. -/
namespace Go.Proofs.YtfhnpphceeoeeaaDoor.PX
open Go.RowKit Go.Proofs.YtfhnpphceeoeeaaDoorW.PrintWords Go.Proofs.YtfhnpphceeoeeaaDoorW.PrintLast Go.Proofs.YtfhnpphceeoeeaaDoorW.PrintMore
set_option linter.unusedVariables false
set_option linter.unusedSimpArgs false
theorem wp_gen3 {c : Code} {a : Act} {w : World} {K : Exit → Act → World → Prop} (Q : World → Prop) (h : Q w) (h2 : ∀ w', Q w' → Code.wp Tryd.prog c K a w') : Code.wp Tryd.prog c K a w := h2 w h
def nmT : ByteArray := ⟨#[100, 97, 116, 97, 32, 97, 99, 107, 32, 111, 102, 102, 101, 114, 32, 99, 104, 117, 110, 107, 32, 119, 97, 110, 116, 32, 114, 117, 110, 110, 105, 110, 103]⟩
def nmL : List ByteArray := [(⟨#[100, 97, 116, 97]⟩ : ByteArray), (⟨#[97, 99, 107]⟩ : ByteArray), (⟨#[111, 102, 102, 101, 114]⟩ : ByteArray), (⟨#[99, 104, 117, 110, 107]⟩ : ByteArray), (⟨#[119, 97, 110, 116]⟩ : ByteArray), (⟨#[114, 117, 110, 110, 105, 110, 103]⟩ : ByteArray)]
theorem nm_fields : fieldsB nmT = nmL := by kernel_rfl
def dgT : ByteArray := ⟨#[48, 49, 50, 51, 52, 53, 54, 55, 56, 57, 97, 98, 99, 100, 101, 102]⟩
/-- The two digits of a byte. -/
def hexB (x : Int) : List UInt8 := [UInt8.ofNat (bt dgT (x / 16)).toNat, UInt8.ofNat (bt dgT (x % 16)).toNat]
/-- The bytes that the loop writes. -/
def hexL : List Int → List UInt8
  | [] => []
  | x :: r => hexB x ++ hexL r
def bodyL (l : List Int) : List UInt8 := if l = [] then [] else 32 :: hexL l
def fmtL (a0 a1 : Int) (l : List Int) : List UInt8 := (rdOf ByteArray.empty nmL (a0 - 1)).data.toList ++ (32 :: Lib.itoa a1) ++ bodyL l
def bytesB (l : List Int) : Bool := l.all (fun x => decide (0 ≤ x) && decide (x ≤ 255))
def frame_Format.f (a0 a1 : Int) (l : List Int) : Option ByteArray := if bytesB l = true then (frame_Valid.f a0 a1 l).bind fun v => if v = true then some ⟨(fmtL a0 a1 l).toArray⟩ else some (⟨#[105, 110, 118, 97, 108, 105, 100]⟩ : ByteArray) else none
theorem hexL_app (a b : List Int) : hexL (a ++ b) = hexL a ++ hexL b := by
  induction a with
  | nil => rfl
  | cons x r ih => rw [List.cons_append, hexL, hexL, ih, List.append_assoc]
theorem bodyL_snoc (l : List Int) (x : Int) : bodyL (l ++ [x]) = bodyL l ++ ((if l = [] then [32] else []) ++ hexB x) := by
  cases l with
  | nil => rfl
  | cons y r =>
    unfold bodyL
    rw [if_neg (by simp), if_neg (by simp), if_neg (by simp), hexL_app, List.nil_append, List.cons_append]
    show 32 :: (hexL (y :: r) ++ (hexB x ++ [])) = _
    rw [List.append_nil]
theorem hexL_len (l : List Int) : (hexL l).length = 2 * l.length := by
  induction l with
  | nil => rfl
  | cons x r ih => rw [hexL, List.length_append, ih, List.length_cons]; show 2 + _ = _; omega
theorem bodyL_len (l : List Int) : (bodyL l).length ≤ 1 + 2 * l.length := by
  unfold bodyL
  split
  · simp
  · rw [List.length_cons, hexL_len]; omega
theorem writeByteI (B b : Nat) (l : List UInt8) (v : Int) (w : World) (h0 : 0 ≤ v) (h1 : v ≤ 255) (h : Bd B b l w) (hlen : l.length + 1 ≤ 140737488355328) (hBw : B ≤ w.heap.size) :
    Calls Tryd.prog 48 #[.pointer (some ⟨b, 0, none⟩), .int .u8 v] w fun e w1 => e = .returned .nilIface ∧ Bd B b (l ++ [UInt8.ofNat v.toNat]) w1 ∧ Below B w w1 ∧ KeepB w w1 := by
  have hc : (((UInt8.ofNat v.toNat).toNat : Nat) : Int) = v := by rw [UInt8.toNat_ofNat']; omega
  have := writeByte_calls B b l (UInt8.ofNat v.toNat) w h hlen hBw
  rw [hc] at this
  exact this
theorem nm_all : nmL.all (fun x => decide (x.size ≤ 100)) = true := by kernel_rfl
theorem nm_small (i : Int) : (rdOf ByteArray.empty nmL i).size ≤ 100 := by
  unfold rdOf
  rw [List.getD_eq_getElem?_getD]
  cases h : nmL[i.toNat]? with
  | none => exact Nat.zero_le _
  | some x => exact of_decide_eq_true (List.all_eq_true.mp nm_all x (List.mem_of_getElem? h))
theorem itoa_calls (n : Int) (w : World) (h0 : 0 ≤ n) (h1 : n ≤ 2147483647) (st : ByteArray) (hst : st = ⟨(Lib.itoa n).toArray⟩) (hG : GW w) :
    Calls Tryd.prog 47 #[.int .i64 n] w fun e w' => e = .returned (.string st) ∧ Below w.heap.size w w' := by
  refine (Tryd.strconv_Itoa n (by omega) (by omega) w hG.pow).mono ?_
  rintro e w1 ⟨rfl, k, os, rfl⟩
  exact ⟨by rw [hst], Lib.below_grow _ _ (Nat.le_refl _) k os⟩
theorem itoa_size (n : Int) (h0 : 0 ≤ n) (h1 : n ≤ 2147483647) (st : ByteArray) (hst : st = ⟨(Lib.itoa n).toArray⟩) : st.size ≤ 21 := by
  have := Lib.itoa_length_le n (by omega) (by omega)
  rw [hst]
  show (Lib.itoa n).toArray.size ≤ 21
  simpa using this
theorem Bd.drew {B b : Nat} {l : List UInt8} {w : World} (h : Bd B b l w) : Bd B b l w.drew := h
theorem getD_nat' (xs : List Int) (j : Nat) (h : j < xs.length) : rd xs (j : Int) = xs[j] := by
  unfold rd
  rw [Int.toNat_natCast, List.getD_eq_getElem?_getD, List.getElem?_eq_getElem h, Option.getD_some]
theorem bytes_at {l : List Int} (h : bytesB l = true) (j : Nat) (hj : j < l.length) : 0 ≤ l[j] ∧ l[j] ≤ 255 := by
  have := List.all_eq_true.mp h _ (List.getElem_mem hj)
  rw [Bool.and_eq_true, decide_eq_true_eq, decide_eq_true_eq] at this
  exact this
theorem wrap64_nat {j n : Nat} (h : j < n) (hn : n ≤ 9223372036854775807) : IntKind.i64.wrap ((j : Int) + 1) = ((j + 1 : Nat) : Int) := by
  rw [i64_w]
  unfold wrap64
  omega
theorem valid_true {a0 a1 : Int} {l : List Int} (h : frame_Valid.f a0 a1 l = some true) : 1 ≤ a0 ∧ a0 ≤ 6 ∧ 0 ≤ a1 ∧ a1 ≤ 2147483647 ∧ l.length ≤ 40 := by
  unfold frame_Valid.f frame_seq.f at h
  by_cases c1 : a0 ≥ 1
  case neg => rw [if_neg c1] at h; cases h
  by_cases c2 : a0 ≤ 6
  case neg => rw [if_pos c1, if_neg c2] at h; cases h
  by_cases c3 : a1 ≥ 0
  case neg => rw [if_pos c1, if_pos c2, if_neg c3, Option.bind_some, if_neg (by decide)] at h; cases h
  rw [if_pos c1, if_pos c2, if_pos c3, Option.bind_some] at h
  by_cases c4 : a1 ≤ 2147483647
  case neg => rw [if_neg (by rw [decide_eq_true_eq]; exact c4)] at h; cases h
  rw [if_pos (by rw [decide_eq_true_eq]; exact c4)] at h
  have h5 := of_decide_eq_true (Option.some.inj h)
  omega

set_option maxHeartbeats 8000000 in
set_option maxRecDepth 100000 in
theorem format_no (a0 a1 : Int) (A0 : Option Addr) (c0 : Nat) (l0 : List Int) (w : World) (hr0 : Kd.C (Kd.int .u8) w A0 l0.length l0) (hc0 : l0.length ≤ c0) (hv : frame_Valid.f a0 a1 l0 = some false) :
    Calls Tryd.prog 24 #[.agg #[.int .i64 a0, .int .i64 a1, .slice A0 l0.length c0]] w fun e w' => e = .returned (.string (⟨#[105, 110, 118, 97, 108, 105, 100]⟩ : ByteArray)) ∧ Below w.heap.size w w' := by
  have hu29 := Tryd.underlying29
  have HR0 := Aside0.mk hr0
  have HC0 := Aside0.mk hc0
  have HV := Aside0.mk hv
  have HB := Aside0.mk (Below.refl w.heap.size w)
  clear hr0 hc0 hv
  go_enter Tryd.func24, Tryd.ntmps24
  go_wp2_with (first | ((with_reducible refine gate_dst (N := 1) rfl ?_); refine box_event ?hg (N := 1) ?hd (cs := #[.int .i64 a0, .int .i64 a1, .slice A0 l0.length c0]) (t := 29) ?hr ?_; (case hd => rfl); (case hg => rfl); (case hr => first | (go_simp; done) | (go_simp; rfl)); intro gb hg w3 hbox hb; have n0_ := Aside0.mk (below_step (by repeat (first | (with_reducible first | exact HB.out | apply below_alloc | apply pw_below_drewN | apply below_drew1) | exact HB.out)) hb); have n1_ := Aside0.mk hbox; have n2_ := Aside0.mk ((by rw [hg]; exact (below_size (by repeat (first | (with_reducible first | exact HB.out | apply below_alloc | apply pw_below_drewN | apply below_drew1) | exact HB.out)))) : w.heap.size ≤ gb); clear HB; have HB := n0_; have BK := n1_; have GE := n2_; clear n0_ n1_ n2_; clear hb hbox hg; have hcz0 : w3.cell? ⟨gb, 0, none⟩ = some (.int .i64 a0) := (blk_cell BK.out 0).trans rfl; have hcz1 : w3.cell? ⟨gb, 1, none⟩ = some (.int .i64 a1) := (blk_cell BK.out 1).trans rfl; have hcz2 : w3.cell? ⟨gb, 2, none⟩ = some (.slice A0 l0.length c0) := (blk_cell BK.out 2).trans rfl) | ((with_reducible refine gate_callee (f := 22) rfl ?_); refine goesL_ (some 7) rfl rfl Tryd.func22 (by kernel_rfl) rfl #[.agg #[.int .i64 a0, .int .i64 a1, .slice A0 l0.length c0]] rfl (by (try simp only [List.map_toArray, List.map_cons, List.map_nil]); first | done | rfl | (simp only [List.length_drop, List.length_take]; rfl)) ?_; (with_reducible refine (frame_Valid.calls a0 a1 _ _ l0 false _ ?side1 ?side2 HV.out).mono ?_); (case side1 => repeat (first | exact (Kd.C_below HR0.out HB.out) | (with_reducible refine Kd.C_alloc ?_ _))); (case side2 => exact HC0.out); rintro e w4 ⟨rfl, hb⟩; refine ⟨_, rfl, ?_⟩; have n0_ := Aside0.mk (blk_below (g := gb) (o := .cells #[.int .i64 a0, .int .i64 a1, .slice A0 l0.length c0] 29 (0, 0)) (by (with_reducible repeat (first | refine blk_drewN ?_ _ | refine blk_drew ?_ | refine blk_alloc ?_ _)); exact BK.out) hb); have n1_ := Aside0.mk (below_step (by repeat (first | (with_reducible first | exact HB.out | apply below_alloc | apply pw_below_drewN | apply below_drew1) | exact HB.out)) hb); clear BK; clear HB; have BK := n0_; have HB := n1_; clear n0_ n1_ hb hcz0 hcz1 hcz2))
  go_ret
  exact ⟨rfl, HB.out⟩
set_option maxHeartbeats 8000000 in
set_option maxRecDepth 100000 in
theorem format_yes (a0 a1 : Int) (A0 : Option Addr) (c0 : Nat) (l0 : List Int) (w : World) (hr0 : Kd.C (Kd.int .u8) w A0 l0.length l0) (hc0 : l0.length ≤ c0) (hG : GW w) (hbt : bytesB l0 = true) (hv : frame_Valid.f a0 a1 l0 = some true) :
    Calls Tryd.prog 24 #[.agg #[.int .i64 a0, .int .i64 a1, .slice A0 l0.length c0]] w fun e w' => e = .returned (.string ⟨(fmtL a0 a1 l0).toArray⟩) ∧ Below w.heap.size w w' := by
  have hu29 := Tryd.underlying29
  obtain ⟨va, vb, vc, vd, ve⟩ := valid_true hv
  have HG := Aside0.mk hG
  have HR0 := Aside0.mk hr0
  have HC0 := Aside0.mk hc0
  have HV := Aside0.mk hv
  have HBT := Aside0.mk hbt
  have HB := Aside0.mk (Below.refl w.heap.size w)
  obtain ⟨ji, hji⟩ : ∃ ji : Int, IntKind.i64.wrap (a0 - 1) = ji := ⟨_, rfl⟩
  have hj2 : ji = a0 - 1 := by rw [← hji, i64_w]; unfold wrap64; omega
  have p0 := eq_true (show (0 : Int) ≤ ji by omega)
  have hnl : nmL.length = 6 := by kernel_rfl
  have q0 := eq_true (show ji < (nmL.length : Int) by omega)
  have q1 := eq_true (show ji.toNat < nmL.length by omega)
  clear hnl
  have hfl : fmtL a0 a1 l0 = (rdOf ByteArray.empty nmL ji).data.toList ++ (32 :: Lib.itoa a1) ++ bodyL l0 := by unfold fmtL; rw [hj2]
  have HFL := Aside0.mk hfl
  have HJ := Aside0.mk hj2
  have HV1 := Aside0.mk (And.intro vc vd)
  have HV0 := Aside0.mk (And.intro va vb)
  have HVE := Aside0.mk ve
  clear hr0 hc0 hv hG hbt hfl hj2 va vb vc vd ve
  go_enter Tryd.func24, Tryd.ntmps24
  go_upto_region 4 with (first | ((with_reducible refine gate_dst (N := 1) rfl ?_); refine box_event ?hg (N := 1) ?hd (cs := #[.int .i64 a0, .int .i64 a1, .slice A0 l0.length c0]) (t := 29) ?hr ?_; (case hd => rfl); (case hg => rfl); (case hr => first | (go_simp; done) | (go_simp; rfl)); intro gb hg w3 hbox hb; have n0_ := Aside0.mk (below_step (by repeat (first | (with_reducible first | exact HB.out | apply below_alloc | apply pw_below_drewN | apply below_drew1) | exact HB.out)) hb); have n1_ := Aside0.mk hbox; have n2_ := Aside0.mk ((by rw [hg]; exact (below_size (by repeat (first | (with_reducible first | exact HB.out | apply below_alloc | apply pw_below_drewN | apply below_drew1) | exact HB.out)))) : w.heap.size ≤ gb); clear HB; have HB := n0_; have BK := n1_; have GE := n2_; clear n0_ n1_ n2_; clear hb hbox hg; have hcz0 : w3.cell? ⟨gb, 0, none⟩ = some (.int .i64 a0) := (blk_cell BK.out 0).trans rfl; have hcz1 : w3.cell? ⟨gb, 1, none⟩ = some (.int .i64 a1) := (blk_cell BK.out 1).trans rfl; have hcz2 : w3.cell? ⟨gb, 2, none⟩ = some (.slice A0 l0.length c0) := (blk_cell BK.out 2).trans rfl) | ((with_reducible refine gate_callee (f := 22) rfl ?_); refine goesL_ (some 7) rfl rfl Tryd.func22 (by kernel_rfl) rfl #[.agg #[.int .i64 a0, .int .i64 a1, .slice A0 l0.length c0]] rfl (by (try simp only [List.map_toArray, List.map_cons, List.map_nil]); first | done | rfl | (simp only [List.length_drop, List.length_take]; rfl)) ?_; (with_reducible refine (frame_Valid.calls a0 a1 _ _ l0 true _ ?side1 ?side2 HV.out).mono ?_); (case side1 => repeat (first | exact (Kd.C_below HR0.out HB.out) | (with_reducible refine Kd.C_alloc ?_ _))); (case side2 => exact HC0.out); rintro e w4 ⟨rfl, hb⟩; refine ⟨_, rfl, ?_⟩; have n0_ := Aside0.mk (blk_below (g := gb) (o := .cells #[.int .i64 a0, .int .i64 a1, .slice A0 l0.length c0] 29 (0, 0)) (by (with_reducible repeat (first | refine blk_drewN ?_ _ | refine blk_drew ?_ | refine blk_alloc ?_ _)); exact BK.out) hb); have n1_ := Aside0.mk (below_step (by repeat (first | (with_reducible first | exact HB.out | apply below_alloc | apply pw_below_drewN | apply below_drew1) | exact HB.out)) hb); clear BK; clear HB; have BK := n0_; have HB := n1_; clear n0_ n1_ hb hcz0 hcz1 hcz2))
  have hbd : Bd w.heap.size w4.heap.size [] (w4.alloc (.cells #[.pointer none, .slice none 0 0] 63)) := by
    refine .inl ⟨below_size HB.out, .slice none 0 0, ?_, ?_, by simp [Value.ownBlock]⟩
    · exact Array.getElem?_push_size
    · exact ⟨rfl, .inl ⟨rfl, rfl⟩⟩
  refine wp_gen3 (Q := fun wz => Aside0 (Below w.heap.size w wz) ∧ Aside0 (wz.heap[gb]? = some (.cells #[.int .i64 a0, .int .i64 a1, .slice A0 l0.length c0] 29 (0, 0))) ∧ Aside0 (Bd w.heap.size w4.heap.size [] wz)) ⟨⟨below_alloc HB.out _⟩, ⟨blk_alloc BK.out _⟩, ⟨hbd⟩⟩ ?_
  clear hbd HB BK
  generalize w4.heap.size = bb
  intro wz hz
  obtain ⟨HB, BK, HD⟩ := hz
  have hcz0 : wz.cell? ⟨gb, 0, none⟩ = some (.int .i64 a0) := (blk_cell BK.out 0).trans rfl
  have hcz1 : wz.cell? ⟨gb, 1, none⟩ = some (.int .i64 a1) := (blk_cell BK.out 1).trans rfl
  have hcz2 : wz.cell? ⟨gb, 2, none⟩ = some (.slice A0 l0.length c0) := (blk_cell BK.out 2).trans rfl
  go_region_with (first | (go_at_call 46; (refine (fields_calls nmT _ (of_decide_eq_true (by kernel_rfl)) (by kernel_rfl) (by rw [nm_fields]; decide) (GW.below HG.out (by repeat (first | (with_reducible first | exact HB.out | apply below_alloc | apply pw_below_drewN | apply below_drew1) | exact HB.out)))).mono ?_); rintro e w5 ⟨v0, rfl, hr, hb⟩; rw [nm_fields] at hr; obtain ⟨ad, cc, rfl⟩ := Kd.R_slice1 hr (by decide); have n0_ := Aside0.mk (below_step (by repeat (first | (with_reducible first | exact HB.out | apply below_alloc | apply pw_below_drewN | apply below_drew1) | exact HB.out)) hb); have n1_ := Aside0.mk (blk_below (by (with_reducible repeat (first | refine blk_drewN ?_ _ | refine blk_drew ?_)); exact BK.out) hb); have n2_ := Aside0.mk (Bd.below (by first | exact HD.out | exact Bd.drew HD.out) hb); clear HB BK HD hcz0 hcz1 hcz2; have HB := n0_; have BK := n1_; have HD := n2_; clear n0_ n1_ n2_ hb; obtain ⟨ad2, e2, hx⟩ := Kd.at_string (Kd.R_reads' hr).2.2 ji (of_eq_true p0) (of_eq_true q0); obtain rfl := Option.some.inj e2; clear e2 hr; have hcz0 : w5.cell? ⟨gb, 0, none⟩ = some (.int .i64 a0) := (blk_cell BK.out 0).trans rfl; have hcz1 : w5.cell? ⟨gb, 1, none⟩ = some (.int .i64 a1) := (blk_cell BK.out 1).trans rfl; have hcz2 : w5.cell? ⟨gb, 2, none⟩ = some (.slice A0 l0.length c0) := (blk_cell BK.out 2).trans rfl) | (go_at_call 45; refine (writeString_calls w.heap.size bb _ _ _ HD.out ?s1 ?s2).mono ?_; (case s1 => have := nm_small ji; rw [List.length_nil]; omega); (case s2 => exact below_size HB.out); rintro e w6 ⟨rfl, hd, hb, hk⟩; have n0_ := Aside0.mk (HB.out.trans hb); have n1_ := Aside0.mk (hk 29 _ _ (by decide) (by decide) BK.out); have n2_ := Aside0.mk hd; clear HB BK HD hb hk hd hcz0 hcz1 hcz2; have HB := n0_; have BK := n1_; have HD := n2_; clear n0_ n1_ n2_; have hcz0 : w6.cell? ⟨gb, 0, none⟩ = some (.int .i64 a0) := (blk_cell BK.out 0).trans rfl; have hcz1 : w6.cell? ⟨gb, 1, none⟩ = some (.int .i64 a1) := (blk_cell BK.out 1).trans rfl; have hcz2 : w6.cell? ⟨gb, 2, none⟩ = some (.slice A0 l0.length c0) := (blk_cell BK.out 2).trans rfl))
  all_goals
    clear hx
    obtain ⟨st, hst⟩ : ∃ st : ByteArray, st = ⟨(Lib.itoa a1).toArray⟩ := ⟨_, rfl⟩
    have hss := itoa_size a1 HV1.out.1 HV1.out.2 st hst
    have z0 : (9223372036854775807 < 1 + st.size) = False := eq_false (by omega)
    have HST := Aside0.mk hst
    have HSS := Aside0.mk hss
    clear hst hss
    go_wp2_with (first | (go_at_call 47; (refine (itoa_calls a1 _ HV1.out.1 HV1.out.2 st HST.out (GW.below HG.out (by repeat (first | (with_reducible first | exact HB.out | apply below_alloc | apply pw_below_drewN | apply below_drew1) | exact HB.out)))).mono ?_); rintro e w7 ⟨rfl, hb⟩; have n0_ := Aside0.mk (below_step (by repeat (first | (with_reducible first | exact HB.out | apply below_alloc | apply pw_below_drewN | apply below_drew1) | exact HB.out)) hb); have n1_ := Aside0.mk (blk_below (by (with_reducible repeat (first | refine blk_drewN ?_ _ | refine blk_drew ?_)); exact BK.out) hb); have n2_ := Aside0.mk (Bd.below (by first | exact HD.out | exact Bd.drew HD.out) hb); clear HB BK HD hcz0 hcz1 hcz2; have HB := n0_; have BK := n1_; have HD := n2_; clear n0_ n1_ n2_ hb; have hcz0 : w7.cell? ⟨gb, 0, none⟩ = some (.int .i64 a0) := (blk_cell BK.out 0).trans rfl; have hcz1 : w7.cell? ⟨gb, 1, none⟩ = some (.int .i64 a1) := (blk_cell BK.out 1).trans rfl; have hcz2 : w7.cell? ⟨gb, 2, none⟩ = some (.slice A0 l0.length c0) := (blk_cell BK.out 2).trans rfl) | (go_at_call 45; refine (writeString_calls w.heap.size bb _ _ _ HD.out ?s1 ?s2).mono ?_; (case s1 => have h1_ := nm_small ji; have h2_ := HSS.out; rw [List.length_append, List.length_nil, data_length, ByteArray.size_append]; show 0 + _ + (1 + _) ≤ _; omega); (case s2 => exact below_size HB.out); rintro e w8 ⟨rfl, hd, hb, hk⟩; have n0_ := Aside0.mk (HB.out.trans hb); have n1_ := Aside0.mk (hk 29 _ _ (by decide) (by decide) BK.out); have n2_ := Aside0.mk hd; clear HB BK HD hb hk hd hcz0 hcz1 hcz2; have HB := n0_; have BK := n1_; have HD := n2_; clear n0_ n1_ n2_; have hcz0 : w8.cell? ⟨gb, 0, none⟩ = some (.int .i64 a0) := (blk_cell BK.out 0).trans rfl; have hcz1 : w8.cell? ⟨gb, 1, none⟩ = some (.int .i64 a1) := (blk_cell BK.out 1).trans rfl; have hcz2 : w8.cell? ⟨gb, 2, none⟩ = some (.slice A0 l0.length c0) := (blk_cell BK.out 2).trans rfl))
    obtain ⟨pre, hp⟩ : ∃ pre, pre = (rdOf ByteArray.empty nmL ji).data.toList ++ (32 :: Lib.itoa a1) := ⟨_, rfl⟩
    have hpre : ([] ++ (rdOf ByteArray.empty nmL ji).data.toList) ++ ((⟨#[32]⟩ : ByteArray) ++ st).data.toList = pre ++ bodyL (l0.take 0) := by
      rw [hp, HST.out, ByteArray.data_append, Array.toList_append, List.take_zero]
      show ([] ++ _) ++ ([32] ++ Lib.itoa a1) = (_ ++ (32 :: Lib.itoa a1)) ++ []
      rw [List.append_nil, List.nil_append]
      rfl
    have HFM : Aside0 (fmtL a0 a1 l0 = pre ++ bodyL l0) := ⟨by rw [HFL.out, hp]⟩
    have HPL : Aside0 (pre.length ≤ 200) := ⟨by rw [hp, List.length_append, List.length_cons, data_length]; have h1_ := nm_small ji; have h2_ := HSS.out; rw [HST.out] at h2_; have h3_ : (Lib.itoa a1).length ≤ 21 := (by simpa [ByteArray.size] using h2_); omega⟩
    have HPRE := Aside0.mk hpre
    clear hpre hp
    have HD0 : Aside0 (Bd w.heap.size bb (pre ++ bodyL (l0.take 0)) w8) := ⟨by rw [← HPRE.out]; exact HD.out⟩
    clear HD hcz0 hcz1 hcz2 HPRE HFL
    go_loopg [24] l0.length (fun kq v24 w' => ∃ (j : Nat), v24 = .int .i64 (j : Int) ∧ Aside0 (j + kq = l0.length) ∧ Aside0 (Bd w.heap.size bb (pre ++ bodyL (l0.take j)) w') ∧ Aside0 (Below w.heap.size w w'))
    case atStart => exact ⟨0, rfl, ⟨by omega⟩, HD0, HB⟩
    case round =>
      clear HB HD0 BK
      obtain ⟨j, rfl, HA, HD, HB⟩ := hrel
      by_cases c2 : (j : Int) < (l0.length : Int)
      · have hjn : j < l0.length := by omega
        have c2b0 : decide ((j : Int) < (l0.length : Int)) = true := decide_eq_true c2
        have c2n : decide (j < l0.length) = true := decide_eq_true hjn
        obtain ⟨ad, ead, hx⟩ := ReadsOf.at_ (Kd.reads_of_C (d := 0) HR0.out) (j : Int) (by omega) (by omega)
        cases ead
        rw [Int.toNat_natCast] at hx
        rw [show rdOf 0 l0 (j : Int) = l0[j] from getD_nat' l0 j hjn] at hx
        replace hx := (HB.out.cell (World.block_lt_of_cell? w _ hx)).trans hx
        obtain ⟨x0, x1⟩ := bytes_at HBT.out j hjn
        have pj := eq_true (show (0 : Int) ≤ (j : Int) by omega)
        have qj := eq_true c2
        have qjn := eq_true hjn
        clear c2
        have hwr := wrap64_nat hjn (show l0.length ≤ 9223372036854775807 by have := HVE.out; omega)
        have hbx := bt_at dgT (l0[j] / 16)
        have hby := bt_at dgT (l0[j] % 16)
        have d0 := eq_true (show (0 : Int) ≤ l0[j] / 16 by omega)
        have d1 := eq_true (show l0[j] / 16 < (16 : Int) by omega)
        have d2 := eq_true (show (l0[j] / 16).toNat < 16 by omega)
        have e0 := eq_true (show (0 : Int) ≤ l0[j] % 16 by omega)
        have e1 := eq_true (show l0[j] % 16 < (16 : Int) by omega)
        have e2 := eq_true (show (l0[j] % 16).toNat < 16 by omega)
        have hlen : (bodyL (l0.take j)).length ≤ 200 := by have h1_ := bodyL_len (l0.take j); have h2_ := HVE.out; rw [List.length_take] at h1_; omega
        have HL0 : Aside0 ((pre ++ bodyL (l0.take j)).length + 1 ≤ 1000) := ⟨by have := HPL.out; rw [List.length_append]; omega⟩
        have hsn : pre ++ bodyL (l0.take (j + 1)) = (pre ++ bodyL (l0.take j)) ++ ((if l0.take j = [] then [32] else []) ++ hexB l0[j]) := by rw [List.take_succ_eq_append_getElem hjn, bodyL_snoc, List.append_assoc]
        have hs1 : (l0[j] / 16).toNat < dgT.size := by show _ < 16; omega
        have hs2 : (l0[j] % 16).toNat < dgT.size := by show _ < 16; omega
        cases gk with
        | zero => exact absurd HA.out (by omega)
        | succ k2 =>
          by_cases hz : j = 0
          · have hzi : ((j : Int) == 0) = true := by rw [beq_iff_eq]; omega
            have hcond : l0.take j = [] := by rw [hz]; rfl
            have hf : pre ++ bodyL (l0.take (j + 1)) = ((pre ++ bodyL (l0.take j)) ++ [UInt8.ofNat (Int.toNat 32)] ++ [UInt8.ofNat (((dgT[(l0[j] / 16).toNat]'hs1).toNat : Int)).toNat]) ++ [UInt8.ofNat (((dgT[(l0[j] % 16).toNat]'hs2).toNat : Int)).toNat] := by rw [hsn, if_pos hcond, hexB, ← hbx hs1, ← hby hs2]; simp only [List.append_assoc, List.nil_append]; rfl
            have HF := Aside0.mk hf
            clear hz hcond hf hsn hbx hby
            go_wp2_with (go_at_call 48; refine (writeByteI w.heap.size bb _ _ _ ?h0 ?h1 HD.out ?s1 ?s2).mono ?_; (case h0 => first | decide | exact Int.natCast_nonneg _); (case h1 => first | decide | exact Int.ofNat_le.mpr (Nat.le_of_lt_succ (UInt8.toNat_lt _))); (case s1 => have h1_ := HL0.out; simp only [List.length_append, List.length_cons, List.length_nil] at h1_ ⊢; omega); (case s2 => exact below_size HB.out); rintro e w9 ⟨rfl, hd, hb, hk⟩; have n0_ := Aside0.mk (HB.out.trans hb); have n2_ := Aside0.mk hd; clear HB HD hb hk hd; have HB := n0_; have HD := n2_; clear n0_ n2_)
            go_roundg k2
            case measure => omega
            case rel => exact ⟨j + 1, by first | rfl | (simp; done) | (simp [*]; done) | exact congrArg (Value.int .i64) hwr, ⟨by have := HA.out; omega⟩, ⟨by rw [HF.out]; exact HD.out⟩, HB⟩
          · have hzi : ((j : Int) == 0) = false := by rw [beq_eq_false_iff_ne]; omega
            have hcond : ¬ (l0.take j = []) := by intro e; have := congrArg List.length e; rw [List.length_take, List.length_nil] at this; omega
            have hf : pre ++ bodyL (l0.take (j + 1)) = ((pre ++ bodyL (l0.take j)) ++ [UInt8.ofNat (((dgT[(l0[j] / 16).toNat]'hs1).toNat : Int)).toNat]) ++ [UInt8.ofNat (((dgT[(l0[j] % 16).toNat]'hs2).toNat : Int)).toNat] := by rw [hsn, if_neg hcond, hexB, ← hbx hs1, ← hby hs2]; simp only [List.append_assoc, List.nil_append]; rfl
            have HF := Aside0.mk hf
            clear hz hcond hf hsn hbx hby
            go_wp2_with (go_at_call 48; refine (writeByteI w.heap.size bb _ _ _ ?h0 ?h1 HD.out ?s1 ?s2).mono ?_; (case h0 => first | decide | exact Int.natCast_nonneg _); (case h1 => first | decide | exact Int.ofNat_le.mpr (Nat.le_of_lt_succ (UInt8.toNat_lt _))); (case s1 => have h1_ := HL0.out; simp only [List.length_append, List.length_cons, List.length_nil] at h1_ ⊢; omega); (case s2 => exact below_size HB.out); rintro e w9 ⟨rfl, hd, hb, hk⟩; have n0_ := Aside0.mk (HB.out.trans hb); have n2_ := Aside0.mk hd; clear HB HD hb hk hd; have HB := n0_; have HD := n2_; clear n0_ n2_)
            go_roundg k2
            case measure => omega
            case rel => exact ⟨j + 1, by first | rfl | (simp; done) | (simp [*]; done) | exact congrArg (Value.int .i64) hwr, ⟨by have := HA.out; omega⟩, ⟨by rw [HF.out]; exact HD.out⟩, HB⟩
      · have c2b0 : decide ((j : Int) < (l0.length : Int)) = false := decide_eq_false c2
        have c2n : decide (j < l0.length) = false := decide_eq_false (by omega)
        have HD1 := HD.out
        rw [List.take_of_length_le (by omega), ← HFM.out] at HD1
        clear HD c2
        have HD := Aside0.mk HD1
        clear HD1
        go_wp2_with (first | (go_at_call 49; refine (Tryd.Builder_String_any w.heap.size bb _ _ HD.out (below_size HB.out)).mono ?_; rintro e w23 ⟨rfl, hb⟩))
        go_ret
        exact ⟨rfl, HB.out.trans hb⟩
theorem frame_Format.calls (a0_0 : Int) (a0_1 : Int) (A0_2 : Option Addr) (c0_2 : Nat) (l0_2 : List Int) (r : ByteArray) (w : World) (hr0_2 : Kd.C (Kd.int .u8) w A0_2 l0_2.length l0_2) (hc0_2 : l0_2.length ≤ c0_2) (hG : GW w) (h : frame_Format.f a0_0 a0_1 l0_2 = some r) :
    Calls Tryd.prog 24 #[.agg #[.int .i64 a0_0, .int .i64 a0_1, .slice A0_2 l0_2.length c0_2]] w fun e w' => e = .returned (.string r) ∧ Below w.heap.size w w' := by
  unfold frame_Format.f at h
  by_cases hb : bytesB l0_2 = true
  case neg => rw [if_neg hb] at h; cases h
  rw [if_pos hb] at h
  obtain ⟨v, hv, h⟩ := Option.bind_eq_some_iff.mp h
  cases v with
  | true =>
    rw [if_pos rfl] at h
    obtain rfl := Option.some.inj h
    exact format_yes a0_0 a0_1 A0_2 c0_2 l0_2 w hr0_2 hc0_2 hG hb hv
  | false =>
    rw [if_neg (by decide)] at h
    obtain rfl := Option.some.inj h
    exact format_no a0_0 a0_1 A0_2 c0_2 l0_2 w hr0_2 hc0_2 hv
end Go.Proofs.YtfhnpphceeoeeaaDoor.PX
-- Written by a program of this session (wip/xprint.py, over the kit's print tool). Lean checks it.
namespace Go.Proofs.YtfhnpphceeoeeaaDoor.PX
open Go.RowKit Go.Proofs.YtfhnpphceeoeeaaDoorW.PrintWords Go.Proofs.YtfhnpphceeoeeaaDoorW.PrintLast Go.Proofs.YtfhnpphceeoeeaaDoorW.PrintMore
attribute [local go_sem] max2_int min2_int max_two min_two max_three min_three max_four min_four   -- for this text's walks alone
set_option linter.unusedVariables false
set_option linter.unusedSimpArgs false

/-! ### tricklelaw43_wakes: function 11 -/
def tricklelaw43_wakes.f (k : Nat)  : Option (Bool) := (frame_Data.f k 5 (-2)).bind fun bt160 => ((frame_Encode.f k bt160.1 bt160.2.1 bt160.2.2).bind fun bt165 => (if bt165.2 = 0 then (if (bt165.1.length : Int) = 9 then (if 7 ≤ (bt165.1.length : Int) then (if (strOfNums (bt165.1.take 7)).toList = ([1, 5, 0, 0, 0, 254, 255] : List UInt8) then ((frame_Data.f k 5 (-2)).bind fun bt173 => ((frame_Format.f bt173.1 bt173.2.1 bt173.2.2).bind fun t178 => (some (t178.toList == ([100, 97, 116, 97, 32, 53, 32, 102, 101, 102, 102] : List UInt8))))) else (some false)) else (none)) else (some false)) else (some false)))
theorem tricklelaw43_wakes.mono : ∀ k, LeO (tricklelaw43_wakes.f k ) (tricklelaw43_wakes.f (k + 1) ) := by
  intro  k
  unfold tricklelaw43_wakes.f
  repeat' first
      | (with_reducible exact frame_Data.mono _ _ _)
      | (with_reducible exact frame_Encode.mono _ _ _ _)
      | (with_reducible exact LeO.refl _)
      | (with_reducible exact LeO.none _)
      | (with_reducible refine LeO.ite ?_ ?_)
      | (with_reducible refine LeO.bind ?_ (fun _ => ?_))
      | exact frame_Data.mono _ _ _
      | exact frame_Encode.mono _ _ _ _
      | exact LeO.none _
      | refine LeO.ite ?_ ?_
      | refine LeO.bind ?_ (fun _ => ?_)
set_option maxHeartbeats 8000000 in
set_option maxRecDepth 100000 in
theorem tricklelaw43_wakes.calls (k : Nat)  (r : Bool) (w : World) (hG : GW w) (h : tricklelaw43_wakes.f k  = some r) :
    Calls Tryd.prog 11 #[] w fun e w' => e = .returned (.bool r) ∧ Below w.heap.size w w' := by
  have HG := Aside0.mk hG
  clear hG
  have HB := Aside0.mk (Below.refl w.heap.size w)
  have H : ((frame_Data.f k 5 (-2)).bind fun bt160 => ((frame_Encode.f k bt160.1 bt160.2.1 bt160.2.2).bind fun bt165 => (if bt165.2 = 0 then (if (bt165.1.length : Int) = 9 then (if 7 ≤ (bt165.1.length : Int) then (if (strOfNums (bt165.1.take 7)).toList = ([1, 5, 0, 0, 0, 254, 255] : List UInt8) then ((frame_Data.f k 5 (-2)).bind fun bt173 => ((frame_Format.f bt173.1 bt173.2.1 bt173.2.2).bind fun t178 => (some (t178.toList == ([100, 97, 116, 97, 32, 53, 32, 102, 101, 102, 102] : List UInt8))))) else (some false)) else (none)) else (some false)) else (some false)))) = some r := h
  clear h
  replace H := Option.bind_eq_some_iff.mp H
  obtain ⟨⟨t160, t161, t162⟩, A10, H⟩ := H
  replace H : ((frame_Encode.f k t160 t161 t162).bind fun bt165 => (if bt165.2 = 0 then (if (bt165.1.length : Int) = 9 then (if 7 ≤ (bt165.1.length : Int) then (if (strOfNums (bt165.1.take 7)).toList = ([1, 5, 0, 0, 0, 254, 255] : List UInt8) then ((frame_Data.f k 5 (-2)).bind fun bt173 => ((frame_Format.f bt173.1 bt173.2.1 bt173.2.2).bind fun t178 => (some (t178.toList == ([100, 97, 116, 97, 32, 53, 32, 102, 101, 102, 102] : List UInt8))))) else (some false)) else (none)) else (some false)) else (some false))) = some r := H
  have A1 := Aside0.mk A10
  clear A10
  replace H := Option.bind_eq_some_iff.mp H
  obtain ⟨⟨t165, t168⟩, A20, H⟩ := H
  replace H : (if t168 = 0 then (if (t165.length : Int) = 9 then (if 7 ≤ (t165.length : Int) then (if (strOfNums (t165.take 7)).toList = ([1, 5, 0, 0, 0, 254, 255] : List UInt8) then ((frame_Data.f k 5 (-2)).bind fun bt173 => ((frame_Format.f bt173.1 bt173.2.1 bt173.2.2).bind fun t178 => (some (t178.toList == ([100, 97, 116, 97, 32, 53, 32, 102, 101, 102, 102] : List UInt8))))) else (some false)) else (none)) else (some false)) else (some false)) = some r := H
  have A2 := Aside0.mk A20
  clear A20
  by_cases c3 : t168 = 0
  · rw [if_pos c3] at H
    have c3b0 : (t168 == 0) = true := beq_iff_eq.mpr c3
    have c3b1 : (t168 != 0) = false := bne_eq_false_iff_eq.mpr c3
    clear c3
    by_cases c4 : (t165.length : Int) = 9
    · rw [if_pos c4] at H
      have c4b0 : ((t165.length : Int) == 9) = true := beq_iff_eq.mpr c4
      have c4b1 : ((t165.length : Int) != 9) = false := bne_eq_false_iff_eq.mpr c4
      clear c4
      by_cases c5 : 7 ≤ (t165.length : Int)
      · rw [if_pos c5] at H
        have c5b0 := eq_true c5
        have c5b1 : decide (7 ≤ (t165.length : Int)) = true := decide_eq_true c5
        clear c5
        obtain ⟨y169, hy169⟩ : ∃ y_ : List Int, y_ = (t165.take 7) := ⟨_, rfl⟩
        replace H : (if (strOfNums y169).toList = ([1, 5, 0, 0, 0, 254, 255] : List UInt8) then ((frame_Data.f k 5 (-2)).bind fun bt173 => ((frame_Format.f bt173.1 bt173.2.1 bt173.2.2).bind fun t178 => (some (t178.toList == ([100, 97, 116, 97, 32, 53, 32, 102, 101, 102, 102] : List UInt8))))) else (some false)) = some r := by first | (rw [hy169]; with_reducible exact H) | (have H2_ := (Option.bind_some _ _).symm.trans H; rw [hy169]; with_reducible exact H2_) | (have H2_ := (Option.bind_some _ _).symm.trans H; with_reducible exact H2_) | with_reducible exact H | (rw [hy169]; exact H) | exact H
        have Ny169 := Aside0.mk hy169
        clear hy169
        by_cases c6 : (strOfNums y169).toList = ([1, 5, 0, 0, 0, 254, 255] : List UInt8)
        · rw [if_pos c6] at H
          have c6b0 : ((strOfNums y169).toList == ([1, 5, 0, 0, 0, 254, 255] : List UInt8)) = true := beq_iff_eq.mpr c6
          have c6b1 : ((strOfNums y169).toList != ([1, 5, 0, 0, 0, 254, 255] : List UInt8)) = false := bne_eq_false_iff_eq.mpr c6
          clear c6
          replace H := Option.bind_eq_some_iff.mp H
          obtain ⟨⟨t173, t174, t175⟩, A70, H⟩ := H
          replace H : ((frame_Format.f t173 t174 t175).bind fun t178 => (some (t178.toList == ([100, 97, 116, 97, 32, 53, 32, 102, 101, 102, 102] : List UInt8)))) = some r := H
          have A7 := Aside0.mk A70
          clear A70
          replace H := Option.bind_eq_some_iff.mp H
          obtain ⟨t178, A80, H⟩ := H
          replace H : (some (t178.toList == ([100, 97, 116, 97, 32, 53, 32, 102, 101, 102, 102] : List UInt8))) = some r := H
          have A8 := Aside0.mk A80
          clear A80
          obtain rfl := Option.some.inj H
          go_enter Tryd.func11, Tryd.ntmps11
          go_wp2_with (first | ((with_reducible refine gate_callee (f := 13) rfl ?_); refine goesL_ (some 4) rfl rfl Tryd.func13 (by kernel_rfl) rfl #[.int .i64 5, .int .i16 (-2)] rfl (by (try simp only [List.map_toArray, List.map_cons, List.map_nil]); first | done | rfl | (simp only [List.length_drop, List.length_take]; rfl)) ?_; (with_reducible refine (frame_Data.calls k 5 (-2) t160 t161 t162 _ A1.out).mono ?_); rintro e w9 ⟨v163, rfl, ho0, hb⟩; refine ⟨_, rfl, ?_⟩; have n0_ := Aside0.mk (Kd.R_lower ho0 (below_size (by repeat (first | (with_reducible first | exact HB.out | apply below_alloc | apply pw_below_drewN | apply below_drew1) | exact HB.out)))); have n1_ := Aside0.mk (below_step (by repeat (first | (with_reducible first | exact HB.out | apply below_alloc | apply pw_below_drewN | apply below_drew1) | exact HB.out)) hb); clear HB; have HO164 := n0_; have HB := n1_; clear n0_ n1_; (try clear hb); (try clear hb2); (try clear hk); (try clear hi); (try clear ho0); obtain ⟨Ao10, co10, eo10⟩ := Kd.R_slice HO164.out; subst eo10) | ((with_reducible refine gate_callee (f := 20) rfl ?_); refine goesL_ (some 5) rfl rfl Tryd.func20 (by kernel_rfl) rfl #[.agg #[.int .i64 t160, .int .i64 t161, .slice Ao10 t162.length co10]] rfl (by (try simp only [List.map_toArray, List.map_cons, List.map_nil]); first | done | rfl | (simp only [List.length_drop, List.length_take]; rfl)) ?_; (with_reducible refine (frame_Encode.calls k t160 t161 _ _ t162 t165 t168 _ ?side1 ?side2 A2.out).mono ?_); (case side1 => repeat (first | exact (Kd.R_reads' HO164.out).2.2 | (with_reducible refine Kd.C_alloc ?_ _) | (with_reducible refine Kd.C_drewN ?_ _) | (with_reducible refine Kd.C_drew ?_))); (case side2 => exact (Kd.R_reads' HO164.out).2.1); rintro e w11 ⟨v166, rfl, ho0, hb⟩; refine ⟨_, rfl, ?_⟩; have n0_ := Aside0.mk (Kd.R_elder' (by (with_reducible repeat (first | apply Kd.R_alloc | apply Kd.R_drewN | apply Kd.R_drew)); exact HO164.out) (Kd.R_base ho0) hb); have n1_ := Aside0.mk (Kd.R_lower (Kd.R_new' ho0 (Kd.R_lt (by (with_reducible repeat (first | apply Kd.R_alloc | apply Kd.R_drewN | apply Kd.R_drew)); exact HO164.out))) (below_size (by repeat (first | (with_reducible first | exact HB.out | apply below_alloc | apply pw_below_drewN | apply below_drew1) | exact HB.out)))); have n2_ := Aside0.mk (below_step (by repeat (first | (with_reducible first | exact HB.out | apply below_alloc | apply pw_below_drewN | apply below_drew1) | exact HB.out)) hb); clear HO164; clear HB; have HO164 := n0_; have HO167 := n1_; have HB := n2_; clear n0_ n1_ n2_; (try clear hb); (try clear hb2); (try clear hk); (try clear hi); (try clear ho0); obtain ⟨Ao12, co12, eo12⟩ := Kd.R_slice HO167.out; subst eo12; have q13 : (7 : Int) ≤ ((t165.length : Int) : Int) := of_decide_eq_true (by first | (with_reducible assumption) | assumption); obtain ⟨i013, hi013, _, hsz13, _⟩ := info_parts info5; have hroom13 : t165.length ≤ co12 := (Kd.R_reads' HO167.out).2.1; have hC13 : Kd.C (Kd.int .u8) _ Ao12 t165.length t165 := (Kd.R_reads' HO167.out).2.2; have hcut13 := cut_to (P := Tryd.prog) 24 5 .i64 Tryd.underlying24 hi013 Ao12 t165.length co12 7 (by omega) q13 hroom13; have hr13 := Kd.C_take (m := 7) hC13 (by omega); have hy13 : y169.length = (7 : Int).toNat := (by rw [Ny169.out, List.length_take]; omega); rw [← Ny169.out] at hr13; rw [← hy13] at hcut13; have HR172 := Aside0.mk hr13; have HC172 := Aside0.mk (show y169.length ≤ co12 from by omega); clear hr13 hC13 hroom13 hi013 hsz13; have KY13 := Aside0.mk hy13; clear hy13; have KL13 := Aside0.mk (show 7 ≤ t165.length from by omega); replace q13 := eq_true q13; have hcv14 := Kd.C_string (P := Tryd.prog) (A := Ao12) (c := co12) Tryd.underlying24 Tryd.underlying5 Tryd.underlying9 (by repeat (first | (with_reducible exact HR172.out) | (with_reducible refine Kd.C_alloc ?_ _) | (with_reducible refine Kd.C_drewN ?_ _) | (with_reducible refine Kd.C_drew ?_) | exact HR172.out))) | (go_at_call 13; (with_reducible refine (frame_Data.calls k 5 (-2) t173 t174 t175 _ A7.out).mono ?_); rintro e w15 ⟨v176, rfl, ho0, hb⟩; have n0_ := Aside0.mk (Kd.R_elder' (by (with_reducible repeat (first | apply Kd.R_alloc | apply Kd.R_drewN | apply Kd.R_drew)); exact HO164.out) (Kd.R_base ho0) hb); have n1_ := Aside0.mk (Kd.R_elder' (by (with_reducible repeat (first | apply Kd.R_alloc | apply Kd.R_drewN | apply Kd.R_drew)); exact HO167.out) (Kd.R_base ho0) hb); have n2_ := Aside0.mk (Kd.R_lower (Kd.R_new' (Kd.R_new' ho0 (Kd.R_lt (by (with_reducible repeat (first | apply Kd.R_alloc | apply Kd.R_drewN | apply Kd.R_drew)); exact HO164.out))) (Kd.R_lt (by (with_reducible repeat (first | apply Kd.R_alloc | apply Kd.R_drewN | apply Kd.R_drew)); exact HO167.out))) (below_size (by repeat (first | (with_reducible first | exact HB.out | apply below_alloc | apply pw_below_drewN | apply below_drew1) | exact HB.out)))); have n3_ := Aside0.mk (Kd.C_below (by repeat (first | (with_reducible exact HR172.out) | (with_reducible refine Kd.C_alloc ?_ _) | (with_reducible refine Kd.C_drewN ?_ _) | (with_reducible refine Kd.C_drew ?_) | exact HR172.out)) hb); have n4_ := Aside0.mk (below_step (by repeat (first | (with_reducible first | exact HB.out | apply below_alloc | apply pw_below_drewN | apply below_drew1) | exact HB.out)) hb); clear HO164; clear HO167; clear HR172; clear HB; have HO164 := n0_; have HO167 := n1_; have HO177 := n2_; have HR172 := n3_; have HB := n4_; clear n0_ n1_ n2_ n3_ n4_; (try clear hb); (try clear hb2); (try clear hk); (try clear hi); (try clear ho0); obtain ⟨Ao16, co16, eo16⟩ := Kd.R_slice HO177.out; subst eo16) | (go_at_call 24; (with_reducible refine (frame_Format.calls t173 t174 _ _ t175 t178 _ ?side1 ?side2 ?side3 A8.out).mono ?_); (case side1 => repeat (first | exact (Kd.R_reads' HO177.out).2.2 | (with_reducible refine Kd.C_alloc ?_ _) | (with_reducible refine Kd.C_drewN ?_ _) | (with_reducible refine Kd.C_drew ?_))); (case side2 => exact (Kd.R_reads' HO177.out).2.1); (case side3 => refine GW.below HG.out ?_; repeat (first | (with_reducible first | exact HB.out | apply below_alloc | apply pw_below_drewN | apply below_drew1) | exact HB.out)); rintro e w17 ⟨rfl, hb⟩; have n0_ := Aside0.mk (Kd.R_below (by (with_reducible repeat (first | apply Kd.R_alloc | apply Kd.R_drewN | apply Kd.R_drew)); exact HO164.out) hb); have n1_ := Aside0.mk (Kd.R_below (by (with_reducible repeat (first | apply Kd.R_alloc | apply Kd.R_drewN | apply Kd.R_drew)); exact HO167.out) hb); have n2_ := Aside0.mk (Kd.R_below (by (with_reducible repeat (first | apply Kd.R_alloc | apply Kd.R_drewN | apply Kd.R_drew)); exact HO177.out) hb); have n3_ := Aside0.mk (Kd.C_below (by repeat (first | (with_reducible exact HR172.out) | (with_reducible refine Kd.C_alloc ?_ _) | (with_reducible refine Kd.C_drewN ?_ _) | (with_reducible refine Kd.C_drew ?_) | exact HR172.out)) hb); have n4_ := Aside0.mk (below_step (by repeat (first | (with_reducible first | exact HB.out | apply below_alloc | apply pw_below_drewN | apply below_drew1) | exact HB.out)) hb); clear HO164; clear HO167; clear HO177; clear HR172; clear HB; have HO164 := n0_; have HO167 := n1_; have HO177 := n2_; have HR172 := n3_; have HB := n4_; clear n0_ n1_ n2_ n3_ n4_; (try clear hb); (try clear hb2); (try clear hk); (try clear hi)))
          go_ret
          exact ⟨by first | rfl | (simp [errW_none, errW_some] <;> rfl) | (simp [*, errW_none, errW_some] <;> rfl), by repeat (first | (with_reducible first | exact HB.out | apply below_alloc | apply pw_below_drewN | apply below_drew1) | exact HB.out)⟩
        · rw [if_neg c6] at H
          have c6b0 : ((strOfNums y169).toList == ([1, 5, 0, 0, 0, 254, 255] : List UInt8)) = false := beq_eq_false_iff_ne.mpr c6
          have c6b1 : ((strOfNums y169).toList != ([1, 5, 0, 0, 0, 254, 255] : List UInt8)) = true := bne_iff_ne.mpr c6
          obtain rfl := Option.some.inj H
          go_enter Tryd.func11, Tryd.ntmps11
          go_wp2_with (first | ((with_reducible refine gate_callee (f := 13) rfl ?_); refine goesL_ (some 4) rfl rfl Tryd.func13 (by kernel_rfl) rfl #[.int .i64 5, .int .i16 (-2)] rfl (by (try simp only [List.map_toArray, List.map_cons, List.map_nil]); first | done | rfl | (simp only [List.length_drop, List.length_take]; rfl)) ?_; (with_reducible refine (frame_Data.calls k 5 (-2) t160 t161 t162 _ A1.out).mono ?_); rintro e w18 ⟨v163, rfl, ho0, hb⟩; refine ⟨_, rfl, ?_⟩; have n0_ := Aside0.mk (Kd.R_lower ho0 (below_size (by repeat (first | (with_reducible first | exact HB.out | apply below_alloc | apply pw_below_drewN | apply below_drew1) | exact HB.out)))); have n1_ := Aside0.mk (below_step (by repeat (first | (with_reducible first | exact HB.out | apply below_alloc | apply pw_below_drewN | apply below_drew1) | exact HB.out)) hb); clear HB; have HO164 := n0_; have HB := n1_; clear n0_ n1_; (try clear hb); (try clear hb2); (try clear hk); (try clear hi); (try clear ho0); obtain ⟨Ao19, co19, eo19⟩ := Kd.R_slice HO164.out; subst eo19) | ((with_reducible refine gate_callee (f := 20) rfl ?_); refine goesL_ (some 5) rfl rfl Tryd.func20 (by kernel_rfl) rfl #[.agg #[.int .i64 t160, .int .i64 t161, .slice Ao19 t162.length co19]] rfl (by (try simp only [List.map_toArray, List.map_cons, List.map_nil]); first | done | rfl | (simp only [List.length_drop, List.length_take]; rfl)) ?_; (with_reducible refine (frame_Encode.calls k t160 t161 _ _ t162 t165 t168 _ ?side1 ?side2 A2.out).mono ?_); (case side1 => repeat (first | exact (Kd.R_reads' HO164.out).2.2 | (with_reducible refine Kd.C_alloc ?_ _) | (with_reducible refine Kd.C_drewN ?_ _) | (with_reducible refine Kd.C_drew ?_))); (case side2 => exact (Kd.R_reads' HO164.out).2.1); rintro e w20 ⟨v166, rfl, ho0, hb⟩; refine ⟨_, rfl, ?_⟩; have n0_ := Aside0.mk (Kd.R_elder' (by (with_reducible repeat (first | apply Kd.R_alloc | apply Kd.R_drewN | apply Kd.R_drew)); exact HO164.out) (Kd.R_base ho0) hb); have n1_ := Aside0.mk (Kd.R_lower (Kd.R_new' ho0 (Kd.R_lt (by (with_reducible repeat (first | apply Kd.R_alloc | apply Kd.R_drewN | apply Kd.R_drew)); exact HO164.out))) (below_size (by repeat (first | (with_reducible first | exact HB.out | apply below_alloc | apply pw_below_drewN | apply below_drew1) | exact HB.out)))); have n2_ := Aside0.mk (below_step (by repeat (first | (with_reducible first | exact HB.out | apply below_alloc | apply pw_below_drewN | apply below_drew1) | exact HB.out)) hb); clear HO164; clear HB; have HO164 := n0_; have HO167 := n1_; have HB := n2_; clear n0_ n1_ n2_; (try clear hb); (try clear hb2); (try clear hk); (try clear hi); (try clear ho0); obtain ⟨Ao21, co21, eo21⟩ := Kd.R_slice HO167.out; subst eo21; have q22 : (7 : Int) ≤ ((t165.length : Int) : Int) := of_decide_eq_true (by first | (with_reducible assumption) | assumption); obtain ⟨i022, hi022, _, hsz22, _⟩ := info_parts info5; have hroom22 : t165.length ≤ co21 := (Kd.R_reads' HO167.out).2.1; have hC22 : Kd.C (Kd.int .u8) _ Ao21 t165.length t165 := (Kd.R_reads' HO167.out).2.2; have hcut22 := cut_to (P := Tryd.prog) 24 5 .i64 Tryd.underlying24 hi022 Ao21 t165.length co21 7 (by omega) q22 hroom22; have hr22 := Kd.C_take (m := 7) hC22 (by omega); have hy22 : y169.length = (7 : Int).toNat := (by rw [Ny169.out, List.length_take]; omega); rw [← Ny169.out] at hr22; rw [← hy22] at hcut22; have HR172 := Aside0.mk hr22; have HC172 := Aside0.mk (show y169.length ≤ co21 from by omega); clear hr22 hC22 hroom22 hi022 hsz22; have KY22 := Aside0.mk hy22; clear hy22; have KL22 := Aside0.mk (show 7 ≤ t165.length from by omega); replace q22 := eq_true q22; have hcv23 := Kd.C_string (P := Tryd.prog) (A := Ao21) (c := co21) Tryd.underlying24 Tryd.underlying5 Tryd.underlying9 (by repeat (first | (with_reducible exact HR172.out) | (with_reducible refine Kd.C_alloc ?_ _) | (with_reducible refine Kd.C_drewN ?_ _) | (with_reducible refine Kd.C_drew ?_) | exact HR172.out))))
          go_ret
          exact ⟨by first | rfl | (simp [errW_none, errW_some] <;> rfl) | (simp [*, errW_none, errW_some] <;> rfl), by repeat (first | (with_reducible first | exact HB.out | apply below_alloc | apply pw_below_drewN | apply below_drew1) | exact HB.out)⟩
      · rw [if_neg c5] at H
        exact absurd H (by simp)
    · rw [if_neg c4] at H
      have c4b0 : ((t165.length : Int) == 9) = false := beq_eq_false_iff_ne.mpr c4
      have c4b1 : ((t165.length : Int) != 9) = true := bne_iff_ne.mpr c4
      obtain rfl := Option.some.inj H
      go_enter Tryd.func11, Tryd.ntmps11
      go_wp2_with (first | ((with_reducible refine gate_callee (f := 13) rfl ?_); refine goesL_ (some 4) rfl rfl Tryd.func13 (by kernel_rfl) rfl #[.int .i64 5, .int .i16 (-2)] rfl (by (try simp only [List.map_toArray, List.map_cons, List.map_nil]); first | done | rfl | (simp only [List.length_drop, List.length_take]; rfl)) ?_; (with_reducible refine (frame_Data.calls k 5 (-2) t160 t161 t162 _ A1.out).mono ?_); rintro e w24 ⟨v163, rfl, ho0, hb⟩; refine ⟨_, rfl, ?_⟩; have n0_ := Aside0.mk (Kd.R_lower ho0 (below_size (by repeat (first | (with_reducible first | exact HB.out | apply below_alloc | apply pw_below_drewN | apply below_drew1) | exact HB.out)))); have n1_ := Aside0.mk (below_step (by repeat (first | (with_reducible first | exact HB.out | apply below_alloc | apply pw_below_drewN | apply below_drew1) | exact HB.out)) hb); clear HB; have HO164 := n0_; have HB := n1_; clear n0_ n1_; (try clear hb); (try clear hb2); (try clear hk); (try clear hi); (try clear ho0); obtain ⟨Ao25, co25, eo25⟩ := Kd.R_slice HO164.out; subst eo25) | ((with_reducible refine gate_callee (f := 20) rfl ?_); refine goesL_ (some 5) rfl rfl Tryd.func20 (by kernel_rfl) rfl #[.agg #[.int .i64 t160, .int .i64 t161, .slice Ao25 t162.length co25]] rfl (by (try simp only [List.map_toArray, List.map_cons, List.map_nil]); first | done | rfl | (simp only [List.length_drop, List.length_take]; rfl)) ?_; (with_reducible refine (frame_Encode.calls k t160 t161 _ _ t162 t165 t168 _ ?side1 ?side2 A2.out).mono ?_); (case side1 => repeat (first | exact (Kd.R_reads' HO164.out).2.2 | (with_reducible refine Kd.C_alloc ?_ _) | (with_reducible refine Kd.C_drewN ?_ _) | (with_reducible refine Kd.C_drew ?_))); (case side2 => exact (Kd.R_reads' HO164.out).2.1); rintro e w26 ⟨v166, rfl, ho0, hb⟩; refine ⟨_, rfl, ?_⟩; have n0_ := Aside0.mk (Kd.R_elder' (by (with_reducible repeat (first | apply Kd.R_alloc | apply Kd.R_drewN | apply Kd.R_drew)); exact HO164.out) (Kd.R_base ho0) hb); have n1_ := Aside0.mk (Kd.R_lower (Kd.R_new' ho0 (Kd.R_lt (by (with_reducible repeat (first | apply Kd.R_alloc | apply Kd.R_drewN | apply Kd.R_drew)); exact HO164.out))) (below_size (by repeat (first | (with_reducible first | exact HB.out | apply below_alloc | apply pw_below_drewN | apply below_drew1) | exact HB.out)))); have n2_ := Aside0.mk (below_step (by repeat (first | (with_reducible first | exact HB.out | apply below_alloc | apply pw_below_drewN | apply below_drew1) | exact HB.out)) hb); clear HO164; clear HB; have HO164 := n0_; have HO167 := n1_; have HB := n2_; clear n0_ n1_ n2_; (try clear hb); (try clear hb2); (try clear hk); (try clear hi); (try clear ho0); obtain ⟨Ao27, co27, eo27⟩ := Kd.R_slice HO167.out; subst eo27))
      go_ret
      exact ⟨by first | rfl | (simp [errW_none, errW_some] <;> rfl) | (simp [*, errW_none, errW_some] <;> rfl), by repeat (first | (with_reducible first | exact HB.out | apply below_alloc | apply pw_below_drewN | apply below_drew1) | exact HB.out)⟩
  · rw [if_neg c3] at H
    have c3b0 : (t168 == 0) = false := beq_eq_false_iff_ne.mpr c3
    have c3b1 : (t168 != 0) = true := bne_iff_ne.mpr c3
    obtain rfl := Option.some.inj H
    go_enter Tryd.func11, Tryd.ntmps11
    go_wp2_with (first | ((with_reducible refine gate_callee (f := 13) rfl ?_); refine goesL_ (some 4) rfl rfl Tryd.func13 (by kernel_rfl) rfl #[.int .i64 5, .int .i16 (-2)] rfl (by (try simp only [List.map_toArray, List.map_cons, List.map_nil]); first | done | rfl | (simp only [List.length_drop, List.length_take]; rfl)) ?_; (with_reducible refine (frame_Data.calls k 5 (-2) t160 t161 t162 _ A1.out).mono ?_); rintro e w28 ⟨v163, rfl, ho0, hb⟩; refine ⟨_, rfl, ?_⟩; have n0_ := Aside0.mk (Kd.R_lower ho0 (below_size (by repeat (first | (with_reducible first | exact HB.out | apply below_alloc | apply pw_below_drewN | apply below_drew1) | exact HB.out)))); have n1_ := Aside0.mk (below_step (by repeat (first | (with_reducible first | exact HB.out | apply below_alloc | apply pw_below_drewN | apply below_drew1) | exact HB.out)) hb); clear HB; have HO164 := n0_; have HB := n1_; clear n0_ n1_; (try clear hb); (try clear hb2); (try clear hk); (try clear hi); (try clear ho0); obtain ⟨Ao29, co29, eo29⟩ := Kd.R_slice HO164.out; subst eo29) | ((with_reducible refine gate_callee (f := 20) rfl ?_); refine goesL_ (some 5) rfl rfl Tryd.func20 (by kernel_rfl) rfl #[.agg #[.int .i64 t160, .int .i64 t161, .slice Ao29 t162.length co29]] rfl (by (try simp only [List.map_toArray, List.map_cons, List.map_nil]); first | done | rfl | (simp only [List.length_drop, List.length_take]; rfl)) ?_; (with_reducible refine (frame_Encode.calls k t160 t161 _ _ t162 t165 t168 _ ?side1 ?side2 A2.out).mono ?_); (case side1 => repeat (first | exact (Kd.R_reads' HO164.out).2.2 | (with_reducible refine Kd.C_alloc ?_ _) | (with_reducible refine Kd.C_drewN ?_ _) | (with_reducible refine Kd.C_drew ?_))); (case side2 => exact (Kd.R_reads' HO164.out).2.1); rintro e w30 ⟨v166, rfl, ho0, hb⟩; refine ⟨_, rfl, ?_⟩; have n0_ := Aside0.mk (Kd.R_elder' (by (with_reducible repeat (first | apply Kd.R_alloc | apply Kd.R_drewN | apply Kd.R_drew)); exact HO164.out) (Kd.R_base ho0) hb); have n1_ := Aside0.mk (Kd.R_lower (Kd.R_new' ho0 (Kd.R_lt (by (with_reducible repeat (first | apply Kd.R_alloc | apply Kd.R_drewN | apply Kd.R_drew)); exact HO164.out))) (below_size (by repeat (first | (with_reducible first | exact HB.out | apply below_alloc | apply pw_below_drewN | apply below_drew1) | exact HB.out)))); have n2_ := Aside0.mk (below_step (by repeat (first | (with_reducible first | exact HB.out | apply below_alloc | apply pw_below_drewN | apply below_drew1) | exact HB.out)) hb); clear HO164; clear HB; have HO164 := n0_; have HO167 := n1_; have HB := n2_; clear n0_ n1_ n2_; (try clear hb); (try clear hb2); (try clear hk); (try clear hi); (try clear ho0)))
    go_ret
    exact ⟨by first | rfl | (simp [errW_none, errW_some] <;> rfl) | (simp [*, errW_none, errW_some] <;> rfl), by repeat (first | (with_reducible first | exact HB.out | apply below_alloc | apply pw_below_drewN | apply below_drew1) | exact HB.out)⟩

/-! ### trickleref43_Equal: function 12 -/
end Go.Proofs.YtfhnpphceeoeeaaDoor.PX
-- Written by a program of this session (wip/xprint.py, over the kit's print tool). Lean checks it.
namespace Go.Proofs.YtfhnpphceeoeeaaDoor.PX
open Go.RowKit Go.Proofs.YtfhnpphceeoeeaaDoorW.PrintWords Go.Proofs.YtfhnpphceeoeeaaDoorW.PrintLast Go.Proofs.YtfhnpphceeoeeaaDoorW.PrintMore
attribute [local go_sem] max2_int min2_int max_two min_two max_three min_three max_four min_four   -- for this text's walks alone
set_option linter.unusedVariables false
set_option linter.unusedSimpArgs false

/-! ### bytes_Equal: function 55 -/
def bytes_Equal.f (l0 : List Int) (l1 : List Int) : Option (Bool) := some ((strOfNums l0).toList == (strOfNums l1).toList)
set_option maxHeartbeats 8000000 in
set_option maxRecDepth 100000 in
theorem bytes_Equal.calls (A0 : Option Addr) (c0 : Nat) (l0 : List Int) (A1 : Option Addr) (c1 : Nat) (l1 : List Int) (r : Bool) (w : World) (hr0 : Kd.C (Kd.int .u8) w A0 l0.length l0) (hc0 : l0.length ≤ c0) (hr1 : Kd.C (Kd.int .u8) w A1 l1.length l1) (hc1 : l1.length ≤ c1) (h : bytes_Equal.f l0 l1 = some r) :
    Calls Tryd.prog 55 #[.slice A0 l0.length c0, .slice A1 l1.length c1] w fun e w' => e = .returned (.bool r) ∧ Drawn0 w w' := by
  have HR0 := Aside0.mk hr0
  have HC0 := Aside0.mk hc0
  clear hr0 hc0
  have HR1 := Aside0.mk hr1
  have HC1 := Aside0.mk hc1
  clear hr1 hc1
  have H : (some ((strOfNums l0).toList == (strOfNums l1).toList)) = some r := h
  clear h
  obtain rfl := Option.some.inj H
  have hcv3 := Kd.C_string (P := Tryd.prog) (A := A0) (c := c0) Tryd.underlying24 Tryd.underlying5 Tryd.underlying9 HR0.out
  have hcv4 := Kd.C_string (P := Tryd.prog) (A := A1) (c := c1) Tryd.underlying24 Tryd.underlying5 Tryd.underlying9 HR1.out
  go_enter Tryd.func55, Tryd.ntmps55
  go_wp2
  go_ret
  exact ⟨by first | rfl | (simp; done) | (simp [*]; done), by repeat (first | exact Drawn0.refl _ | apply Drawn0.step)⟩

/-! ### frame_Equal: function 34 -/
-- NOT PRINTED: function 7 (tricklelaw43_FrameAccess)

end Go.Proofs.YtfhnpphceeoeeaaDoor.PX
/-
  DERIVED: THE SHELF's CONTRACTS AT THIS DUMP, IN PLAIN WORDS (tools/lay-plain.mjs out of 'YtfhnpphceeoeeaaDoorShelfBx.lean', which tools/lay-shelf.mjs wrote): THE SAME DECLARATIONS UNDER THE SAME NAMES: 'import', 'namespace', 'open', 'def', 'theorem' AND NOTHING ELSE: no command of the shelf's: FOR A HAND-IN. Each laying: the table of numbers ('.._ren') and one theorem, a field a fact of the dump's own or the kernel's comparison; each contract: ONE APPLICATION.
-/
namespace Go.Proofs
open Go.Shelf
def Tryd.lays187_ren : Go.Shelf.Ren := ⟨fun | 187 => 69 | 255 => 77 | n => n, fun | 37 => 24 | 5 => 5 | 3 => 3 | n => n, fun | n => n⟩
theorem Tryd.lays187 : Go.Proofs.Lays.n187 Tryd.prog Tryd.lays187_ren := {
  mixed := by kernel_rfl
  f187 := Tryd.func69.trans (congrArg some (by kernel_rfl))
  f255 := Tryd.func77.trans (congrArg some (by kernel_rfl))
  t3 := Tryd.underlying3
  a3 := Tryd.isAgg3
  z3 := Tryd.sizeOf3
  v3 := Tryd.zeroValue3
  t5 := Tryd.underlying5
  a5 := Tryd.isAgg5
  z5 := Tryd.sizeOf5
  v5 := Tryd.zeroValue5
  t37 := Tryd.underlying24
  a37 := Tryd.isAgg24
  z37 := Tryd.sizeOf24
  v37 := Tryd.zeroValue24 }
theorem Tryd.bytes_IndexByte (b o n c : Nat) (xs : List Int) (cv : Int) (w : World) (hx : xs.length = n) (hc : ∀ i, i < n → w.cell? ⟨b, o + i, none⟩ = some (.int .u8 (xs.getD i 0))) :
    Calls Tryd.prog 69 #[.slice (some ⟨b, o, none⟩) n c, .int .u8 cv] w fun e w' => e = .returned (.int .i64 (Lib.indexByte (Lib.bytesOf xs) cv.toNat.toUInt8)) ∧ w' = w := Any.bytes_IndexByte Tryd.lays187 b o n c xs cv w hx hc
end Go.Proofs
/- bytes.IndexByte at this program, in the printed form. -/
namespace Go.Proofs.YtfhnpphceeoeeaaDoor.PX
open Go.RowKit Go.Proofs.YtfhnpphceeoeeaaDoorW.PrintWords Go.Proofs.YtfhnpphceeoeeaaDoorW.PrintLast Go.Proofs.YtfhnpphceeoeeaaDoorW.PrintMore
set_option linter.unusedVariables false
def bytes_IndexByte.f (l0 : List Int) (a1 : Int) : Option Int := some (Lib.indexByte (Lib.bytesOf l0) a1.toNat.toUInt8)
set_option maxHeartbeats 2000000 in
set_option maxRecDepth 1000000 in
theorem index_nil (n c : Nat) (cv : Int) (w : World) :
    Calls Tryd.prog 69 #[.slice none n c, .int .u8 cv] w fun e w' => e = .returned (.int .i64 (-1)) ∧ w' = w := by
  go_enter Tryd.func69, Tryd.ntmps69
  go_wp2
  rw [run_callFunc_extern Tryd.func77 (by kernel_rfl) (by kernel_rfl) (by kernel_rfl) (e := Extern.BytealgIndexByte.indexByte) (by kernel_rfl), Lib.run_indexByteNil w n c cv]
  simp only [Result.andThen]
  rw [Oper.upon_value]
  go_wp2
  go_ret
  exact ⟨rfl, rfl⟩
theorem bytes_IndexByte.calls (A0 : Option Addr) (c0 : Nat) (l0 : List Int) (a1 : Int) (r : Int) (w : World) (hr0 : Kd.C (Kd.int .u8) w A0 l0.length l0) (hc0 : l0.length ≤ c0) (h : bytes_IndexByte.f l0 a1 = some r) :
    Calls Tryd.prog 69 #[.slice A0 l0.length c0, .int .u8 a1] w fun e w' => e = .returned (.int .i64 r) ∧ Drawn0 w w' := by
  obtain rfl := Option.some.inj h
  cases A0 with
  | none =>
    obtain rfl := nil_of_C hr0
    refine (index_nil _ _ _ w).mono ?_
    rintro e w1 ⟨rfl, rfl⟩
    exact ⟨rfl, Drawn0.refl _⟩
  | some a =>
    refine (Any.bytes_IndexByte_at Tryd.lays187 a l0.length c0 l0 a1 w rfl (fun i hi => cell_of_C hr0 i hi)).mono ?_
    rintro e w1 ⟨rfl, rfl⟩
    exact ⟨rfl, Drawn0.refl _⟩
end Go.Proofs.YtfhnpphceeoeeaaDoor.PX
