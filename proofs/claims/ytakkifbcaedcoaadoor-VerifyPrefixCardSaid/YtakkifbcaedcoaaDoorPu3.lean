/- The reference's Valid is the same test as trace.Valid; its indexed keeps the valid events; its count counts. -/
import Derived.Test.YtakkifbcaedcoaaDoorPu2
import Derived.Laws.Strings
namespace Go.Proofs.YtakkifbcaedcoaaDoor.PX
open Go.RowKit Go.Proofs.YtakkifbcaedcoaaDoorW.PrintWords Go.Proofs.YtakkifbcaedcoaaDoorW.PrintLast Go.Proofs.YtakkifbcaedcoaaDoorW.PrintMore
set_option linter.unusedVariables false
set_option linter.unusedSimpArgs false
def inR (kind q v : Int) : Bool := if q = 1 then decide (0 ≤ v) && decide (v ≤ 7) else if q = 2 then decide (0 ≤ v) && decide (v ≤ 7) else if q = 3 then decide (0 ≤ v) && decide (v ≤ 1099511627776) && (if kind = 5 then decide (v < 120) else true) else decide (-32768 ≤ v) && decide (v ≤ 32767)
theorem ite_some_and {c : Prop} [Decidable c] (b : Bool) : (if c then some b else some false) = some (decide c && b) := by
  by_cases h : c <;> simp [h]
theorem inR_ev (kind q v : Int) (k : Nat) : trickleref52_inRange.f (k + 1) kind q v = some (inR kind q v) := by
  unfold trickleref52_inRange.f inR
  by_cases h1 : q = 1
  · subst h1
    rw [if_pos rfl, trickleref52_inRange.j0, if_pos (by decide), if_pos rfl]
    simp only [ge_iff_le, ite_some_and]
  rw [if_neg h1, if_neg h1, trickleref52_inRange.j0]
  by_cases h2 : q = 2
  · subst h2
    rw [if_pos (by decide), if_pos rfl]
    simp only [ge_iff_le, ite_some_and]
  rw [if_neg h2, if_neg (by simpa using h2)]
  by_cases h3 : q = 3
  · subst h3
    rw [if_pos rfl, if_pos rfl]
    by_cases h5 : kind = 5
    · rw [if_pos h5, if_pos h5]; simp only [ge_iff_le, ite_some_and, Bool.and_assoc]
    · rw [if_neg h5, if_neg h5]; simp only [ge_iff_le, ite_some_and, Bool.and_assoc]
  rw [if_neg h3, if_neg h3]
  simp only [ge_iff_le, ite_some_and]
def getR (e : S55) (q : Int) : Int := if q = 1 then e.f2 else if q = 2 then e.f5 else if q = 3 then e.f3 else wrap64 e.f4
theorem getR_ev (e : S55) (q : Int) : trickleref52_get.f e.f0 e.f1 e.f2 e.f3 e.f4 e.f5 q = some (getR e q) := by
  unfold trickleref52_get.f getR
  repeat' split
  all_goals rfl
def withR (s : S55) (q v : Int) : S55 := if q = 1 then ⟨s.f0, s.f1, v, s.f3, s.f4, s.f5⟩ else if q = 2 then ⟨s.f0, s.f1, s.f2, s.f3, s.f4, v⟩ else if q = 3 then ⟨s.f0, s.f1, s.f2, v, s.f4, s.f5⟩ else ⟨s.f0, s.f1, s.f2, s.f3, IntKind.i16.wrap v, s.f5⟩
theorem withR_ev (s : S55) (q v : Int) : trickleref52_with.f s.f0 s.f1 s.f2 s.f3 s.f4 s.f5 q v = some ((withR s q v).f0, (withR s q v).f1, (withR s q v).f2, (withR s q v).f3, (withR s q v).f4, (withR s q v).f5) := by
  unfold trickleref52_with.f withR
  repeat' split
  all_goals rfl
def finR (e s : S55) : Bool := decide (0 ≤ e.f1) && decide (e.f1 ≤ 1099511627776) && (s.f0 == e.f0 && (s.f1 == e.f1 && (s.f2 == e.f2 && (s.f3 == e.f3 && (s.f4 == e.f4 && s.f5 == e.f5)))))
def rloop (e : S55) : List Int → S55 → Bool
  | [], s => finR e s
  | q :: r, s => if inR e.f0 q (getR e q) = true then rloop e r (withR s q (getR e q)) else false
theorem valid_loop (e : S55) (n : ByteArray) (hn0 : n.toList ≠ ([] : List UInt8)) (l : List Int) (hn : l.length < 100) : ∀ (d j : Nat) (s : S55), j + d = l.length → Ev (fun k => trickleref52_Valid.l0 k n l (l.length : Int) (j : Int) e.f0 e.f1 e.f2 e.f3 e.f4 e.f5 s.f0 s.f1 s.f2 s.f3 s.f4 s.f5) (rloop e (l.drop j) s)
  | 0, j, s, hj => by
    refine Ev.step (fun k => by rw [trickleref52_Valid.l0]) (Ev.neg (by omega) (Ev.neg hn0 ?_))
    rw [List.drop_of_length_le (by omega), rloop, finR]
    by_cases h1 : e.f1 ≥ 0
    · refine Ev.pos h1 ?_
      by_cases h2 : e.f1 ≤ 1099511627776
      · refine Ev.cast (Ev.pos h2 (Ev.now _)) ?_
        simp [h1, h2]
      · exact Ev.cast (Ev.neg h2 (Ev.now _)) (by simp [h2])
    · exact Ev.cast (Ev.neg h1 (Ev.now _)) (by simp [h1])
  | d + 1, j, s, hj => by
    refine Ev.step (fun k => by rw [trickleref52_Valid.l0]) (Ev.pos (by omega) (Ev.pos (by omega) (Ev.pos (by omega) ?_)))
    rw [rd_nat l j (by omega), wrap_nat (n := l.length) (by omega) (by omega), drop_cons l j (by omega), rloop]
    refine Ev.const (getR_ev e _) ?_
    refine Ev.bind (a := inR e.f0 l[j] (getR e l[j])) ⟨1, fun k hk => by obtain ⟨k, rfl⟩ : ∃ k', k = k' + 1 := ⟨k - 1, by omega⟩; exact inR_ev _ _ _ k⟩ ?_
    by_cases h : inR e.f0 l[j] (getR e l[j]) = true
    · rw [if_pos h]
      exact Ev.pos h (Ev.const (getR_ev e _) (Ev.const (withR_ev s _ _) (valid_loop e n hn0 l hn d (j + 1) (withR s l[j] (getR e l[j])) (by omega))))
    · rw [if_neg h]
      exact Ev.neg h (Ev.now _)
theorem valid_word (e : S55) (n : ByteArray) (hn0 : n.toList ≠ ([] : List UInt8)) (l : List Int) (hn : l.length < 100) (hw : trickleref52_word.f e.f0 = some (n, l)) : Ev (fun k => trickleref52_Valid.f k e.f0 e.f1 e.f2 e.f3 e.f4 e.f5) (rloop e l ⟨e.f0, e.f1, 0, 0, 0, 0⟩) := by
  have h := valid_loop e n hn0 l hn l.length 0 ⟨e.f0, e.f1, 0, 0, 0, 0⟩ (by omega)
  exact Ev.congr (fun k => by rw [trickleref52_Valid.f]) (Ev.const hw h)
theorem i16_through {v : Int} (h : -32768 ≤ v ∧ v ≤ 32767) : IntKind.i16.wrap (wrap64 v) = v := by
  rw [wrap_id (by omega) (by omega)]
  exact IntWalk.i16_in v h
theorem lt120 (v : Int) : decide (v < 120) = decide (v ≤ 119) := decide_eq_decide.mpr ⟨by omega, by omega⟩
theorem le120 (v : Int) : (decide (0 ≤ v) && decide (v ≤ 1099511627776) && decide (v ≤ 119)) = (decide (0 ≤ v) && decide (v ≤ 119)) := by
  rw [Bool.eq_iff_iff]; simp; omega
theorem bool_if (b c : Bool) : (if b = true then c else false) = (b && c) := by cases b <;> rfl
theorem i16_dec {v : Int} (h : -32768 ≤ v ∧ v ≤ 32767) : (decide (-32768 ≤ v) && decide (v ≤ 32767)) = true := by simp [h.1, h.2]
set_option maxHeartbeats 8000000 in
theorem vS_ref (e : S55) (hw : Wf55 e) : Ev (fun k => trickleref52_Valid.f k e.f0 e.f1 e.f2 e.f3 e.f4 e.f5) (VS e) := by
  obtain ⟨e0, e1, e2, e3, e4, e5⟩ := e
  have hv := i16_bd hw.2.2.2.2.1
  clear hw
  have hd := i16_dec hv
  have ht := i16_through hv
  have hwr := wrap_id (i := e4) (by have := hv.1; simp only at this; omega) (by have := hv.2; simp only at this; omega)
  simp only at hv hd ht hwr
  by_cases hc : 1 ≤ e0 ∧ e0 < 13
  · obtain ⟨h1, h2⟩ := hc
    obtain ⟨k, rfl⟩ := Int.eq_ofNat_of_zero_le (show 0 ≤ e0 by omega)
    match k, h1, h2 with
    | 1, _, _ =>
      refine Ev.cast (valid_word ⟨1, e1, e2, e3, e4, e5⟩ ⟨#[98, 111, 111, 116]⟩ (by rw [ByteArray.toList_eq]; decide) [3] (by decide) rfl) ?_
      simp [IntWalk.i16_in e4 hv, rloop, finR, inR, getR, withR, VS, hwr, ht, hd, hv.1, hv.2, lt120, le120, bool_if, zero_beq, hasT, hasP, hasN, hasV, Bool.and_assoc, Bool.and_comm, Bool.and_left_comm]
    | 2, _, _ =>
      refine Ev.cast (valid_word ⟨2, e1, e2, e3, e4, e5⟩ ⟨#[102, 97, 105, 108]⟩ (by rw [ByteArray.toList_eq]; decide) [3] (by decide) rfl) ?_
      simp [IntWalk.i16_in e4 hv, rloop, finR, inR, getR, withR, VS, hwr, ht, hd, hv.1, hv.2, lt120, le120, bool_if, zero_beq, hasT, hasP, hasN, hasV, Bool.and_assoc, Bool.and_comm, Bool.and_left_comm]
    | 3, _, _ =>
      refine Ev.cast (valid_word ⟨3, e1, e2, e3, e4, e5⟩ ⟨#[115, 116, 97, 114, 116]⟩ (by rw [ByteArray.toList_eq]; decide) [1, 4] (by decide) rfl) ?_
      simp [IntWalk.i16_in e4 hv, rloop, finR, inR, getR, withR, VS, hwr, ht, hd, hv.1, hv.2, lt120, le120, bool_if, zero_beq, hasT, hasP, hasN, hasV, Bool.and_assoc, Bool.and_comm, Bool.and_left_comm]
    | 4, _, _ =>
      refine Ev.cast (valid_word ⟨4, e1, e2, e3, e4, e5⟩ ⟨#[114, 101, 97, 100]⟩ (by rw [ByteArray.toList_eq]; decide) [1, 2, 4] (by decide) rfl) ?_
      simp [IntWalk.i16_in e4 hv, rloop, finR, inR, getR, withR, VS, hwr, ht, hd, hv.1, hv.2, lt120, le120, bool_if, zero_beq, hasT, hasP, hasN, hasV, Bool.and_assoc, Bool.and_comm, Bool.and_left_comm]
    | 5, _, _ =>
      refine Ev.cast (valid_word ⟨5, e1, e2, e3, e4, e5⟩ ⟨#[99, 111, 109, 109, 105, 116]⟩ (by rw [ByteArray.toList_eq]; decide) [1, 3] (by decide) rfl) ?_
      simp [IntWalk.i16_in e4 hv, rloop, finR, inR, getR, withR, VS, hwr, ht, hd, hv.1, hv.2, lt120, le120, bool_if, zero_beq, hasT, hasP, hasN, hasV, Bool.and_assoc, Bool.and_comm, Bool.and_left_comm]
      rw [Bool.eq_iff_iff]
      simp only [Bool.and_eq_true, decide_eq_true_eq]
      constructor
      · rintro ⟨a, b, c, d, e, f, g, h, i⟩; exact ⟨a, b, c, d, e, f, g, h⟩
      · rintro ⟨a, b, c, d, e, f, g, h⟩; exact ⟨a, b, c, d, e, f, g, h, by omega⟩
    | 6, _, _ =>
      refine Ev.cast (valid_word ⟨6, e1, e2, e3, e4, e5⟩ ⟨#[101, 110, 100]⟩ (by rw [ByteArray.toList_eq]; decide) [1] (by decide) rfl) ?_
      simp [IntWalk.i16_in e4 hv, rloop, finR, inR, getR, withR, VS, hwr, ht, hd, hv.1, hv.2, lt120, le120, bool_if, zero_beq, hasT, hasP, hasN, hasV, Bool.and_assoc, Bool.and_comm, Bool.and_left_comm]
    | 7, _, _ =>
      refine Ev.cast (valid_word ⟨7, e1, e2, e3, e4, e5⟩ ⟨#[111, 117, 116, 112, 117, 116]⟩ (by rw [ByteArray.toList_eq]; decide) [2, 3, 4] (by decide) rfl) ?_
      simp [IntWalk.i16_in e4 hv, rloop, finR, inR, getR, withR, VS, hwr, ht, hd, hv.1, hv.2, lt120, le120, bool_if, zero_beq, hasT, hasP, hasN, hasV, Bool.and_assoc, Bool.and_comm, Bool.and_left_comm]
    | 8, _, _ =>
      refine Ev.cast (valid_word ⟨8, e1, e2, e3, e4, e5⟩ ⟨#[114, 101, 99, 101, 105, 118, 101]⟩ (by rw [ByteArray.toList_eq]; decide) [3, 4] (by decide) rfl) ?_
      simp [IntWalk.i16_in e4 hv, rloop, finR, inR, getR, withR, VS, hwr, ht, hd, hv.1, hv.2, lt120, le120, bool_if, zero_beq, hasT, hasP, hasN, hasV, Bool.and_assoc, Bool.and_comm, Bool.and_left_comm]
    | 9, _, _ =>
      refine Ev.cast (valid_word ⟨9, e1, e2, e3, e4, e5⟩ ⟨#[101, 120, 112, 105, 114, 101]⟩ (by rw [ByteArray.toList_eq]; decide) [1, 4] (by decide) rfl) ?_
      simp [IntWalk.i16_in e4 hv, rloop, finR, inR, getR, withR, VS, hwr, ht, hd, hv.1, hv.2, lt120, le120, bool_if, zero_beq, hasT, hasP, hasN, hasV, Bool.and_assoc, Bool.and_comm, Bool.and_left_comm]
    | 10, _, _ =>
      refine Ev.cast (valid_word ⟨10, e1, e2, e3, e4, e5⟩ ⟨#[117, 112, 100, 97, 116, 101]⟩ (by rw [ByteArray.toList_eq]; decide) [3] (by decide) rfl) ?_
      simp [IntWalk.i16_in e4 hv, rloop, finR, inR, getR, withR, VS, hwr, ht, hd, hv.1, hv.2, lt120, le120, bool_if, zero_beq, hasT, hasP, hasN, hasV, Bool.and_assoc, Bool.and_comm, Bool.and_left_comm]
    | 11, _, _ =>
      refine Ev.cast (valid_word ⟨11, e1, e2, e3, e4, e5⟩ ⟨#[100, 114, 111, 112]⟩ (by rw [ByteArray.toList_eq]; decide) [1, 2, 4, 3] (by decide) rfl) ?_
      simp [IntWalk.i16_in e4 hv, rloop, finR, inR, getR, withR, VS, hwr, ht, hd, hv.1, hv.2, lt120, le120, bool_if, zero_beq, hasT, hasP, hasN, hasV, Bool.and_assoc, Bool.and_comm, Bool.and_left_comm]
    | 12, _, _ =>
      refine Ev.cast (valid_word ⟨12, e1, e2, e3, e4, e5⟩ ⟨#[115, 101, 110, 100]⟩ (by rw [ByteArray.toList_eq]; decide) [1, 2, 4, 3] (by decide) rfl) ?_
      simp [IntWalk.i16_in e4 hv, rloop, finR, inR, getR, withR, VS, hwr, ht, hd, hv.1, hv.2, lt120, le120, bool_if, zero_beq, hasT, hasP, hasN, hasV, Bool.and_assoc, Bool.and_comm, Bool.and_left_comm]
    | k + 13, _, h => omega
  · have hz : VS ⟨e0, e1, e2, e3, e4, e5⟩ = false := by
      unfold VS
      by_cases h1 : 1 ≤ e0
      · have h2 : ¬ e0 < 13 := fun h => hc ⟨h1, h⟩
        simp [h2]
      · simp [h1]
    rw [hz]
    have hn : ∀ q : Int, 1 ≤ q → q < 13 → ¬ e0 = q := by intro q h1 h2 h; exact hc ⟨by omega, by omega⟩
    refine Ev.congr (fun k => by rw [trickleref52_Valid.f]) (Ev.const (a := ((⟨#[]⟩ : ByteArray), ([] : List Int))) ?_ ?_)
    · unfold trickleref52_word.f
      rw [if_neg (hn 1 (by omega) (by omega)), if_neg (hn 2 (by omega) (by omega)), if_neg (hn 3 (by omega) (by omega)), if_neg (hn 4 (by omega) (by omega)), if_neg (hn 5 (by omega) (by omega)), if_neg (hn 6 (by omega) (by omega)), if_neg (hn 7 (by omega) (by omega)), if_neg (hn 8 (by omega) (by omega)), if_neg (hn 9 (by omega) (by omega)), if_neg (hn 10 (by omega) (by omega)), if_neg (hn 11 (by omega) (by omega)), if_neg (hn 12 (by omega) (by omega))]
    · exact Ev.step (fun k => by rw [trickleref52_Valid.l0]) (Ev.neg (by simp) (Ev.pos (by rw [ByteArray.toList_eq]) (Ev.now _)))
theorem indexed_loop (l : List S55) (hw : ∀ x ∈ l, Wf55 x) (hn : l.length < 1000) : ∀ (d j : Nat) (acc : List S55) (at_ : List Int), j + d = l.length → acc.length ≤ j → at_.length ≤ j → ∃ at2, Ev (fun k => trickleref55_indexed.l0 k l acc at_ (j : Int)) (acc ++ (l.drop j).filter VS, at2)
  | 0, j, acc, at_, hj, ha, hb => by
    refine ⟨at_, Ev.step (fun k => by rw [trickleref55_indexed.l0]) (Ev.neg (by omega) ?_)⟩
    rw [List.drop_of_length_le (by omega), List.filter_nil, List.append_nil]
    exact Ev.now _
  | d + 1, j, acc, at_, hj, ha, hb => by
    have hr : rd_T55 l (j : Int) = l[j] := getD_nat l z55 j (by omega)
    have hvv := vS_ref l[j] (hw _ (List.getElem_mem _))
    by_cases h : VS l[j] = true
    · obtain ⟨at2, ih⟩ := indexed_loop l hw hn d (j + 1) (acc ++ [l[j]]) (at_ ++ [(j : Int)]) (by omega) (by simp; omega) (by simp; omega)
      refine ⟨at2, Ev.step (fun k => by rw [trickleref55_indexed.l0]) (Ev.pos (by omega) (Ev.pos (by omega) ?_))⟩
      rw [hr, wrap_nat (n := l.length) (by omega) (by omega), drop_cons l j (by omega)]
      refine Ev.bind hvv (Ev.pos h (Ev.pos (by omega) (Ev.pos (by omega) (Ev.cast ih ?_))))
      rw [List.filter_cons_of_pos h, List.append_assoc]
      rfl
    · obtain ⟨at2, ih⟩ := indexed_loop l hw hn d (j + 1) acc at_ (by omega) (by omega) (by omega)
      refine ⟨at2, Ev.step (fun k => by rw [trickleref55_indexed.l0]) (Ev.pos (by omega) (Ev.pos (by omega) ?_))⟩
      rw [hr, wrap_nat (n := l.length) (by omega) (by omega), drop_cons l j (by omega)]
      refine Ev.bind hvv (Ev.neg h (Ev.cast ih ?_))
      rw [List.filter_cons_of_neg h]
theorem indexed_ev (l : List S55) (hw : ∀ x ∈ l, Wf55 x) (hn : l.length < 1000) : ∃ at_, Ev (fun k => trickleref55_indexed.f k l) (l.filter VS, at_) :=
  indexed_loop l hw hn l.length 0 [] [] (by omega) (by simp) (by simp)
end Go.Proofs.YtakkifbcaedcoaaDoor.PX
