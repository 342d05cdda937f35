/- An event's validity: trace.Valid and the reference's Valid are the same test. -/
import Derived.Test.YtakkifbcaedcoaaDoorPXx7
import Derived.Test.YtakkifbcaedcoaaDoorMSequence
import Derived.Test.YtakkifbcaedcoaaDoorTypes
import Derived.Test.YtakkifbcaedcoaaDoorEv
import Derived.IntWalk
namespace Go.Proofs.YtakkifbcaedcoaaDoor.PX
open Go.RowKit Go.Proofs.YtakkifbcaedcoaaDoorW.PrintWords Go.Proofs.YtakkifbcaedcoaaDoorW.PrintLast Go.Proofs.YtakkifbcaedcoaaDoorW.PrintMore
set_option linter.unusedVariables false
set_option linter.unusedSimpArgs false
/-- Which fields an event of a kind has: task, port, number, region, value. -/
def hasT (k : Int) : Bool := k == 3 || k == 4 || k == 5 || k == 6 || k == 9 || k == 11 || k == 12
def hasP (k : Int) : Bool := k == 4 || k == 7 || k == 11 || k == 12
def hasN (k : Int) : Bool := k == 1 || k == 2 || k == 7 || k == 8 || k == 10 || k == 11 || k == 12
def hasV (k : Int) : Bool := k == 3 || k == 4 || k == 7 || k == 8 || k == 9 || k == 11 || k == 12
def VS (e : S55) : Bool := decide (1 ≤ e.f0) && decide (e.f0 < 13) && decide (0 ≤ e.f1) && decide (e.f1 ≤ 1099511627776) && (if hasT e.f0 then decide (0 ≤ e.f2) && decide (e.f2 ≤ 7) else e.f2 == 0) && (if hasP e.f0 then decide (0 ≤ e.f5) && decide (e.f5 ≤ 7) else e.f5 == 0) &&
  (if hasN e.f0 then decide (0 ≤ e.f3) && decide (e.f3 ≤ 1099511627776) else if e.f0 = 5 then decide (0 ≤ e.f3) && decide (e.f3 ≤ 119) else e.f3 == 0) && (if hasV e.f0 then true else e.f4 == 0)
theorem set0 (s0 s1 s2 s3 s4 s5 v : Int) : trace_set.f s0 s1 s2 s3 s4 s5 0 v = some (decide (0 ≤ v) && decide (v ≤ 7), s0, s1, v, s3, s4, s5) := by
  simp only [trace_set.f, if_true]
  by_cases h : v ≥ 0
  · rw [if_pos h]; simp; omega
  · rw [if_neg h]; simp; omega
theorem set1 (s0 s1 s2 s3 s4 s5 v : Int) : trace_set.f s0 s1 s2 s3 s4 s5 1 v = some (decide (0 ≤ v) && decide (v ≤ 7), s0, s1, s2, s3, s4, v) := by
  simp only [trace_set.f, if_true, if_neg (show ¬ (1 : Int) = 0 by decide)]
  by_cases h : v ≥ 0
  · rw [if_pos h]; simp; omega
  · rw [if_neg h]; simp; omega
theorem set2 (s0 s1 s2 s3 s4 s5 v : Int) : trace_set.f s0 s1 s2 s3 s4 s5 2 v = some (decide (0 ≤ v) && decide (v ≤ 1099511627776), s0, s1, s2, v, s4, s5) := by
  simp only [trace_set.f, if_true, if_neg (show ¬ (2 : Int) = 0 by decide), if_neg (show ¬ (2 : Int) = 1 by decide), if_neg (show ¬ (2 : Int) = 4 by decide), if_neg (show ¬ (2 : Int) = 3 by decide)]
  by_cases h : v ≥ 0
  · rw [if_pos h]; simp; omega
  · rw [if_neg h]; simp; omega
theorem set3 (s0 s1 s2 s3 s4 s5 v : Int) : trace_set.f s0 s1 s2 s3 s4 s5 3 v = some (decide (0 ≤ v) && decide (v ≤ 119), s0, s1, s2, v, s4, s5) := by
  simp only [trace_set.f, if_true, if_neg (show ¬ (3 : Int) = 0 by decide), if_neg (show ¬ (3 : Int) = 1 by decide), if_neg (show ¬ (3 : Int) = 4 by decide)]
  by_cases h : v ≥ 0
  · rw [if_pos h]; simp; omega
  · rw [if_neg h]; simp; omega
theorem i16_bd {v : Int} (h : (Lit.int .i16 v).wf = true) : -32768 ≤ v ∧ v ≤ 32767 := by
  have h1 : IntKind.i16.min = -32768 := by decide
  have h2 : IntKind.i16.max = 32767 := by decide
  simp only [Lit.wf, h1, h2, Bool.and_eq_true, decide_eq_true_eq] at h
  exact h
theorem i64_bd {v : Int} (h : (Lit.int .i64 v).wf = true) : -9223372036854775808 ≤ v ∧ v ≤ 9223372036854775807 := by
  have h1 : IntKind.i64.min = -9223372036854775808 := by decide
  have h2 : IntKind.i64.max = 9223372036854775807 := by decide
  simp only [Lit.wf, h1, h2, Bool.and_eq_true, decide_eq_true_eq] at h
  exact h
theorem set4 (s0 s1 s2 s3 s4 s5 v : Int) (h : -32768 ≤ v ∧ v ≤ 32767) : trace_set.f s0 s1 s2 s3 s4 s5 4 v = some (true, s0, s1, s2, s3, v, s5) := by
  simp only [trace_set.f, if_true, if_neg (show ¬ (4 : Int) = 0 by decide), if_neg (show ¬ (4 : Int) = 1 by decide)]
  rw [if_pos h.1, IntWalk.i16_in v h]
  simp [h.2]
theorem get0 (a b c d e f : Int) : trace_get.f a b c d e f 0 = some c := rfl
theorem get1 (a b c d e f : Int) : trace_get.f a b c d e f 1 = some f := rfl
theorem get2 (a b c d e f : Int) : trace_get.f a b c d e f 2 = some d := rfl
theorem get3 (a b c d e f : Int) : trace_get.f a b c d e f 3 = some d := rfl
theorem get4 (a b c d e f : Int) (h : -32768 ≤ e ∧ e ≤ 32767) : trace_get.f a b c d e f 4 = some e := by
  simp only [trace_get.f, if_true, if_neg (show ¬ (4 : Int) = 0 by decide), if_neg (show ¬ (4 : Int) = 1 by decide)]
  rw [wrap_id (by omega) (by omega)]
theorem zero_beq (x : Int) : ((0 : Int) == x) = (x == 0) := by rw [Bool.eq_iff_iff, beq_iff_eq, beq_iff_eq]; exact eq_comm
theorem bool_ite (b c : Bool) : (if b = true then some c else some false) = some (b && c) := by cases b <;> rfl
set_option maxHeartbeats 4000000 in
theorem vS_impl (e : S55) (hw : Wf55 e) : trace_Valid.f e.f0 e.f1 e.f2 e.f3 e.f4 e.f5 = some (VS e) := by
  obtain ⟨e0, e1, e2, e3, e4, e5⟩ := e
  have hv := i16_bd hw.2.2.2.2.1
  clear hw
  simp only at hv
  simp only [trace_Valid.f, VS]
  by_cases hc : 1 ≤ e0 ∧ e0 < 13 ∧ 0 ≤ e1 ∧ e1 ≤ 1099511627776
  · rw [if_pos hc]
    obtain ⟨h1, h2, h3, h4⟩ := hc
    obtain ⟨k, rfl⟩ := Int.eq_ofNat_of_zero_le (show 0 ≤ e0 by omega)
    match k, h1, h2 with
    | 1, _, _ => simp [flds, fldsN, vloop, get0, get1, get2, get3, get4 _ _ _ _ _ _ hv, set0, set1, set2, set3, set4 _ _ _ _ _ _ _ hv, bool_ite, eq6, zero_beq, hasT, hasP, hasN, hasV, h3, h4, Bool.and_assoc, Bool.and_comm, Bool.and_left_comm]
    | 2, _, _ => simp [flds, fldsN, vloop, get0, get1, get2, get3, get4 _ _ _ _ _ _ hv, set0, set1, set2, set3, set4 _ _ _ _ _ _ _ hv, bool_ite, eq6, zero_beq, hasT, hasP, hasN, hasV, h3, h4, Bool.and_assoc, Bool.and_comm, Bool.and_left_comm]
    | 3, _, _ => simp [flds, fldsN, vloop, get0, get1, get2, get3, get4 _ _ _ _ _ _ hv, set0, set1, set2, set3, set4 _ _ _ _ _ _ _ hv, bool_ite, eq6, zero_beq, hasT, hasP, hasN, hasV, h3, h4, Bool.and_assoc, Bool.and_comm, Bool.and_left_comm]
    | 4, _, _ => simp [flds, fldsN, vloop, get0, get1, get2, get3, get4 _ _ _ _ _ _ hv, set0, set1, set2, set3, set4 _ _ _ _ _ _ _ hv, bool_ite, eq6, zero_beq, hasT, hasP, hasN, hasV, h3, h4, Bool.and_assoc, Bool.and_comm, Bool.and_left_comm]
    | 5, _, _ => simp [flds, fldsN, vloop, get0, get1, get2, get3, get4 _ _ _ _ _ _ hv, set0, set1, set2, set3, set4 _ _ _ _ _ _ _ hv, bool_ite, eq6, zero_beq, hasT, hasP, hasN, hasV, h3, h4, Bool.and_assoc, Bool.and_comm, Bool.and_left_comm]
    | 6, _, _ => simp [flds, fldsN, vloop, get0, get1, get2, get3, get4 _ _ _ _ _ _ hv, set0, set1, set2, set3, set4 _ _ _ _ _ _ _ hv, bool_ite, eq6, zero_beq, hasT, hasP, hasN, hasV, h3, h4, Bool.and_assoc, Bool.and_comm, Bool.and_left_comm]
    | 7, _, _ => simp [flds, fldsN, vloop, get0, get1, get2, get3, get4 _ _ _ _ _ _ hv, set0, set1, set2, set3, set4 _ _ _ _ _ _ _ hv, bool_ite, eq6, zero_beq, hasT, hasP, hasN, hasV, h3, h4, Bool.and_assoc, Bool.and_comm, Bool.and_left_comm]
    | 8, _, _ => simp [flds, fldsN, vloop, get0, get1, get2, get3, get4 _ _ _ _ _ _ hv, set0, set1, set2, set3, set4 _ _ _ _ _ _ _ hv, bool_ite, eq6, zero_beq, hasT, hasP, hasN, hasV, h3, h4, Bool.and_assoc, Bool.and_comm, Bool.and_left_comm]
    | 9, _, _ => simp [flds, fldsN, vloop, get0, get1, get2, get3, get4 _ _ _ _ _ _ hv, set0, set1, set2, set3, set4 _ _ _ _ _ _ _ hv, bool_ite, eq6, zero_beq, hasT, hasP, hasN, hasV, h3, h4, Bool.and_assoc, Bool.and_comm, Bool.and_left_comm]
    | 10, _, _ => simp [flds, fldsN, vloop, get0, get1, get2, get3, get4 _ _ _ _ _ _ hv, set0, set1, set2, set3, set4 _ _ _ _ _ _ _ hv, bool_ite, eq6, zero_beq, hasT, hasP, hasN, hasV, h3, h4, Bool.and_assoc, Bool.and_comm, Bool.and_left_comm]
    | 11, _, _ => simp [flds, fldsN, vloop, get0, get1, get2, get3, get4 _ _ _ _ _ _ hv, set0, set1, set2, set3, set4 _ _ _ _ _ _ _ hv, bool_ite, eq6, zero_beq, hasT, hasP, hasN, hasV, h3, h4, Bool.and_assoc, Bool.and_comm, Bool.and_left_comm]
    | 12, _, _ => simp [flds, fldsN, vloop, get0, get1, get2, get3, get4 _ _ _ _ _ _ hv, set0, set1, set2, set3, set4 _ _ _ _ _ _ _ hv, bool_ite, eq6, zero_beq, hasT, hasP, hasN, hasV, h3, h4, Bool.and_assoc, Bool.and_comm, Bool.and_left_comm]
    | k + 13, _, h => omega
  · rw [if_neg hc]
    congr 1
    symm
    simp only [Bool.and_eq_false_iff]
    by_cases h1 : 1 ≤ e0
    · by_cases h2 : e0 < 13
      · by_cases h3 : 0 ≤ e1
        · exact .inl (.inl (.inl (.inl (.inr (decide_eq_false (by omega))))))
        · exact .inl (.inl (.inl (.inl (.inl (.inr (decide_eq_false h3))))))
      · exact .inl (.inl (.inl (.inl (.inl (.inl (.inr (decide_eq_false h2)))))))
    · exact .inl (.inl (.inl (.inl (.inl (.inl (.inl (decide_eq_false h1)))))))
theorem validE_eq (e : S55) (hw : Wf55 e) : validE e = VS e := by
  unfold validE
  rw [vS_impl e hw]
  rfl
end Go.Proofs.YtakkifbcaedcoaaDoor.PX
