/- (*machine).apply: what it computes, and that the call computes it. -/
import Derived.Test.YtakkifbcaedcoaaDoorPXx5
namespace Go.Proofs.YtakkifbcaedcoaaDoor.PX
open Go.RowKit Go.Proofs.YtakkifbcaedcoaaDoorW.PrintWords Go.Proofs.YtakkifbcaedcoaaDoorW.PrintLast Go.Proofs.YtakkifbcaedcoaaDoorW.PrintMore
attribute [local go_sem] max2_int min2_int
set_option linter.unusedVariables false
set_option linter.unusedSimpArgs false
def verify_machine_apply.f (s0_0 : Bool) (s0_1 s0_2 s0_3 s0_4 s0_5 s0_6 s0_7 s0_8 : Int) (a1_0 a1_1 a1_2 a1_3 a1_4 a1_5 : Int) : Option (Bool × Int × Int × Int × Int × Int × Int × Int × Int) :=
  some ((if a1_0 = 1 then true else if a1_0 = 2 then false else s0_0), (if a1_0 = 3 then a1_2 else if a1_0 = 6 ∨ a1_0 = 9 then -1 else s0_1), a1_0, a1_1, a1_2, a1_3, a1_4, a1_5, mx s0_8 a1_1)
set_option maxHeartbeats 400000 in
set_option maxRecDepth 100000 in
theorem apply_other (g : Nat) (s0_0 : Bool) (s0_1 s0_2 s0_3 s0_4 s0_5 s0_6 s0_7 s0_8 : Int) (a1_0 a1_1 a1_2 a1_3 a1_4 a1_5 : Int) (w0 w : World) (hI : IsS57 w0 w g s0_0 s0_1 s0_2 s0_3 s0_4 s0_5 s0_6 s0_7 s0_8) (hB : Below w0.heap.size w0 w)
    (h : ¬ a1_0 = 1 ∧ ¬ a1_0 = 2 ∧ ¬ a1_0 = 3 ∧ ¬ a1_0 = 6 ∧ ¬ a1_0 = 9) :
    Calls Tryd.prog 26 #[.pointer (some ⟨g, 0, none⟩), .agg #[.int .i64 a1_0, .int .i64 a1_1, .int .i64 a1_2, .int .i64 a1_3, .int .i16 a1_4, .int .i64 a1_5]] w fun e w' => e = .returned (.tuple #[]) ∧ IsS57 w0 w' g s0_0 s0_1 a1_0 a1_1 a1_2 a1_3 a1_4 a1_5 (mx s0_8 a1_1) ∧ Below w0.heap.size w0 w' ∧ KeepBut w w' g none := by
  have hu55 := Tryd.underlying55
  have hu57 := Tryd.underlying57
  have HI := Aside0.mk hI
  have HB := Aside0.mk hB
  obtain ⟨hb, hg⟩ := hI
  have hlt := blk_lt hb
  have c0 := cellS57_0 hb
  have c1 := cellS57_1 hb
  have c2 := cellS57_2 hb
  have c3 := cellS57_3 hb
  have c4 := cellS57_4 hb
  have c5 := cellS57_5 hb
  have c6 := cellS57_6 hb
  have c7 := cellS57_7 hb
  have c8 := cellS57_8 hb
  have f0 := blk_frozen hb 0
  have f1 := blk_frozen hb 1
  have f2 := blk_frozen hb 2
  have f3 := blk_frozen hb 3
  have f4 := blk_frozen hb 4
  have f5 := blk_frozen hb 5
  have f6 := blk_frozen hb 6
  have f7 := blk_frozen hb 7
  have f8 := blk_frozen hb 8
  clear hb hg hB
  have e1 : (a1_0 == 1) = false := beq_eq_false_iff_ne.mpr (by omega)
  have e2 : (a1_0 == 2) = false := beq_eq_false_iff_ne.mpr (by omega)
  have e3 : (a1_0 == 3) = false := beq_eq_false_iff_ne.mpr (by omega)
  have e6 : (a1_0 == 6) = false := beq_eq_false_iff_ne.mpr (by omega)
  have e9 : (a1_0 == 9) = false := beq_eq_false_iff_ne.mpr (by omega)
  clear h
  go_enter Tryd.func26, Tryd.ntmps26
  go_wp2
  go_region
  all_goals
    go_end0
    unfold mx
    refine ⟨rfl, ?_, ?_, ?_⟩
    · with_reducible repeat (first | exact HI.out | apply IsS57.drew | apply IsS57.alloc | apply IsS57.set_8 | apply IsS57.set_7 | apply IsS57.set_6 | apply IsS57.set_5 | apply IsS57.set_4 | apply IsS57.set_3 | apply IsS57.set_2 | apply IsS57.set_1 | apply IsS57.set_0)
    · with_reducible repeat (first | exact HB.out | apply below_drew | apply below_alloc | refine below_set ?_ (IsS57.ge HI.out))
    · with_reducible repeat (first | exact KeepBut.refl _ _ _ | apply keep_drew | apply keep_alloc | apply KeepBut.set_)
set_option maxHeartbeats 400000 in
set_option maxRecDepth 100000 in
theorem apply_1 (g : Nat) (s0_0 : Bool) (s0_1 s0_2 s0_3 s0_4 s0_5 s0_6 s0_7 s0_8 : Int) (a1_0 a1_1 a1_2 a1_3 a1_4 a1_5 : Int) (w0 w : World) (hI : IsS57 w0 w g s0_0 s0_1 s0_2 s0_3 s0_4 s0_5 s0_6 s0_7 s0_8) (hB : Below w0.heap.size w0 w)
    (h : a1_0 = 1) :
    Calls Tryd.prog 26 #[.pointer (some ⟨g, 0, none⟩), .agg #[.int .i64 a1_0, .int .i64 a1_1, .int .i64 a1_2, .int .i64 a1_3, .int .i16 a1_4, .int .i64 a1_5]] w fun e w' => e = .returned (.tuple #[]) ∧ IsS57 w0 w' g true s0_1 a1_0 a1_1 a1_2 a1_3 a1_4 a1_5 (mx s0_8 a1_1) ∧ Below w0.heap.size w0 w' ∧ KeepBut w w' g none := by
  have hu55 := Tryd.underlying55
  have hu57 := Tryd.underlying57
  have HI := Aside0.mk hI
  have HB := Aside0.mk hB
  obtain ⟨hb, hg⟩ := hI
  have hlt := blk_lt hb
  have c0 := cellS57_0 hb
  have c1 := cellS57_1 hb
  have c2 := cellS57_2 hb
  have c3 := cellS57_3 hb
  have c4 := cellS57_4 hb
  have c5 := cellS57_5 hb
  have c6 := cellS57_6 hb
  have c7 := cellS57_7 hb
  have c8 := cellS57_8 hb
  have f0 := blk_frozen hb 0
  have f1 := blk_frozen hb 1
  have f2 := blk_frozen hb 2
  have f3 := blk_frozen hb 3
  have f4 := blk_frozen hb 4
  have f5 := blk_frozen hb 5
  have f6 := blk_frozen hb 6
  have f7 := blk_frozen hb 7
  have f8 := blk_frozen hb 8
  clear hb hg hB
  have e1 : (a1_0 == 1) = true := beq_iff_eq.mpr h
  clear h
  go_enter Tryd.func26, Tryd.ntmps26
  go_wp2
  go_region
  all_goals
    go_end0
    unfold mx
    refine ⟨rfl, ?_, ?_, ?_⟩
    · with_reducible repeat (first | exact HI.out | apply IsS57.drew | apply IsS57.alloc | apply IsS57.set_8 | apply IsS57.set_7 | apply IsS57.set_6 | apply IsS57.set_5 | apply IsS57.set_4 | apply IsS57.set_3 | apply IsS57.set_2 | apply IsS57.set_1 | apply IsS57.set_0)
    · with_reducible repeat (first | exact HB.out | apply below_drew | apply below_alloc | refine below_set ?_ (IsS57.ge HI.out))
    · with_reducible repeat (first | exact KeepBut.refl _ _ _ | apply keep_drew | apply keep_alloc | apply KeepBut.set_)
set_option maxHeartbeats 400000 in
set_option maxRecDepth 100000 in
theorem apply_2 (g : Nat) (s0_0 : Bool) (s0_1 s0_2 s0_3 s0_4 s0_5 s0_6 s0_7 s0_8 : Int) (a1_0 a1_1 a1_2 a1_3 a1_4 a1_5 : Int) (w0 w : World) (hI : IsS57 w0 w g s0_0 s0_1 s0_2 s0_3 s0_4 s0_5 s0_6 s0_7 s0_8) (hB : Below w0.heap.size w0 w)
    (h : a1_0 = 2) :
    Calls Tryd.prog 26 #[.pointer (some ⟨g, 0, none⟩), .agg #[.int .i64 a1_0, .int .i64 a1_1, .int .i64 a1_2, .int .i64 a1_3, .int .i16 a1_4, .int .i64 a1_5]] w fun e w' => e = .returned (.tuple #[]) ∧ IsS57 w0 w' g false s0_1 a1_0 a1_1 a1_2 a1_3 a1_4 a1_5 (mx s0_8 a1_1) ∧ Below w0.heap.size w0 w' ∧ KeepBut w w' g none := by
  have hu55 := Tryd.underlying55
  have hu57 := Tryd.underlying57
  have HI := Aside0.mk hI
  have HB := Aside0.mk hB
  obtain ⟨hb, hg⟩ := hI
  have hlt := blk_lt hb
  have c0 := cellS57_0 hb
  have c1 := cellS57_1 hb
  have c2 := cellS57_2 hb
  have c3 := cellS57_3 hb
  have c4 := cellS57_4 hb
  have c5 := cellS57_5 hb
  have c6 := cellS57_6 hb
  have c7 := cellS57_7 hb
  have c8 := cellS57_8 hb
  have f0 := blk_frozen hb 0
  have f1 := blk_frozen hb 1
  have f2 := blk_frozen hb 2
  have f3 := blk_frozen hb 3
  have f4 := blk_frozen hb 4
  have f5 := blk_frozen hb 5
  have f6 := blk_frozen hb 6
  have f7 := blk_frozen hb 7
  have f8 := blk_frozen hb 8
  clear hb hg hB
  have e1 : (a1_0 == 1) = false := beq_eq_false_iff_ne.mpr (by omega)
  have e2 : (a1_0 == 2) = true := beq_iff_eq.mpr h
  clear h
  go_enter Tryd.func26, Tryd.ntmps26
  go_wp2
  go_region
  all_goals
    go_end0
    unfold mx
    refine ⟨rfl, ?_, ?_, ?_⟩
    · with_reducible repeat (first | exact HI.out | apply IsS57.drew | apply IsS57.alloc | apply IsS57.set_8 | apply IsS57.set_7 | apply IsS57.set_6 | apply IsS57.set_5 | apply IsS57.set_4 | apply IsS57.set_3 | apply IsS57.set_2 | apply IsS57.set_1 | apply IsS57.set_0)
    · with_reducible repeat (first | exact HB.out | apply below_drew | apply below_alloc | refine below_set ?_ (IsS57.ge HI.out))
    · with_reducible repeat (first | exact KeepBut.refl _ _ _ | apply keep_drew | apply keep_alloc | apply KeepBut.set_)
set_option maxHeartbeats 400000 in
set_option maxRecDepth 100000 in
theorem apply_3 (g : Nat) (s0_0 : Bool) (s0_1 s0_2 s0_3 s0_4 s0_5 s0_6 s0_7 s0_8 : Int) (a1_0 a1_1 a1_2 a1_3 a1_4 a1_5 : Int) (w0 w : World) (hI : IsS57 w0 w g s0_0 s0_1 s0_2 s0_3 s0_4 s0_5 s0_6 s0_7 s0_8) (hB : Below w0.heap.size w0 w)
    (h : a1_0 = 3) :
    Calls Tryd.prog 26 #[.pointer (some ⟨g, 0, none⟩), .agg #[.int .i64 a1_0, .int .i64 a1_1, .int .i64 a1_2, .int .i64 a1_3, .int .i16 a1_4, .int .i64 a1_5]] w fun e w' => e = .returned (.tuple #[]) ∧ IsS57 w0 w' g s0_0 a1_2 a1_0 a1_1 a1_2 a1_3 a1_4 a1_5 (mx s0_8 a1_1) ∧ Below w0.heap.size w0 w' ∧ KeepBut w w' g none := by
  have hu55 := Tryd.underlying55
  have hu57 := Tryd.underlying57
  have HI := Aside0.mk hI
  have HB := Aside0.mk hB
  obtain ⟨hb, hg⟩ := hI
  have hlt := blk_lt hb
  have c0 := cellS57_0 hb
  have c1 := cellS57_1 hb
  have c2 := cellS57_2 hb
  have c3 := cellS57_3 hb
  have c4 := cellS57_4 hb
  have c5 := cellS57_5 hb
  have c6 := cellS57_6 hb
  have c7 := cellS57_7 hb
  have c8 := cellS57_8 hb
  have f0 := blk_frozen hb 0
  have f1 := blk_frozen hb 1
  have f2 := blk_frozen hb 2
  have f3 := blk_frozen hb 3
  have f4 := blk_frozen hb 4
  have f5 := blk_frozen hb 5
  have f6 := blk_frozen hb 6
  have f7 := blk_frozen hb 7
  have f8 := blk_frozen hb 8
  clear hb hg hB
  have e1 : (a1_0 == 1) = false := beq_eq_false_iff_ne.mpr (by omega)
  have e2 : (a1_0 == 2) = false := beq_eq_false_iff_ne.mpr (by omega)
  have e3 : (a1_0 == 3) = true := beq_iff_eq.mpr h
  clear h
  go_enter Tryd.func26, Tryd.ntmps26
  go_wp2
  go_region
  all_goals
    go_end0
    unfold mx
    refine ⟨rfl, ?_, ?_, ?_⟩
    · with_reducible repeat (first | exact HI.out | apply IsS57.drew | apply IsS57.alloc | apply IsS57.set_8 | apply IsS57.set_7 | apply IsS57.set_6 | apply IsS57.set_5 | apply IsS57.set_4 | apply IsS57.set_3 | apply IsS57.set_2 | apply IsS57.set_1 | apply IsS57.set_0)
    · with_reducible repeat (first | exact HB.out | apply below_drew | apply below_alloc | refine below_set ?_ (IsS57.ge HI.out))
    · with_reducible repeat (first | exact KeepBut.refl _ _ _ | apply keep_drew | apply keep_alloc | apply KeepBut.set_)
set_option maxHeartbeats 400000 in
set_option maxRecDepth 100000 in
theorem apply_6 (g : Nat) (s0_0 : Bool) (s0_1 s0_2 s0_3 s0_4 s0_5 s0_6 s0_7 s0_8 : Int) (a1_0 a1_1 a1_2 a1_3 a1_4 a1_5 : Int) (w0 w : World) (hI : IsS57 w0 w g s0_0 s0_1 s0_2 s0_3 s0_4 s0_5 s0_6 s0_7 s0_8) (hB : Below w0.heap.size w0 w)
    (h : a1_0 = 6) :
    Calls Tryd.prog 26 #[.pointer (some ⟨g, 0, none⟩), .agg #[.int .i64 a1_0, .int .i64 a1_1, .int .i64 a1_2, .int .i64 a1_3, .int .i16 a1_4, .int .i64 a1_5]] w fun e w' => e = .returned (.tuple #[]) ∧ IsS57 w0 w' g s0_0 (-1) a1_0 a1_1 a1_2 a1_3 a1_4 a1_5 (mx s0_8 a1_1) ∧ Below w0.heap.size w0 w' ∧ KeepBut w w' g none := by
  have hu55 := Tryd.underlying55
  have hu57 := Tryd.underlying57
  have HI := Aside0.mk hI
  have HB := Aside0.mk hB
  obtain ⟨hb, hg⟩ := hI
  have hlt := blk_lt hb
  have c0 := cellS57_0 hb
  have c1 := cellS57_1 hb
  have c2 := cellS57_2 hb
  have c3 := cellS57_3 hb
  have c4 := cellS57_4 hb
  have c5 := cellS57_5 hb
  have c6 := cellS57_6 hb
  have c7 := cellS57_7 hb
  have c8 := cellS57_8 hb
  have f0 := blk_frozen hb 0
  have f1 := blk_frozen hb 1
  have f2 := blk_frozen hb 2
  have f3 := blk_frozen hb 3
  have f4 := blk_frozen hb 4
  have f5 := blk_frozen hb 5
  have f6 := blk_frozen hb 6
  have f7 := blk_frozen hb 7
  have f8 := blk_frozen hb 8
  clear hb hg hB
  have e1 : (a1_0 == 1) = false := beq_eq_false_iff_ne.mpr (by omega)
  have e2 : (a1_0 == 2) = false := beq_eq_false_iff_ne.mpr (by omega)
  have e3 : (a1_0 == 3) = false := beq_eq_false_iff_ne.mpr (by omega)
  have e6 : (a1_0 == 6) = true := beq_iff_eq.mpr h
  clear h
  go_enter Tryd.func26, Tryd.ntmps26
  go_wp2
  go_region
  all_goals
    go_end0
    unfold mx
    refine ⟨rfl, ?_, ?_, ?_⟩
    · with_reducible repeat (first | exact HI.out | apply IsS57.drew | apply IsS57.alloc | apply IsS57.set_8 | apply IsS57.set_7 | apply IsS57.set_6 | apply IsS57.set_5 | apply IsS57.set_4 | apply IsS57.set_3 | apply IsS57.set_2 | apply IsS57.set_1 | apply IsS57.set_0)
    · with_reducible repeat (first | exact HB.out | apply below_drew | apply below_alloc | refine below_set ?_ (IsS57.ge HI.out))
    · with_reducible repeat (first | exact KeepBut.refl _ _ _ | apply keep_drew | apply keep_alloc | apply KeepBut.set_)
set_option maxHeartbeats 400000 in
set_option maxRecDepth 100000 in
theorem apply_9 (g : Nat) (s0_0 : Bool) (s0_1 s0_2 s0_3 s0_4 s0_5 s0_6 s0_7 s0_8 : Int) (a1_0 a1_1 a1_2 a1_3 a1_4 a1_5 : Int) (w0 w : World) (hI : IsS57 w0 w g s0_0 s0_1 s0_2 s0_3 s0_4 s0_5 s0_6 s0_7 s0_8) (hB : Below w0.heap.size w0 w)
    (h : a1_0 = 9) :
    Calls Tryd.prog 26 #[.pointer (some ⟨g, 0, none⟩), .agg #[.int .i64 a1_0, .int .i64 a1_1, .int .i64 a1_2, .int .i64 a1_3, .int .i16 a1_4, .int .i64 a1_5]] w fun e w' => e = .returned (.tuple #[]) ∧ IsS57 w0 w' g s0_0 (-1) a1_0 a1_1 a1_2 a1_3 a1_4 a1_5 (mx s0_8 a1_1) ∧ Below w0.heap.size w0 w' ∧ KeepBut w w' g none := by
  have hu55 := Tryd.underlying55
  have hu57 := Tryd.underlying57
  have HI := Aside0.mk hI
  have HB := Aside0.mk hB
  obtain ⟨hb, hg⟩ := hI
  have hlt := blk_lt hb
  have c0 := cellS57_0 hb
  have c1 := cellS57_1 hb
  have c2 := cellS57_2 hb
  have c3 := cellS57_3 hb
  have c4 := cellS57_4 hb
  have c5 := cellS57_5 hb
  have c6 := cellS57_6 hb
  have c7 := cellS57_7 hb
  have c8 := cellS57_8 hb
  have f0 := blk_frozen hb 0
  have f1 := blk_frozen hb 1
  have f2 := blk_frozen hb 2
  have f3 := blk_frozen hb 3
  have f4 := blk_frozen hb 4
  have f5 := blk_frozen hb 5
  have f6 := blk_frozen hb 6
  have f7 := blk_frozen hb 7
  have f8 := blk_frozen hb 8
  clear hb hg hB
  have e1 : (a1_0 == 1) = false := beq_eq_false_iff_ne.mpr (by omega)
  have e2 : (a1_0 == 2) = false := beq_eq_false_iff_ne.mpr (by omega)
  have e3 : (a1_0 == 3) = false := beq_eq_false_iff_ne.mpr (by omega)
  have e6 : (a1_0 == 6) = false := beq_eq_false_iff_ne.mpr (by omega)
  have e9 : (a1_0 == 9) = true := beq_iff_eq.mpr h
  clear h
  go_enter Tryd.func26, Tryd.ntmps26
  go_wp2
  go_region
  all_goals
    go_end0
    unfold mx
    refine ⟨rfl, ?_, ?_, ?_⟩
    · with_reducible repeat (first | exact HI.out | apply IsS57.drew | apply IsS57.alloc | apply IsS57.set_8 | apply IsS57.set_7 | apply IsS57.set_6 | apply IsS57.set_5 | apply IsS57.set_4 | apply IsS57.set_3 | apply IsS57.set_2 | apply IsS57.set_1 | apply IsS57.set_0)
    · with_reducible repeat (first | exact HB.out | apply below_drew | apply below_alloc | refine below_set ?_ (IsS57.ge HI.out))
    · with_reducible repeat (first | exact KeepBut.refl _ _ _ | apply keep_drew | apply keep_alloc | apply KeepBut.set_)
theorem verify_machine_apply.calls (g : Nat) (s0_0 : Bool) (s0_1 : Int) (s0_2 : Int) (s0_3 : Int) (s0_4 : Int) (s0_5 : Int) (s0_6 : Int) (s0_7 : Int) (s0_8 : Int) (a1_0 : Int) (a1_1 : Int) (a1_2 : Int) (a1_3 : Int) (a1_4 : Int) (a1_5 : Int) (r1 : Bool) (r2 : Int) (r3 : Int) (r4 : Int) (r5 : Int) (r6 : Int) (r7 : Int) (r8 : Int) (r9 : Int) (w0 w : World) (hI : IsS57 w0 w g s0_0 s0_1 s0_2 s0_3 s0_4 s0_5 s0_6 s0_7 s0_8) (hB : Below w0.heap.size w0 w)
    (h : verify_machine_apply.f s0_0 s0_1 s0_2 s0_3 s0_4 s0_5 s0_6 s0_7 s0_8 a1_0 a1_1 a1_2 a1_3 a1_4 a1_5 = some (r1, r2, r3, r4, r5, r6, r7, r8, r9)) :
    Calls Tryd.prog 26 #[.pointer (some ⟨g, 0, none⟩), .agg #[.int .i64 a1_0, .int .i64 a1_1, .int .i64 a1_2, .int .i64 a1_3, .int .i16 a1_4, .int .i64 a1_5]] w fun e w' => e = .returned (.tuple #[]) ∧ IsS57 w0 w' g r1 r2 r3 r4 r5 r6 r7 r8 r9 ∧ Below w0.heap.size w0 w' ∧ KeepBut w w' g none := by
  simp only [verify_machine_apply.f, Option.some.injEq, Prod.mk.injEq] at h
  obtain ⟨e1, e2, rfl, rfl, rfl, rfl, rfl, rfl, rfl⟩ := h
  by_cases h1 : a1_0 = 1
  · rw [if_pos h1] at e1; rw [if_neg (by omega), if_neg (by omega)] at e2; subst e1; subst e2; exact apply_1 _ _ _ _ _ _ _ _ _ _ _ _ _ _ _ _ _ _ hI hB h1
  rw [if_neg h1] at e1
  by_cases h2 : a1_0 = 2
  · rw [if_pos h2] at e1; rw [if_neg (by omega), if_neg (by omega)] at e2; subst e1; subst e2; exact apply_2 _ _ _ _ _ _ _ _ _ _ _ _ _ _ _ _ _ _ hI hB h2
  rw [if_neg h2] at e1
  by_cases h3 : a1_0 = 3
  · rw [if_pos h3] at e2; subst e1; subst e2; exact apply_3 _ _ _ _ _ _ _ _ _ _ _ _ _ _ _ _ _ _ hI hB h3
  rw [if_neg h3] at e2
  by_cases h6 : a1_0 = 6
  · rw [if_pos (.inl h6)] at e2; subst e1; subst e2; exact apply_6 _ _ _ _ _ _ _ _ _ _ _ _ _ _ _ _ _ _ hI hB h6
  by_cases h9 : a1_0 = 9
  · rw [if_pos (.inr h9)] at e2; subst e1; subst e2; exact apply_9 _ _ _ _ _ _ _ _ _ _ _ _ _ _ _ _ _ _ hI hB h9
  · rw [if_neg (by omega)] at e2; subst e1; subst e2; exact apply_other _ _ _ _ _ _ _ _ _ _ _ _ _ _ _ _ _ _ hI hB ⟨h1, h2, h3, h6, h9⟩
end Go.Proofs.YtakkifbcaedcoaaDoor.PX
