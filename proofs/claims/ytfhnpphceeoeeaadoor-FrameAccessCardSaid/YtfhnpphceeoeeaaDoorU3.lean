/- Parts of the proof, merged in build order: PXx32, Cr3, PXx29, PXx30, PXx31, PXx33. -/
import Derived.Test.YtfhnpphceeoeeaaDoorU1
import Derived.Test.YtfhnpphceeoeeaaDoorU2
-- Written by a program of this session (wip/xprint.py, over the kit's print tool). Lean checks it.
namespace Go.Proofs.YtfhnpphceeoeeaaDoor.PX
open Go.RowKit Go.Proofs.YtfhnpphceeoeeaaDoorW.PrintWords Go.Proofs.YtfhnpphceeoeeaaDoorW.PrintLast Go.Proofs.YtfhnpphceeoeeaaDoorW.PrintMore
attribute [local go_sem] max2_int min2_int max_two min_two max_three min_three max_four min_four   -- for this text's walks alone
set_option linter.unusedVariables false
set_option linter.unusedSimpArgs false

/-! ### frame_Chunked: function 32 -/
def frame_Chunked.j0 : Nat → Bool → Int → Int → List Int → Option (Int × List Int × Bool)
  | 0, _, _, _, _ => none
  | k + 1, x27, x390000, x390001, x390002 => if x27 = true then (some (0, ([] : List Int), false)) else (if 4 ≤ (x390002.length : Int) then ((frame_value.f k (x390002.take 4)).bind fun t394 => ((bytes_Clone.f (x390002.drop 4)).bind fun t396 => (some (t394, t396, true)))) else (none))
def frame_Chunked.f (k : Nat) (a0_0 : Int) (a0_1 : Int) (l0_2 : List Int) : Option (Int × List Int × Bool) := if a0_0 = 4 then (if (l0_2.length : Int) < 5 then (frame_Chunked.j0 k true a0_0 a0_1 l0_2) else (if (l0_2.length : Int) > 40 then (frame_Chunked.j0 k true a0_0 a0_1 l0_2) else (if 4 ≤ (l0_2.length : Int) then ((frame_value.f k (l0_2.take 4)).bind fun t391 => ((frame_seq.f t391).bind fun t392 => (frame_Chunked.j0 k (!t392) a0_0 a0_1 l0_2))) else (none)))) else (frame_Chunked.j0 k true a0_0 a0_1 l0_2)
def frame_Chunked.T3 : Bool × List (List Nat × List Nat) := (true, [([], []), ([0], [0]), ([1], [1]), ([2], [2]), ([], []), ([4], [4]), ([5], [5]), ([6, 3], [6]), ([3, 7, 0, 1, 2, 3], [3]), ([7, 8, 0, 1, 2, 3, 4, 5, 6, 7, 8], [7]), ([9, 0, 1, 2, 3, 4, 5, 6, 7, 8, 9], [])])
def frame_Chunked.B3 : List Nat := [0, 1, 3, 7, 0, 16, 48, 127, 255, 511, 1023]
theorem frame_Chunked.tab3 : rtab .any (opsOf Tryd.f32 3) = frame_Chunked.T3 := by kernel_rfl
theorem frame_Chunked.bits3 : waitsOk frame_Chunked.T3.2 frame_Chunked.B3 = true := by kernel_rfl
set_option maxHeartbeats 8000000 in
set_option maxRecDepth 100000 in
theorem frame_Chunked.calls (k : Nat) (a0_0 : Int) (a0_1 : Int) (A0_2 : Option Addr) (c0_2 : Nat) (l0_2 : List Int) (r1 : Int) (r2 : List Int) (r3 : Bool) (w : World) (hr0_2 : Kd.C (Kd.int .u8) w A0_2 l0_2.length l0_2) (hc0_2 : l0_2.length ≤ c0_2) (h : frame_Chunked.f k a0_0 a0_1 l0_2 = some (r1, r2, r3)) :
    Calls Tryd.prog 32 #[.agg #[.int .i64 a0_0, .int .i64 a0_1, .slice A0_2 l0_2.length c0_2]] w fun e w' => ∃ v1_ : Value, e = .returned (.tuple #[.int .i64 r1, v1_, .bool r3]) ∧ Kd.R (Kd.int .u8) 5 w' w.heap.size (fun _ => True) v1_ r2 ∧ Below w.heap.size w w' := by
  have hu29 := Tryd.underlying29
  have HR0_2 := Aside0.mk hr0_2
  have HC0_2 := Aside0.mk hc0_2
  clear hr0_2 hc0_2
  have HB := Aside0.mk (Below.refl w.heap.size w)
  have H : (if a0_0 = 4 then (if (l0_2.length : Int) < 5 then (frame_Chunked.j0 k true a0_0 a0_1 l0_2) else (if (l0_2.length : Int) > 40 then (frame_Chunked.j0 k true a0_0 a0_1 l0_2) else (if 4 ≤ (l0_2.length : Int) then ((frame_value.f k (l0_2.take 4)).bind fun t391 => ((frame_seq.f t391).bind fun t392 => (frame_Chunked.j0 k (!t392) a0_0 a0_1 l0_2))) else (none)))) else (frame_Chunked.j0 k true a0_0 a0_1 l0_2)) = some (r1, r2, r3) := h
  clear h
  have HC2 := Aside0.mk H
  clear H
  go_enter Tryd.func32, Tryd.ntmps32
  go_upto_region 1 with (first | ((with_reducible refine gate_dst (N := 1) rfl ?_); (try (refine gate_guard (by rfl) ?_; dsimp only)); refine box_event ?hg (N := 1) ?hd (cs := #[.int .i64 a0_0, .int .i64 a0_1, .slice A0_2 l0_2.length c0_2]) (t := 29) ?hr ?_; (case hd => rfl); (case hg => rfl); (case hr => first | (go_simp; done) | (go_simp; rfl)); intro gb389 hg w3 hbox hb; have n0_ := Aside0.mk (below_step (by repeat (first | (with_reducible first | exact HB.out | apply below_alloc | apply pw_below_drewN | apply below_drew1) | exact HB.out)) hb); have n1_ := Aside0.mk (hbox); have n2_ := Aside0.mk ((by rw [hg]; exact (below_size (by repeat (first | (with_reducible first | exact HB.out | apply below_alloc | apply pw_below_drewN | apply below_drew1) | exact HB.out))) : w.heap.size ≤ gb389)); have n3_ := Aside0.mk ((by rw [hg]; exact (below_size (by repeat (first | (with_reducible first | exact HB.out | apply below_alloc | apply pw_below_drewN | apply below_drew1) | exact HB.out))) : w.heap.size ≤ gb389)); clear HB; have HB := n0_; have BK389 := n1_; have GW389 := n2_; have GE389 := n3_; clear n0_ n1_ n2_ n3_; clear hb hbox hg))
  (try simp only [Act.put, List.setIfInBounds_toArray, List.set_cons_zero, List.set_cons_succ])
  go_cut [27] (fun v27 wc => ∃ (kq : Nat) (x27_1 : Bool), v27 = .bool x27_1 ∧ Aside0 (frame_Chunked.j0 kq x27_1 a0_0 a0_1 l0_2 = some (r1, r2, r3)) ∧ Aside0 (kq ≤ k) ∧ Aside0 (wc.heap[gb389]? = some (.cells #[.int .i64 a0_0, .int .i64 a0_1, (.slice A0_2 l0_2.length c0_2)] 29 (0, 0))) ∧ Aside0 (Below w.heap.size w wc))
  case first =>
    have H := HC2.out
    clear HC2
    by_cases c4 : a0_0 = 4
    · rw [if_pos c4] at H
      have c4b0 : (a0_0 == 4) = true := beq_iff_eq.mpr c4
      have c4b1 : (a0_0 != 4) = false := bne_eq_false_iff_eq.mpr c4
      clear c4
      (first | rw [c4b0] | (simp only [i64_w, i32_w]; rw [c4b0]) | skip)
      by_cases c5 : (l0_2.length : Int) < 5
      · rw [if_pos c5] at H
        have c5b0 : decide ((l0_2.length : Int) < 5) = true := decide_eq_true c5
        have c5b1 : decide (l0_2.length < 5) = true := decide_eq_true (by omega)
        clear c5
        have H' := Aside0.mk H
        clear H
        have hcz6_0 : w3.cell? ⟨gb389, 0, none⟩ = some (.int .i64 a0_0) := (blk_cell BK389.out 0).trans rfl
        have hcz6_1 : w3.cell? ⟨gb389, 1, none⟩ = some (.int .i64 a0_1) := (blk_cell BK389.out 1).trans rfl
        have hcz6_2 : w3.cell? ⟨gb389, 2, none⟩ = some (.slice A0_2 l0_2.length c0_2) := (blk_cell BK389.out 2).trans rfl
        have hfz6_0 := blk_frozen BK389.out 0
        have hfz6_1 := blk_frozen BK389.out 1
        have hfz6_2 := blk_frozen BK389.out 2
        go_wp2
        go_meet
        case rel => exact ⟨_, (true), (by first | rfl | (simp; done) | (simp [*]; done)), H', ⟨by first | omega | exact Nat.le_refl _⟩, ⟨by (with_reducible repeat (first | refine blk_drewN ?_ _ | refine blk_drew ?_ | refine blk_alloc ?_ _)); exact BK389.out⟩, ⟨by repeat (first | (with_reducible first | exact HB.out | apply below_alloc | apply pw_below_drewN | apply below_drew1 | refine below_set ?_ GE389.out) | exact HB.out)⟩⟩
      · rw [if_neg c5] at H
        have c5b0 : decide ((l0_2.length : Int) < 5) = false := decide_eq_false c5
        have c5b1 : decide (l0_2.length < 5) = false := decide_eq_false (by omega)
        clear c5
        by_cases c7 : (l0_2.length : Int) > 40
        · rw [if_pos c7] at H
          have c7b0 : decide (40 < (l0_2.length : Int)) = true := decide_eq_true c7
          have c7b1 : decide (40 < l0_2.length) = true := decide_eq_true (by omega)
          clear c7
          have H' := Aside0.mk H
          clear H
          have hcz8_0 : w3.cell? ⟨gb389, 0, none⟩ = some (.int .i64 a0_0) := (blk_cell BK389.out 0).trans rfl
          have hcz8_1 : w3.cell? ⟨gb389, 1, none⟩ = some (.int .i64 a0_1) := (blk_cell BK389.out 1).trans rfl
          have hcz8_2 : w3.cell? ⟨gb389, 2, none⟩ = some (.slice A0_2 l0_2.length c0_2) := (blk_cell BK389.out 2).trans rfl
          have hfz8_0 := blk_frozen BK389.out 0
          have hfz8_1 := blk_frozen BK389.out 1
          have hfz8_2 := blk_frozen BK389.out 2
          go_wp2
          go_meet
          case rel => exact ⟨_, (true), (by first | rfl | (simp; done) | (simp [*]; done)), H', ⟨by first | omega | exact Nat.le_refl _⟩, ⟨by (with_reducible repeat (first | refine blk_drewN ?_ _ | refine blk_drew ?_ | refine blk_alloc ?_ _)); exact BK389.out⟩, ⟨by repeat (first | (with_reducible first | exact HB.out | apply below_alloc | apply pw_below_drewN | apply below_drew1 | refine below_set ?_ GE389.out) | exact HB.out)⟩⟩
        · rw [if_neg c7] at H
          have c7b0 : decide (40 < (l0_2.length : Int)) = false := decide_eq_false c7
          have c7b1 : decide (40 < l0_2.length) = false := decide_eq_false (by omega)
          clear c7
          by_cases c9 : 4 ≤ (l0_2.length : Int)
          · rw [if_pos c9] at H
            have c9b0 := eq_true c9
            have c9b1 : decide (4 ≤ (l0_2.length : Int)) = true := decide_eq_true c9
            clear c9
            replace H := Option.bind_eq_some_iff.mp H
            obtain ⟨t391, A100, H⟩ := H
            replace H : ((frame_seq.f t391).bind fun t392 => (frame_Chunked.j0 k (!t392) a0_0 a0_1 l0_2)) = some (r1, r2, r3) := H
            have A10 := Aside0.mk A100
            clear A100
            replace H := Option.bind_eq_some_iff.mp H
            obtain ⟨t392, A110, H⟩ := H
            replace H : (frame_Chunked.j0 k (!t392) a0_0 a0_1 l0_2) = some (r1, r2, r3) := H
            have A11 := Aside0.mk A110
            clear A110
            have H' := Aside0.mk H
            clear H
            have hcz12_0 : w3.cell? ⟨gb389, 0, none⟩ = some (.int .i64 a0_0) := (blk_cell BK389.out 0).trans rfl
            have hcz12_1 : w3.cell? ⟨gb389, 1, none⟩ = some (.int .i64 a0_1) := (blk_cell BK389.out 1).trans rfl
            have hcz12_2 : w3.cell? ⟨gb389, 2, none⟩ = some (.slice A0_2 l0_2.length c0_2) := (blk_cell BK389.out 2).trans rfl
            have hfz12_0 := blk_frozen BK389.out 0
            have hfz12_1 := blk_frozen BK389.out 1
            have hfz12_2 := blk_frozen BK389.out 2
            obtain ⟨i013, hi013, _, hsz13, _⟩ := info_parts info5
            obtain ⟨hcut13, hA13, hC13⟩ := print_take_of (P := Tryd.prog) (Value.int .u8) 0 24 5 .i64 Tryd.underlying24 hi013 hsz13 A0_2 c0_2 l0_2 4 (by omega) (of_decide_eq_true (by first | (with_reducible assumption) | assumption)) HC0_2.out
            have HR390 := Aside0.mk (Kd.C_of_reads (h1 := fun _ => rfl) (hA13 _ (Kd.reads_of_C HR0_2.out)))
            have HC390 := Aside0.mk hC13
            clear hA13 hC13 hi013 hsz13
            go_wp2_with (first | (go_at_call 52; refine calls_of_args (args' := #[.slice A0_2 (l0_2.take 4).length c0_2]) (by rw [List.length_take]) ?_; (with_reducible refine (frame_value.calls k _ _ (l0_2.take 4) t391 _ ?side1 ?side2 A10.out).mono ?_); (case side1 => repeat (first | exact (Kd.C_below HR390.out HB.out) | (with_reducible refine Kd.C_alloc ?_ _) | (with_reducible refine Kd.C_drewN ?_ _) | (with_reducible refine Kd.C_drew ?_))); (case side2 => exact HC390.out); rintro e w' ⟨rfl, ⟨nd, rfl⟩⟩) | (go_at_call 42; (with_reducible refine (frame_seq.calls t391 t392 _ A11.out).mono ?_); rintro e w' ⟨rfl, ⟨nd, rfl⟩⟩))
            go_meet
            case rel => exact ⟨_, (!t392), (by first | rfl | (simp; done) | (simp [*]; done)), H', ⟨by first | omega | exact Nat.le_refl _⟩, ⟨by (with_reducible repeat (first | refine blk_drewN ?_ _ | refine blk_drew ?_ | refine blk_alloc ?_ _)); exact BK389.out⟩, ⟨by repeat (first | (with_reducible first | exact HB.out | apply below_alloc | apply pw_below_drewN | apply below_drew1 | refine below_set ?_ GE389.out) | exact HB.out)⟩⟩
          · rw [if_neg c9] at H
            exact absurd H (by simp)
    · rw [if_neg c4] at H
      have c4b0 : (a0_0 == 4) = false := beq_eq_false_iff_ne.mpr c4
      have c4b1 : (a0_0 != 4) = true := bne_iff_ne.mpr c4
      (first | rw [c4b0] | (simp only [i64_w, i32_w]; rw [c4b0]) | skip)
      have H' := Aside0.mk H
      clear H
      have hcz14_0 : w3.cell? ⟨gb389, 0, none⟩ = some (.int .i64 a0_0) := (blk_cell BK389.out 0).trans rfl
      have hcz14_1 : w3.cell? ⟨gb389, 1, none⟩ = some (.int .i64 a0_1) := (blk_cell BK389.out 1).trans rfl
      have hcz14_2 : w3.cell? ⟨gb389, 2, none⟩ = some (.slice A0_2 l0_2.length c0_2) := (blk_cell BK389.out 2).trans rfl
      have hfz14_0 := blk_frozen BK389.out 0
      have hfz14_1 := blk_frozen BK389.out 1
      have hfz14_2 := blk_frozen BK389.out 2
      go_wp2
      go_meet
      case rel => exact ⟨_, (true), (by first | rfl | (simp; done) | (simp [*]; done)), H', ⟨by first | omega | exact Nat.le_refl _⟩, ⟨by (with_reducible repeat (first | refine blk_drewN ?_ _ | refine blk_drew ?_ | refine blk_alloc ?_ _)); exact BK389.out⟩, ⟨by repeat (first | (with_reducible first | exact HB.out | apply below_alloc | apply pw_below_drewN | apply below_drew1 | refine below_set ?_ GE389.out) | exact HB.out)⟩⟩
  case rest =>
    clear HC2
    try clear p2
    try clear c3
    try clear c4
    try clear c4b0
    try clear c4b1
    try clear c5
    try clear c5b0
    try clear c5b1
    try clear c7
    try clear c7b0
    try clear c7b1
    try clear c9
    try clear c9b0
    try clear c9b1
    try clear hcz12_0
    try clear hcz12_1
    try clear hcz12_2
    try clear hcz14_0
    try clear hcz14_1
    try clear hcz14_2
    try clear hcz6_0
    try clear hcz6_1
    try clear hcz6_2
    try clear hcz8_0
    try clear hcz8_1
    try clear hcz8_2
    try clear hfz12_0
    try clear hfz12_1
    try clear hfz12_2
    try clear hfz14_0
    try clear hfz14_1
    try clear hfz14_2
    try clear hfz6_0
    try clear hfz6_1
    try clear hfz6_2
    try clear hfz8_0
    try clear hfz8_1
    try clear hfz8_2
    obtain ⟨kq, x27_1, rfl, HA, HJ1, BK389, HB⟩ := hcut
    cases kq with
    | zero => exact absurd HA.out (by simp [frame_Chunked.j0])
    | succ kj1 =>
      have H := HA.out
      clear HA
      simp only [frame_Chunked.j0] at H
      by_cases c15 : x27_1 = true
      · subst c15
        have H1 : (some (0, ([] : List Int), false)) = some (r1, r2, r3) := by rw [if_pos rfl] at H; exact H
        clear H
        have H := H1
        clear H1
        simp only [Option.some.injEq, Prod.mk.injEq] at H
        obtain ⟨rfl, rfl, rfl⟩ := H
        go_wp2
        go_ret3
        exact ⟨_, by first | rfl | (simp [errW_none, errW_some] <;> rfl) | (simp [*, errW_none, errW_some] <;> rfl), by first | exact Kd.R_nil _ _ _ _ _ | exact Kd.N_nil _ _ _ _ _ | exact Kd.V_nil _ _ _ _ _ | exact Kd.Q_nil _ _ _ _ _ | exact Kd.S_nil _ _ _ _ _, by repeat (first | (with_reducible first | exact HB.out | apply below_alloc | apply pw_below_drewN | apply below_drew1 | refine below_set ?_ GE389.out) | exact HB.out)⟩
      · replace c15 := Bool.eq_false_iff.mpr c15
        subst c15
        have H1 : (if 4 ≤ (l0_2.length : Int) then ((frame_value.f kj1 (l0_2.take 4)).bind fun t394 => ((bytes_Clone.f (l0_2.drop 4)).bind fun t396 => (some (t394, t396, true)))) else (none)) = some (r1, r2, r3) := by rw [if_neg (show ¬ (false = true) by decide)] at H; exact H
        clear H
        have H := H1
        clear H1
        by_cases c16 : 4 ≤ (l0_2.length : Int)
        · rw [if_pos c16] at H
          have c16b0 := eq_true c16
          have c16b1 : decide (4 ≤ (l0_2.length : Int)) = true := decide_eq_true c16
          clear c16
          replace H := Option.bind_eq_some_iff.mp H
          obtain ⟨t394, A170, H⟩ := H
          replace H : ((bytes_Clone.f (l0_2.drop 4)).bind fun t396 => (some (t394, t396, true))) = some (r1, r2, r3) := H
          have A17 := Aside0.mk A170
          clear A170
          have c18b0 := eq_true (of_decide_eq_true (by first | (with_reducible assumption) | assumption) : 4 ≤ (l0_2.length : Int))
          replace H := Option.bind_eq_some_iff.mp H
          obtain ⟨t396, A190, H⟩ := H
          replace H : (some (t394, t396, true)) = some (r1, r2, r3) := H
          have A19 := Aside0.mk A190
          clear A190
          simp only [Option.some.injEq, Prod.mk.injEq] at H
          obtain ⟨rfl, rfl, rfl⟩ := H
          try go_wp2
          have n0_ := Aside0.mk (blk_drew BK389.out)
          have n1_ := Aside0.mk (below_drew1 HB.out)
          clear BK389
          clear HB
          have BK389 := n0_
          have HB := n1_
          clear n0_ n1_
          obtain ⟨i021, hi021, _, hsz21, _⟩ := info_parts info5
          obtain ⟨hcut21, hA21, hC21⟩ := print_take_of (P := Tryd.prog) (Value.int .u8) 0 24 5 .i64 Tryd.underlying24 hi021 hsz21 A0_2 c0_2 l0_2 4 (by omega) (of_decide_eq_true (by first | (with_reducible assumption) | assumption)) HC0_2.out
          have HR393 := Aside0.mk (Kd.C_of_reads (h1 := fun _ => rfl) (hA21 _ (Kd.reads_of_C HR0_2.out)))
          have HC393 := Aside0.mk hC21
          clear hA21 hC21 hi021 hsz21
          obtain ⟨i022, hi022, _, hsz22, _⟩ := info_parts info5
          obtain ⟨A22, hcut22, hA22, hC22⟩ := print_drop_of (P := Tryd.prog) (Value.int .u8) 0 24 5 .i64 Tryd.underlying24 hi022 hsz22 A0_2 c0_2 l0_2 4 (by omega) (of_decide_eq_true (by first | (with_reducible assumption) | assumption)) HC0_2.out
          have HR395 := Aside0.mk (Kd.C_of_reads (h1 := fun _ => rfl) (hA22 _ (Kd.reads_of_C HR0_2.out)))
          have HC395 := Aside0.mk hC22
          clear hA22 hC22 hi022 hsz22
          refine start_ (n := 11) (S := fun w' => w'.cell? ⟨gb389, 0, none⟩ = some (.int .i64 a0_0) ∧ w'.cell? ⟨gb389, 1, none⟩ = some (.int .i64 a0_1) ∧ w'.cell? ⟨gb389, 2, none⟩ = some (.slice A0_2 l0_2.length c0_2)) (ds := []) #[false, false, false, false, false, false, false, false, false, false, false] (by kernel_rfl) rfl rfl ⟨(blk_cell BK389.out 0).trans rfl, (blk_cell BK389.out 1).trans rfl, (blk_cell BK389.out 2).trans rfl⟩ (fun hHeld => ?_); refine with_tabW frame_Chunked.tab3 frame_Chunked.bits3 (fun HT_ HW_ => ?_)
          generalize wc.drew = w20 at BK389 HB HR393 HR395 hHeld ⊢
          refine pure_ (i := 0) (N := some 28) (v := ?_) (a' := ?_) #[true, false, false, false, false, false, false, false, false, false, false] rfl rfl (any_of HT_.out (by kernel_rfl)) (fun _ _ _ h => h) (Or.inl ⟨by rfl, ?_⟩) ?_ ?_
          rotate_left
          · intro w'
            go_simp
            with_reducible rfl
          rotate_left
          · simp only [Act.put, List.setIfInBounds_toArray, List.set_cons_zero, List.set_cons_succ, i64_w, i32_w]
            rfl
          refine pure_ (i := 4) (N := some 32) (v := ?_) (a' := ?_) #[true, false, false, false, true, false, false, false, false, false, false] rfl rfl (any_of HT_.out (by kernel_rfl)) (fun _ _ _ h => h) (Or.inl ⟨by rfl, ?_⟩) ?_ ?_
          rotate_left
          · intro w'
            go_simp
            with_reducible rfl
          rotate_left
          · simp only [Act.put, List.setIfInBounds_toArray, List.set_cons_zero, List.set_cons_succ, i64_w, i32_w]
            rfl
          refine take_ (i := 1) (N := some 29) (v := ?_) (a' := ?_) #[true, true, false, false, true, false, false, false, false, false, false] rfl rfl (take_ofW HT_.out HW_.out (by kernel_rfl)) (fun _ _ _ h => h) (Or.inl ⟨by rfl, ?_⟩) hHeld ?_ ?_
          rotate_left
          · rintro w' ⟨s0, s1, s2⟩
            go_simp
            with_reducible rfl
          rotate_left
          · simp only [Act.put, List.setIfInBounds_toArray, List.set_cons_zero, List.set_cons_succ, i64_w, i32_w]
            rfl
          refine pure_ (i := 2) (N := some 30) (v := ?_) (a' := ?_) #[true, true, true, false, true, false, false, false, false, false, false] rfl rfl (any_of HT_.out (by kernel_rfl)) (fun _ _ _ h => h) (Or.inl ⟨by rfl, ?_⟩) ?_ ?_
          rotate_left
          · intro w'
            go_simp
            with_reducible rfl
          rotate_left
          · simp only [Act.put, List.setIfInBounds_toArray, List.set_cons_zero, List.set_cons_succ, i64_w, i32_w]
            rfl
          refine take_ (i := 5) (N := some 33) (v := ?_) (a' := ?_) #[true, true, true, false, true, true, false, false, false, false, false] rfl rfl (take_ofW HT_.out HW_.out (by kernel_rfl)) (fun _ _ _ h => h) (Or.inl ⟨by rfl, ?_⟩) hHeld ?_ ?_
          rotate_left
          · rintro w' ⟨s0, s1, s2⟩
            go_simp
            with_reducible rfl
          rotate_left
          · simp only [Act.put, List.setIfInBounds_toArray, List.set_cons_zero, List.set_cons_succ, i64_w, i32_w]
            rfl
          refine pure_ (i := 6) (N := some 34) (v := ?_) (a' := ?_) #[true, true, true, false, true, true, true, false, false, false, false] rfl rfl (any_of HT_.out (by kernel_rfl)) (fun _ _ _ h => h) (Or.inl ⟨by rfl, ?_⟩) ?_ ?_
          rotate_left
          · intro w'
            go_simp
            with_reducible rfl
          rotate_left
          · simp only [Act.put, List.setIfInBounds_toArray, List.set_cons_zero, List.set_cons_succ, i64_w, i32_w]
            rfl
          refine one_ (i := 3) (N := some 31) #[true, true, true, true, true, true, true, false, false, false, false] rfl rfl (one_of HT_.out (by kernel_rfl)) (by decide) (fun K hK => ?_)
          refine goes_ Tryd.func52 (by kernel_rfl) rfl #[.slice A0_2 (l0_2.take 4).length c0_2] (by rfl) rfl rfl (by (try simp only [List.map_toArray, List.map_cons, List.map_nil]); first | done | (rw [show (l0_2.take 4).length = 4 from (by rw [List.length_take]; have h_ : (4 : Int) ≤ (l0_2.length : Int) := of_decide_eq_true (by first | (with_reducible assumption) | assumption); omega)] <;> rfl) | rfl | (simp only [List.length_drop, List.length_take]; rfl)) ?_
          with_reducible refine (frame_value.calls kj1 _ _ (l0_2.take 4) t394 _ ?side1 ?side2 A17.out).mono ?_
          (case side1 => repeat (first | exact (Kd.C_below HR393.out HB.out) | (with_reducible refine Kd.C_alloc ?_ _) | (with_reducible refine Kd.C_drewN ?_ _) | (with_reducible refine Kd.C_drew ?_)))
          (case side2 => exact HC393.out)
          rintro e w' ⟨rfl, ⟨nd, rfl⟩⟩
          refine ⟨_, rfl, ?_⟩
          refine hK.out _ _ ⟨(blk_cell BK389.out 0).trans rfl, (blk_cell BK389.out 1).trans rfl, (blk_cell BK389.out 2).trans rfl⟩ (fun hHeld => ?_)
          clear hK K
          refine norm_ (a' := ?_) ?_ ?_
          rotate_left
          · show Act.put _ (some 31) _ = _
            simp only [Act.put, List.setIfInBounds_toArray, List.set_cons_zero, List.set_cons_succ, i64_w, i32_w]
            rfl
          refine one_ (i := 7) (N := some 35) #[true, true, true, true, true, true, true, true, false, false, false] rfl rfl (one_of HT_.out (by kernel_rfl)) (by decide) (fun K hK => ?_)
          refine goes_ Tryd.func53 (by kernel_rfl) rfl #[.slice A22 (l0_2.drop 4).length (c0_2 - 4)] (by rfl) rfl rfl (by (try simp only [List.map_toArray, List.map_cons, List.map_nil]); first | done | (rw [show (l0_2.drop 4).length = (l0_2.length - 4) from List.length_drop] <;> rfl) | rfl | (simp only [List.length_drop, List.length_take]; rfl)) ?_
          with_reducible refine (bytes_Clone.calls _ _ (l0_2.drop 4) t396 _ ?side1 ?side2 A19.out).mono ?_
          (case side1 => repeat (first | exact (Kd.C_below HR395.out (by repeat (first | (with_reducible first | exact HB.out | apply below_alloc | apply pw_below_drewN | apply below_drew1 | refine below_set ?_ GE389.out) | exact HB.out))) | (with_reducible refine Kd.C_alloc ?_ _) | (with_reducible refine Kd.C_drewN ?_ _) | (with_reducible refine Kd.C_drew ?_)))
          (case side2 => exact HC395.out)
          rintro e w23 ⟨v397, rfl, ho0, hb⟩
          refine ⟨_, rfl, ?_⟩
          have n0_ := Aside0.mk (Kd.R_lower ho0 (below_size (by repeat (first | (with_reducible first | exact HB.out | apply below_alloc | apply pw_below_drewN | apply below_drew1 | refine below_set ?_ GE389.out) | exact HB.out))))
          have n1_ := Aside0.mk (blk_below (g := gb389) (o := .cells #[.int .i64 a0_0, .int .i64 a0_1, .slice A0_2 l0_2.length c0_2] 29 (0, 0)) (by (with_reducible repeat (first | refine blk_drewN ?_ _ | refine blk_drew ?_ | refine blk_alloc ?_ _)); exact BK389.out) hb)
          have n2_ := Aside0.mk (below_step (by repeat (first | (with_reducible first | exact HB.out | apply below_alloc | apply pw_below_drewN | apply below_drew1 | refine below_set ?_ GE389.out) | exact HB.out)) hb)
          clear BK389
          clear HB
          have HO398 := n0_
          have BK389 := n1_
          have HB := n2_
          clear n0_ n1_ n2_
          (try clear hb)
          (try clear hb2)
          (try clear hk)
          (try clear hi)
          (try clear ho0)
          refine hK.out _ _ ⟨(blk_cell BK389.out 0).trans rfl, (blk_cell BK389.out 1).trans rfl, (blk_cell BK389.out 2).trans rfl⟩ (fun hHeld => ?_)
          clear hK K
          refine norm_ (a' := ?_) ?_ ?_
          rotate_left
          · show Act.put _ (some 35) _ = _
            simp only [Act.put, List.setIfInBounds_toArray, List.set_cons_zero, List.set_cons_succ, i64_w, i32_w]
            rfl
          refine pure_ (i := 8) (N := some 2) (v := ?_) (a' := ?_) #[true, true, true, true, true, true, true, true, true, false, false] rfl rfl (any_of HT_.out (by kernel_rfl)) (fun _ _ _ h => h) (Or.inl ⟨by rfl, ?_⟩) ?_ ?_
          rotate_left
          · intro w'
            go_simp
            with_reducible rfl
          rotate_left
          · simp only [Act.put, List.setIfInBounds_toArray, List.set_cons_zero, List.set_cons_succ, i64_w, i32_w]
            rfl
          refine pure_ (i := 9) (N := some 3) (v := ?_) (a' := ?_) #[true, true, true, true, true, true, true, true, true, true, false] rfl rfl (any_of HT_.out (by kernel_rfl)) (fun _ _ _ h => h) (Or.inl ⟨by rfl, ?_⟩) ?_ ?_
          rotate_left
          · intro w'
            go_simp
            with_reducible rfl
          rotate_left
          · simp only [Act.put, List.setIfInBounds_toArray, List.set_cons_zero, List.set_cons_succ, i64_w, i32_w]
            rfl
          refine pure_ (i := 10) (N := some 4) (v := ?_) (a' := ?_) #[true, true, true, true, true, true, true, true, true, true, true] rfl rfl (any_of HT_.out (by kernel_rfl)) (fun _ _ _ h => h) (Or.inl ⟨by rfl, ?_⟩) ?_ ?_
          rotate_left
          · intro w'
            go_simp
            with_reducible rfl
          rotate_left
          · simp only [Act.put, List.setIfInBounds_toArray, List.set_cons_zero, List.set_cons_succ, i64_w, i32_w]
            rfl
          refine done_ (done_of HT_.out (by kernel_rfl)) ?_
          try go_wp2
          go_ret3
          exact ⟨_, by first | rfl | (simp [errW_none, errW_some] <;> rfl) | (simp [*, errW_none, errW_some] <;> rfl), by (with_reducible repeat (first | apply Kd.R_alloc | apply Kd.R_drewN | apply Kd.R_drew)); exact HO398.out, by repeat (first | (with_reducible first | exact HB.out | apply below_alloc | apply pw_below_drewN | apply below_drew1 | refine below_set ?_ GE389.out) | exact HB.out)⟩
        · rw [if_neg c16] at H
          exact absurd H (by simp)

end Go.Proofs.YtfhnpphceeoeeaaDoor.PX
/- Frames in plain words, 2: the example; chunks. -/
namespace Go.Proofs.YtfhnpphceeoeeaaDoor.PX
open Go.RowKit Go.Proofs.YtfhnpphceeoeeaaDoorW.PrintWords Go.Proofs.YtfhnpphceeoeeaaDoorW.PrintLast Go.Proofs.YtfhnpphceeoeeaaDoorW.PrintMore
set_option linter.unusedVariables false
set_option linter.unusedSimpArgs false
theorem wakes43 : Ev (fun k => tricklelaw43_wakes.f k) true := Ev.of (k := 120) (fun k => tricklelaw43_wakes.mono k) (by kernel_rfl)
theorem equal_self (k s : Int) (b : List Int) : trickleref43_Equal.f k s b k s b = some true := by
  unfold trickleref43_Equal.f
  rw [if_pos rfl, if_pos rfl, beq_self_eq_true]
def chunkedB (k : Int) (b : List Int) : Bool := decide (k = 4 ∧ 5 ≤ b.length ∧ b.length ≤ 40) && decide (val (b.take 4) ≤ 2147483647)
def chunkedR (k : Int) (b : List Int) : Int × List Int × Bool := if chunkedB k b = true then (val (b.take 4), b.drop 4, true) else (0, [], false)
theorem chunked_j0 (k s : Int) (b : List Int) (hb : Bytes b) (hl : 4 ≤ b.length ∧ b.length ≤ 1000) : Ev (fun n => frame_Chunked.j0 n false k s b) (val (b.take 4), b.drop 4, true) := by
  refine Ev.step (fun k => by rw [frame_Chunked.j0]) (Ev.neg (by decide) (Ev.pos (by omega) (Ev.bind (value_ev _ (hb.take 4) (by rw [List.length_take]; omega)) (Ev.const (clone_b (b.drop 4) (by rw [List.length_drop]; omega)) ?_))))
  exact Ev.now _
theorem chunked_no (k s : Int) (b : List Int) : Ev (fun n => frame_Chunked.j0 n true k s b) (0, [], false) :=
  Ev.step (fun k => by rw [frame_Chunked.j0]) (Ev.pos rfl (Ev.now _))
theorem chunked_ev (k s : Int) (b : List Int) (hb : Bytes b) : Ev (fun n => frame_Chunked.f n k s b) (chunkedR k b) := by
  refine Ev.congr (fun n => by rw [frame_Chunked.f]) ?_
  unfold chunkedR chunkedB
  by_cases h1 : k = 4
  case neg =>
    rw [show decide (k = 4 ∧ 5 ≤ b.length ∧ b.length ≤ 40) = false by rw [decide_eq_false_iff_not]; exact fun e => h1 e.1]
    exact Ev.neg h1 (chunked_no k s b)
  refine Ev.pos h1 ?_
  by_cases h2 : (b.length : Int) < 5
  · rw [show decide (k = 4 ∧ 5 ≤ b.length ∧ b.length ≤ 40) = false by rw [decide_eq_false_iff_not]; omega]
    exact Ev.pos h2 (chunked_no k s b)
  refine Ev.neg h2 ?_
  by_cases h3 : (b.length : Int) > 40
  · rw [show decide (k = 4 ∧ 5 ≤ b.length ∧ b.length ≤ 40) = false by rw [decide_eq_false_iff_not]; omega]
    exact Ev.pos h3 (chunked_no k s b)
  rw [show decide (k = 4 ∧ 5 ≤ b.length ∧ b.length ≤ 40) = true by rw [decide_eq_true_eq]; omega, Bool.true_and]
  obtain ⟨v0, _⟩ := val_range (b.take 4) (hb.take 4)
  refine Ev.neg h3 (Ev.pos (by omega) (Ev.bind (value_ev _ (hb.take 4) (by rw [List.length_take]; omega)) (Ev.const (seq_ev _) ?_)))
  by_cases h4 : val (b.take 4) ≤ 2147483647
  · rw [decide_eq_true h4, show decide (0 ≤ val (b.take 4) ∧ val (b.take 4) ≤ 2147483647) = true by rw [decide_eq_true_eq]; exact ⟨v0, h4⟩, if_pos rfl]
    exact chunked_j0 k s b hb ⟨by omega, by omega⟩
  · rw [decide_eq_false h4, show decide (0 ≤ val (b.take 4) ∧ val (b.take 4) ≤ 2147483647) = false by rw [decide_eq_false_iff_not]; omega, if_neg (by decide)]
    exact chunked_no k s b
end Go.Proofs.YtfhnpphceeoeeaaDoor.PX
-- Written by a program of this session (wip/xprint.py, over the kit's print tool). Lean checks it.
namespace Go.Proofs.YtfhnpphceeoeeaaDoor.PX
open Go.RowKit Go.Proofs.YtfhnpphceeoeeaaDoorW.PrintWords Go.Proofs.YtfhnpphceeoeeaaDoorW.PrintLast Go.Proofs.YtfhnpphceeoeeaaDoorW.PrintMore
attribute [local go_sem] max2_int min2_int max_two min_two max_three min_three max_four min_four   -- for this text's walks alone
set_option linter.unusedVariables false
set_option linter.unusedSimpArgs false

/-! ### frame_Value: function 28 -/
def frame_Value.f (k : Nat) (a0_0 : Int) (a0_1 : Int) (l0_2 : List Int) : Option (Int × Bool) := if a0_0 = 1 then (if (l0_2.length : Int) = 2 then ((frame_value.f k l0_2).bind fun t376 => (some (IntKind.i16.wrap (t376), true))) else (some (0, false))) else (some (0, false))
set_option maxHeartbeats 8000000 in
set_option maxRecDepth 100000 in
theorem frame_Value.calls (k : Nat) (a0_0 : Int) (a0_1 : Int) (A0_2 : Option Addr) (c0_2 : Nat) (l0_2 : List Int) (r1 : Int) (r2 : Bool) (w : World) (hr0_2 : Kd.C (Kd.int .u8) w A0_2 l0_2.length l0_2) (hc0_2 : l0_2.length ≤ c0_2) (h : frame_Value.f k a0_0 a0_1 l0_2 = some (r1, r2)) :
    Calls Tryd.prog 28 #[.agg #[.int .i64 a0_0, .int .i64 a0_1, .slice A0_2 l0_2.length c0_2]] w fun e w' => e = .returned (.tuple #[.int .i16 r1, .bool r2]) ∧ Below w.heap.size w w' := by
  have hu29 := Tryd.underlying29
  have HR0_2 := Aside0.mk hr0_2
  have HC0_2 := Aside0.mk hc0_2
  clear hr0_2 hc0_2
  have HB := Aside0.mk (Below.refl w.heap.size w)
  have H : (if a0_0 = 1 then (if (l0_2.length : Int) = 2 then ((frame_value.f k l0_2).bind fun t376 => (some (IntKind.i16.wrap (t376), true))) else (some (0, false))) else (some (0, false))) = some (r1, r2) := h
  clear h
  by_cases c2 : a0_0 = 1
  · rw [if_pos c2] at H
    have c2b0 : (a0_0 == 1) = true := beq_iff_eq.mpr c2
    have c2b1 : (a0_0 != 1) = false := bne_eq_false_iff_eq.mpr c2
    clear c2
    by_cases c3 : (l0_2.length : Int) = 2
    · rw [if_pos c3] at H
      have c3b0 : ((l0_2.length : Int) == 2) = true := beq_iff_eq.mpr c3
      have c3b1 : ((l0_2.length : Int) != 2) = false := bne_eq_false_iff_eq.mpr c3
      clear c3
      replace H := Option.bind_eq_some_iff.mp H
      obtain ⟨t376, A40, H⟩ := H
      replace H : (some (IntKind.i16.wrap (t376), true)) = some (r1, r2) := H
      have A4 := Aside0.mk A40
      clear A40
      simp only [Option.some.injEq, Prod.mk.injEq] at H
      obtain ⟨rfl, rfl⟩ := H
      go_enter Tryd.func28, Tryd.ntmps28
      go_wp2_with (first | ((with_reducible refine gate_dst (N := 1) rfl ?_); (try (refine gate_guard (by rfl) ?_; dsimp only)); refine box_event ?hg (N := 1) ?hd (cs := #[.int .i64 a0_0, .int .i64 a0_1, .slice A0_2 l0_2.length c0_2]) (t := 29) ?hr ?_; (case hd => rfl); (case hg => rfl); (case hr => first | (go_simp; done) | (go_simp; rfl)); intro gb375 hg w5 hbox hb; have n0_ := Aside0.mk (below_step (by repeat (first | (with_reducible first | exact HB.out | apply below_alloc | apply pw_below_drewN | apply below_drew1) | exact HB.out)) hb); have n1_ := Aside0.mk (hbox); have n2_ := Aside0.mk ((by rw [hg]; exact (below_size (by repeat (first | (with_reducible first | exact HB.out | apply below_alloc | apply pw_below_drewN | apply below_drew1) | exact HB.out))) : w.heap.size ≤ gb375)); have n3_ := Aside0.mk ((by rw [hg]; exact (below_size (by repeat (first | (with_reducible first | exact HB.out | apply below_alloc | apply pw_below_drewN | apply below_drew1) | exact HB.out))) : w.heap.size ≤ gb375)); clear HB; have HB := n0_; have BK375 := n1_; have GW375 := n2_; have GE375 := n3_; clear n0_ n1_ n2_ n3_; clear hb hbox hg; have hcz6_0 : w5.cell? ⟨gb375, 0, none⟩ = some (.int .i64 a0_0) := (blk_cell BK375.out 0).trans rfl; have hcz6_1 : w5.cell? ⟨gb375, 1, none⟩ = some (.int .i64 a0_1) := (blk_cell BK375.out 1).trans rfl; have hcz6_2 : w5.cell? ⟨gb375, 2, none⟩ = some (.slice A0_2 l0_2.length c0_2) := (blk_cell BK375.out 2).trans rfl; have hfz6_0 := blk_frozen BK375.out 0; have hfz6_1 := blk_frozen BK375.out 1; have hfz6_2 := blk_frozen BK375.out 2) | ((with_reducible refine gate_callee (f := 52) rfl ?_); refine goesL_ (some 15) rfl rfl Tryd.func52 (by kernel_rfl) rfl #[.slice A0_2 l0_2.length c0_2] rfl (by (try simp only [List.map_toArray, List.map_cons, List.map_nil]); first | done | rfl | (simp only [List.length_drop, List.length_take]; rfl)) ?_; (with_reducible refine (frame_value.calls k _ _ l0_2 t376 _ ?side1 ?side2 A4.out).mono ?_); (case side1 => repeat (first | exact (Kd.C_below HR0_2.out HB.out) | (with_reducible refine Kd.C_alloc ?_ _) | (with_reducible refine Kd.C_drewN ?_ _) | (with_reducible refine Kd.C_drew ?_))); (case side2 => exact HC0_2.out); rintro e w' ⟨rfl, ⟨nd, rfl⟩⟩; refine ⟨_, rfl, ?_⟩))
      go_ret2
      exact ⟨by first | rfl | (simp [errW_none, errW_some] <;> rfl) | (simp [*, errW_none, errW_some] <;> rfl), by repeat (first | (with_reducible first | exact HB.out | apply below_alloc | apply pw_below_drewN | apply below_drew1 | refine below_set ?_ GE375.out) | exact HB.out)⟩
    · rw [if_neg c3] at H
      have c3b0 : ((l0_2.length : Int) == 2) = false := beq_eq_false_iff_ne.mpr c3
      have c3b1 : ((l0_2.length : Int) != 2) = true := bne_iff_ne.mpr c3
      simp only [Option.some.injEq, Prod.mk.injEq] at H
      obtain ⟨rfl, rfl⟩ := H
      go_enter Tryd.func28, Tryd.ntmps28
      go_wp2_with (first | ((with_reducible refine gate_dst (N := 1) rfl ?_); (try (refine gate_guard (by rfl) ?_; dsimp only)); refine box_event ?hg (N := 1) ?hd (cs := #[.int .i64 a0_0, .int .i64 a0_1, .slice A0_2 l0_2.length c0_2]) (t := 29) ?hr ?_; (case hd => rfl); (case hg => rfl); (case hr => first | (go_simp; done) | (go_simp; rfl)); intro gb375 hg w7 hbox hb; have n0_ := Aside0.mk (below_step (by repeat (first | (with_reducible first | exact HB.out | apply below_alloc | apply pw_below_drewN | apply below_drew1) | exact HB.out)) hb); have n1_ := Aside0.mk (hbox); have n2_ := Aside0.mk ((by rw [hg]; exact (below_size (by repeat (first | (with_reducible first | exact HB.out | apply below_alloc | apply pw_below_drewN | apply below_drew1) | exact HB.out))) : w.heap.size ≤ gb375)); have n3_ := Aside0.mk ((by rw [hg]; exact (below_size (by repeat (first | (with_reducible first | exact HB.out | apply below_alloc | apply pw_below_drewN | apply below_drew1) | exact HB.out))) : w.heap.size ≤ gb375)); clear HB; have HB := n0_; have BK375 := n1_; have GW375 := n2_; have GE375 := n3_; clear n0_ n1_ n2_ n3_; clear hb hbox hg; have hcz8_0 : w7.cell? ⟨gb375, 0, none⟩ = some (.int .i64 a0_0) := (blk_cell BK375.out 0).trans rfl; have hcz8_1 : w7.cell? ⟨gb375, 1, none⟩ = some (.int .i64 a0_1) := (blk_cell BK375.out 1).trans rfl; have hcz8_2 : w7.cell? ⟨gb375, 2, none⟩ = some (.slice A0_2 l0_2.length c0_2) := (blk_cell BK375.out 2).trans rfl; have hfz8_0 := blk_frozen BK375.out 0; have hfz8_1 := blk_frozen BK375.out 1; have hfz8_2 := blk_frozen BK375.out 2))
      go_ret2
      exact ⟨by first | rfl | (simp [errW_none, errW_some] <;> rfl) | (simp [*, errW_none, errW_some] <;> rfl), by repeat (first | (with_reducible first | exact HB.out | apply below_alloc | apply pw_below_drewN | apply below_drew1 | refine below_set ?_ GE375.out) | exact HB.out)⟩
  · rw [if_neg c2] at H
    have c2b0 : (a0_0 == 1) = false := beq_eq_false_iff_ne.mpr c2
    have c2b1 : (a0_0 != 1) = true := bne_iff_ne.mpr c2
    simp only [Option.some.injEq, Prod.mk.injEq] at H
    obtain ⟨rfl, rfl⟩ := H
    go_enter Tryd.func28, Tryd.ntmps28
    go_wp2_with (first | ((with_reducible refine gate_dst (N := 1) rfl ?_); (try (refine gate_guard (by rfl) ?_; dsimp only)); refine box_event ?hg (N := 1) ?hd (cs := #[.int .i64 a0_0, .int .i64 a0_1, .slice A0_2 l0_2.length c0_2]) (t := 29) ?hr ?_; (case hd => rfl); (case hg => rfl); (case hr => first | (go_simp; done) | (go_simp; rfl)); intro gb375 hg w9 hbox hb; have n0_ := Aside0.mk (below_step (by repeat (first | (with_reducible first | exact HB.out | apply below_alloc | apply pw_below_drewN | apply below_drew1) | exact HB.out)) hb); have n1_ := Aside0.mk (hbox); have n2_ := Aside0.mk ((by rw [hg]; exact (below_size (by repeat (first | (with_reducible first | exact HB.out | apply below_alloc | apply pw_below_drewN | apply below_drew1) | exact HB.out))) : w.heap.size ≤ gb375)); have n3_ := Aside0.mk ((by rw [hg]; exact (below_size (by repeat (first | (with_reducible first | exact HB.out | apply below_alloc | apply pw_below_drewN | apply below_drew1) | exact HB.out))) : w.heap.size ≤ gb375)); clear HB; have HB := n0_; have BK375 := n1_; have GW375 := n2_; have GE375 := n3_; clear n0_ n1_ n2_ n3_; clear hb hbox hg; have hcz10_0 : w9.cell? ⟨gb375, 0, none⟩ = some (.int .i64 a0_0) := (blk_cell BK375.out 0).trans rfl; have hcz10_1 : w9.cell? ⟨gb375, 1, none⟩ = some (.int .i64 a0_1) := (blk_cell BK375.out 1).trans rfl; have hcz10_2 : w9.cell? ⟨gb375, 2, none⟩ = some (.slice A0_2 l0_2.length c0_2) := (blk_cell BK375.out 2).trans rfl; have hfz10_0 := blk_frozen BK375.out 0; have hfz10_1 := blk_frozen BK375.out 1; have hfz10_2 := blk_frozen BK375.out 2))
    go_ret2
    exact ⟨by first | rfl | (simp [errW_none, errW_some] <;> rfl) | (simp [*, errW_none, errW_some] <;> rfl), by repeat (first | (with_reducible first | exact HB.out | apply below_alloc | apply pw_below_drewN | apply below_drew1 | refine below_set ?_ GE375.out) | exact HB.out)⟩

/-! ### trickleref43_Value: function 29 -/
def trickleref43_Value.f (a0_0 : Int) (a0_1 : Int) (l0_2 : List Int) : Option (Int × Bool) := if a0_0 = 1 then (if (l0_2.length : Int) = 2 then (if 0 < (l0_2.length : Int) then (if 1 < (l0_2.length : Int) then (some (IntKind.i16.wrap (IntKind.u16.wrap ((IntKind.u16.wrap (rd l0_2 0)) + (IntKind.u16.wrap (256 * (IntKind.u16.wrap (rd l0_2 1)))))), true)) else (none)) else (none)) else (some (0, false))) else (some (0, false))
set_option maxHeartbeats 8000000 in
set_option maxRecDepth 100000 in
theorem trickleref43_Value.calls (a0_0 : Int) (a0_1 : Int) (A0_2 : Option Addr) (c0_2 : Nat) (l0_2 : List Int) (r1 : Int) (r2 : Bool) (w : World) (hr0_2 : Kd.C (Kd.int .u8) w A0_2 l0_2.length l0_2) (hc0_2 : l0_2.length ≤ c0_2) (h : trickleref43_Value.f a0_0 a0_1 l0_2 = some (r1, r2)) :
    Calls Tryd.prog 29 #[.agg #[.int .i64 a0_0, .int .i64 a0_1, .slice A0_2 l0_2.length c0_2]] w fun e w' => e = .returned (.tuple #[.int .i16 r1, .bool r2]) ∧ Below w.heap.size w w' := by
  have hu29 := Tryd.underlying29
  have HR0_2 := Aside0.mk hr0_2
  have HC0_2 := Aside0.mk hc0_2
  clear hr0_2 hc0_2
  have HB := Aside0.mk (Below.refl w.heap.size w)
  have H : (if a0_0 = 1 then (if (l0_2.length : Int) = 2 then (if 0 < (l0_2.length : Int) then (if 1 < (l0_2.length : Int) then (some (IntKind.i16.wrap (IntKind.u16.wrap ((IntKind.u16.wrap (rd l0_2 0)) + (IntKind.u16.wrap (256 * (IntKind.u16.wrap (rd l0_2 1)))))), true)) else (none)) else (none)) else (some (0, false))) else (some (0, false))) = some (r1, r2) := h
  clear h
  by_cases c2 : a0_0 = 1
  · rw [if_pos c2] at H
    have c2b0 : (a0_0 == 1) = true := beq_iff_eq.mpr c2
    have c2b1 : (a0_0 != 1) = false := bne_eq_false_iff_eq.mpr c2
    clear c2
    by_cases c3 : (l0_2.length : Int) = 2
    · rw [if_pos c3] at H
      have c3b0 : ((l0_2.length : Int) == 2) = true := beq_iff_eq.mpr c3
      have c3b1 : ((l0_2.length : Int) != 2) = false := bne_eq_false_iff_eq.mpr c3
      clear c3
      by_cases c4 : 0 < (l0_2.length : Int)
      · rw [if_pos c4] at H
        have c4b0 : decide (0 < (l0_2.length : Int)) = true := decide_eq_true c4
        have c4b1 : decide (0 < l0_2.length) = true := decide_eq_true (by omega)
        clear c4
        by_cases c5 : 1 < (l0_2.length : Int)
        · rw [if_pos c5] at H
          have c5b0 : decide (1 < (l0_2.length : Int)) = true := decide_eq_true c5
          have c5b1 : decide (1 < l0_2.length) = true := decide_eq_true (by omega)
          clear c5
          simp only [Option.some.injEq, Prod.mk.injEq] at H
          obtain ⟨rfl, rfl⟩ := H
          go_enter Tryd.func29, Tryd.ntmps29
          go_wp2_with (first | ((with_reducible refine gate_dst (N := 1) rfl ?_); (try (refine gate_guard (by rfl) ?_; dsimp only)); refine box_event ?hg (N := 1) ?hd (cs := #[.int .i64 a0_0, .int .i64 a0_1, .slice A0_2 l0_2.length c0_2]) (t := 29) ?hr ?_; (case hd => rfl); (case hg => rfl); (case hr => first | (go_simp; done) | (go_simp; rfl)); intro gb377 hg w6 hbox hb; have n0_ := Aside0.mk (below_step (by repeat (first | (with_reducible first | exact HB.out | apply below_alloc | apply pw_below_drewN | apply below_drew1) | exact HB.out)) hb); have n1_ := Aside0.mk (hbox); have n2_ := Aside0.mk ((by rw [hg]; exact (below_size (by repeat (first | (with_reducible first | exact HB.out | apply below_alloc | apply pw_below_drewN | apply below_drew1) | exact HB.out))) : w.heap.size ≤ gb377)); have n3_ := Aside0.mk ((by rw [hg]; exact (below_size (by repeat (first | (with_reducible first | exact HB.out | apply below_alloc | apply pw_below_drewN | apply below_drew1) | exact HB.out))) : w.heap.size ≤ gb377)); clear HB; have HB := n0_; have BK377 := n1_; have GW377 := n2_; have GE377 := n3_; clear n0_ n1_ n2_ n3_; clear hb hbox hg; have hcz7_0 : w6.cell? ⟨gb377, 0, none⟩ = some (.int .i64 a0_0) := (blk_cell BK377.out 0).trans rfl; have hcz7_1 : w6.cell? ⟨gb377, 1, none⟩ = some (.int .i64 a0_1) := (blk_cell BK377.out 1).trans rfl; have hcz7_2 : w6.cell? ⟨gb377, 2, none⟩ = some (.slice A0_2 l0_2.length c0_2) := (blk_cell BK377.out 2).trans rfl; have hfz7_0 := blk_frozen BK377.out 0; have hfz7_1 := blk_frozen BK377.out 1; have hfz7_2 := blk_frozen BK377.out 2; have p378 : 0 ≤ (0 : Int) := (by omega); have q378 : 0 < (l0_2.length : Int) := of_decide_eq_true (by first | (with_reducible assumption) | assumption); obtain ⟨ad378, e378, hx378_0⟩ := Kd.at_int HR0_2.out 0 p378 q378; cases e378; have qi378 : (0 < l0_2.length) = True := eq_true (by omega); (try rw [show ((0 : Int)).toNat = 0 from rfl] at hx378_0); (try rw [Addr.add_zero'] at hx378_0); replace hx378_0 := (HB.out.cell (World.block_lt_of_cell? w _ hx378_0)).trans hx378_0; replace p378 := eq_true p378; replace q378 := eq_true q378; have p379 : 0 ≤ (1 : Int) := (by omega); have q379 : 1 < (l0_2.length : Int) := of_decide_eq_true (by first | (with_reducible assumption) | assumption); obtain ⟨ad379, e379, hx379_0⟩ := Kd.at_int HR0_2.out 1 p379 q379; obtain rfl : ad378 = ad379 := (by injection e379); (try simp only [show (1 : Int).toNat = 1 from rfl, Nat.reduceMul, Nat.reduceEqDiff, Go.Addr.add, ↓reduceIte] at hx379_0); have qi379 : (1 < l0_2.length) = True := eq_true (by omega); (try rw [show ((1 : Int)).toNat = 1 from rfl] at hx379_0); replace hx379_0 := (HB.out.cell (World.block_lt_of_cell? w _ hx379_0)).trans hx379_0; replace p379 := eq_true p379; replace q379 := eq_true q379))
          repeat (go_quiet (first | ((with_reducible refine gate_dst (N := 1) rfl ?_); (try (refine gate_guard (by rfl) ?_; dsimp only)); refine box_event ?hg (N := 1) ?hd (cs := #[.int .i64 a0_0, .int .i64 a0_1, .slice A0_2 l0_2.length c0_2]) (t := 29) ?hr ?_; (case hd => rfl); (case hg => rfl); (case hr => first | (go_simp; done) | (go_simp; rfl)); intro gb377 hg w6 hbox hb; have n0_ := Aside0.mk (below_step (by repeat (first | (with_reducible first | exact HB.out | apply below_alloc | apply pw_below_drewN | apply below_drew1) | exact HB.out)) hb); have n1_ := Aside0.mk (hbox); have n2_ := Aside0.mk ((by rw [hg]; exact (below_size (by repeat (first | (with_reducible first | exact HB.out | apply below_alloc | apply pw_below_drewN | apply below_drew1) | exact HB.out))) : w.heap.size ≤ gb377)); have n3_ := Aside0.mk ((by rw [hg]; exact (below_size (by repeat (first | (with_reducible first | exact HB.out | apply below_alloc | apply pw_below_drewN | apply below_drew1) | exact HB.out))) : w.heap.size ≤ gb377)); clear HB; have HB := n0_; have BK377 := n1_; have GW377 := n2_; have GE377 := n3_; clear n0_ n1_ n2_ n3_; clear hb hbox hg; have hcz7_0 : w6.cell? ⟨gb377, 0, none⟩ = some (.int .i64 a0_0) := (blk_cell BK377.out 0).trans rfl; have hcz7_1 : w6.cell? ⟨gb377, 1, none⟩ = some (.int .i64 a0_1) := (blk_cell BK377.out 1).trans rfl; have hcz7_2 : w6.cell? ⟨gb377, 2, none⟩ = some (.slice A0_2 l0_2.length c0_2) := (blk_cell BK377.out 2).trans rfl; have hfz7_0 := blk_frozen BK377.out 0; have hfz7_1 := blk_frozen BK377.out 1; have hfz7_2 := blk_frozen BK377.out 2; have p378 : 0 ≤ (0 : Int) := (by omega); have q378 : 0 < (l0_2.length : Int) := of_decide_eq_true (by first | (with_reducible assumption) | assumption); obtain ⟨ad378, e378, hx378_0⟩ := Kd.at_int HR0_2.out 0 p378 q378; cases e378; have qi378 : (0 < l0_2.length) = True := eq_true (by omega); (try rw [show ((0 : Int)).toNat = 0 from rfl] at hx378_0); (try rw [Addr.add_zero'] at hx378_0); replace hx378_0 := (HB.out.cell (World.block_lt_of_cell? w _ hx378_0)).trans hx378_0; replace p378 := eq_true p378; replace q378 := eq_true q378; have p379 : 0 ≤ (1 : Int) := (by omega); have q379 : 1 < (l0_2.length : Int) := of_decide_eq_true (by first | (with_reducible assumption) | assumption); obtain ⟨ad379, e379, hx379_0⟩ := Kd.at_int HR0_2.out 1 p379 q379; obtain rfl : ad378 = ad379 := (by injection e379); (try simp only [show (1 : Int).toNat = 1 from rfl, Nat.reduceMul, Nat.reduceEqDiff, Go.Addr.add, ↓reduceIte] at hx379_0); have qi379 : (1 < l0_2.length) = True := eq_true (by omega); (try rw [show ((1 : Int)).toNat = 1 from rfl] at hx379_0); replace hx379_0 := (HB.out.cell (World.block_lt_of_cell? w _ hx379_0)).trans hx379_0; replace p379 := eq_true p379; replace q379 := eq_true q379)); try go_wp2_with (first | ((with_reducible refine gate_dst (N := 1) rfl ?_); (try (refine gate_guard (by rfl) ?_; dsimp only)); refine box_event ?hg (N := 1) ?hd (cs := #[.int .i64 a0_0, .int .i64 a0_1, .slice A0_2 l0_2.length c0_2]) (t := 29) ?hr ?_; (case hd => rfl); (case hg => rfl); (case hr => first | (go_simp; done) | (go_simp; rfl)); intro gb377 hg w6 hbox hb; have n0_ := Aside0.mk (below_step (by repeat (first | (with_reducible first | exact HB.out | apply below_alloc | apply pw_below_drewN | apply below_drew1) | exact HB.out)) hb); have n1_ := Aside0.mk (hbox); have n2_ := Aside0.mk ((by rw [hg]; exact (below_size (by repeat (first | (with_reducible first | exact HB.out | apply below_alloc | apply pw_below_drewN | apply below_drew1) | exact HB.out))) : w.heap.size ≤ gb377)); have n3_ := Aside0.mk ((by rw [hg]; exact (below_size (by repeat (first | (with_reducible first | exact HB.out | apply below_alloc | apply pw_below_drewN | apply below_drew1) | exact HB.out))) : w.heap.size ≤ gb377)); clear HB; have HB := n0_; have BK377 := n1_; have GW377 := n2_; have GE377 := n3_; clear n0_ n1_ n2_ n3_; clear hb hbox hg; have hcz7_0 : w6.cell? ⟨gb377, 0, none⟩ = some (.int .i64 a0_0) := (blk_cell BK377.out 0).trans rfl; have hcz7_1 : w6.cell? ⟨gb377, 1, none⟩ = some (.int .i64 a0_1) := (blk_cell BK377.out 1).trans rfl; have hcz7_2 : w6.cell? ⟨gb377, 2, none⟩ = some (.slice A0_2 l0_2.length c0_2) := (blk_cell BK377.out 2).trans rfl; have hfz7_0 := blk_frozen BK377.out 0; have hfz7_1 := blk_frozen BK377.out 1; have hfz7_2 := blk_frozen BK377.out 2; have p378 : 0 ≤ (0 : Int) := (by omega); have q378 : 0 < (l0_2.length : Int) := of_decide_eq_true (by first | (with_reducible assumption) | assumption); obtain ⟨ad378, e378, hx378_0⟩ := Kd.at_int HR0_2.out 0 p378 q378; cases e378; have qi378 : (0 < l0_2.length) = True := eq_true (by omega); (try rw [show ((0 : Int)).toNat = 0 from rfl] at hx378_0); (try rw [Addr.add_zero'] at hx378_0); replace hx378_0 := (HB.out.cell (World.block_lt_of_cell? w _ hx378_0)).trans hx378_0; replace p378 := eq_true p378; replace q378 := eq_true q378; have p379 : 0 ≤ (1 : Int) := (by omega); have q379 : 1 < (l0_2.length : Int) := of_decide_eq_true (by first | (with_reducible assumption) | assumption); obtain ⟨ad379, e379, hx379_0⟩ := Kd.at_int HR0_2.out 1 p379 q379; obtain rfl : ad378 = ad379 := (by injection e379); (try simp only [show (1 : Int).toNat = 1 from rfl, Nat.reduceMul, Nat.reduceEqDiff, Go.Addr.add, ↓reduceIte] at hx379_0); have qi379 : (1 < l0_2.length) = True := eq_true (by omega); (try rw [show ((1 : Int)).toNat = 1 from rfl] at hx379_0); replace hx379_0 := (HB.out.cell (World.block_lt_of_cell? w _ hx379_0)).trans hx379_0; replace p379 := eq_true p379; replace q379 := eq_true q379)))
          go_ret2
          exact ⟨by first | rfl | (simp [errW_none, errW_some] <;> rfl) | (simp [*, errW_none, errW_some] <;> rfl), by repeat (first | (with_reducible first | exact HB.out | apply below_alloc | apply pw_below_drewN | apply below_drew1 | refine below_set ?_ GE377.out) | exact HB.out)⟩
        · rw [if_neg c5] at H
          exact absurd H (by simp)
      · rw [if_neg c4] at H
        exact absurd H (by simp)
    · rw [if_neg c3] at H
      have c3b0 : ((l0_2.length : Int) == 2) = false := beq_eq_false_iff_ne.mpr c3
      have c3b1 : ((l0_2.length : Int) != 2) = true := bne_iff_ne.mpr c3
      simp only [Option.some.injEq, Prod.mk.injEq] at H
      obtain ⟨rfl, rfl⟩ := H
      go_enter Tryd.func29, Tryd.ntmps29
      go_wp2_with (first | ((with_reducible refine gate_dst (N := 1) rfl ?_); (try (refine gate_guard (by rfl) ?_; dsimp only)); refine box_event ?hg (N := 1) ?hd (cs := #[.int .i64 a0_0, .int .i64 a0_1, .slice A0_2 l0_2.length c0_2]) (t := 29) ?hr ?_; (case hd => rfl); (case hg => rfl); (case hr => first | (go_simp; done) | (go_simp; rfl)); intro gb377 hg w8 hbox hb; have n0_ := Aside0.mk (below_step (by repeat (first | (with_reducible first | exact HB.out | apply below_alloc | apply pw_below_drewN | apply below_drew1) | exact HB.out)) hb); have n1_ := Aside0.mk (hbox); have n2_ := Aside0.mk ((by rw [hg]; exact (below_size (by repeat (first | (with_reducible first | exact HB.out | apply below_alloc | apply pw_below_drewN | apply below_drew1) | exact HB.out))) : w.heap.size ≤ gb377)); have n3_ := Aside0.mk ((by rw [hg]; exact (below_size (by repeat (first | (with_reducible first | exact HB.out | apply below_alloc | apply pw_below_drewN | apply below_drew1) | exact HB.out))) : w.heap.size ≤ gb377)); clear HB; have HB := n0_; have BK377 := n1_; have GW377 := n2_; have GE377 := n3_; clear n0_ n1_ n2_ n3_; clear hb hbox hg; have hcz9_0 : w8.cell? ⟨gb377, 0, none⟩ = some (.int .i64 a0_0) := (blk_cell BK377.out 0).trans rfl; have hcz9_1 : w8.cell? ⟨gb377, 1, none⟩ = some (.int .i64 a0_1) := (blk_cell BK377.out 1).trans rfl; have hcz9_2 : w8.cell? ⟨gb377, 2, none⟩ = some (.slice A0_2 l0_2.length c0_2) := (blk_cell BK377.out 2).trans rfl; have hfz9_0 := blk_frozen BK377.out 0; have hfz9_1 := blk_frozen BK377.out 1; have hfz9_2 := blk_frozen BK377.out 2))
      repeat (go_quiet (first | ((with_reducible refine gate_dst (N := 1) rfl ?_); (try (refine gate_guard (by rfl) ?_; dsimp only)); refine box_event ?hg (N := 1) ?hd (cs := #[.int .i64 a0_0, .int .i64 a0_1, .slice A0_2 l0_2.length c0_2]) (t := 29) ?hr ?_; (case hd => rfl); (case hg => rfl); (case hr => first | (go_simp; done) | (go_simp; rfl)); intro gb377 hg w8 hbox hb; have n0_ := Aside0.mk (below_step (by repeat (first | (with_reducible first | exact HB.out | apply below_alloc | apply pw_below_drewN | apply below_drew1) | exact HB.out)) hb); have n1_ := Aside0.mk (hbox); have n2_ := Aside0.mk ((by rw [hg]; exact (below_size (by repeat (first | (with_reducible first | exact HB.out | apply below_alloc | apply pw_below_drewN | apply below_drew1) | exact HB.out))) : w.heap.size ≤ gb377)); have n3_ := Aside0.mk ((by rw [hg]; exact (below_size (by repeat (first | (with_reducible first | exact HB.out | apply below_alloc | apply pw_below_drewN | apply below_drew1) | exact HB.out))) : w.heap.size ≤ gb377)); clear HB; have HB := n0_; have BK377 := n1_; have GW377 := n2_; have GE377 := n3_; clear n0_ n1_ n2_ n3_; clear hb hbox hg; have hcz9_0 : w8.cell? ⟨gb377, 0, none⟩ = some (.int .i64 a0_0) := (blk_cell BK377.out 0).trans rfl; have hcz9_1 : w8.cell? ⟨gb377, 1, none⟩ = some (.int .i64 a0_1) := (blk_cell BK377.out 1).trans rfl; have hcz9_2 : w8.cell? ⟨gb377, 2, none⟩ = some (.slice A0_2 l0_2.length c0_2) := (blk_cell BK377.out 2).trans rfl; have hfz9_0 := blk_frozen BK377.out 0; have hfz9_1 := blk_frozen BK377.out 1; have hfz9_2 := blk_frozen BK377.out 2)); try go_wp2_with (first | ((with_reducible refine gate_dst (N := 1) rfl ?_); (try (refine gate_guard (by rfl) ?_; dsimp only)); refine box_event ?hg (N := 1) ?hd (cs := #[.int .i64 a0_0, .int .i64 a0_1, .slice A0_2 l0_2.length c0_2]) (t := 29) ?hr ?_; (case hd => rfl); (case hg => rfl); (case hr => first | (go_simp; done) | (go_simp; rfl)); intro gb377 hg w8 hbox hb; have n0_ := Aside0.mk (below_step (by repeat (first | (with_reducible first | exact HB.out | apply below_alloc | apply pw_below_drewN | apply below_drew1) | exact HB.out)) hb); have n1_ := Aside0.mk (hbox); have n2_ := Aside0.mk ((by rw [hg]; exact (below_size (by repeat (first | (with_reducible first | exact HB.out | apply below_alloc | apply pw_below_drewN | apply below_drew1) | exact HB.out))) : w.heap.size ≤ gb377)); have n3_ := Aside0.mk ((by rw [hg]; exact (below_size (by repeat (first | (with_reducible first | exact HB.out | apply below_alloc | apply pw_below_drewN | apply below_drew1) | exact HB.out))) : w.heap.size ≤ gb377)); clear HB; have HB := n0_; have BK377 := n1_; have GW377 := n2_; have GE377 := n3_; clear n0_ n1_ n2_ n3_; clear hb hbox hg; have hcz9_0 : w8.cell? ⟨gb377, 0, none⟩ = some (.int .i64 a0_0) := (blk_cell BK377.out 0).trans rfl; have hcz9_1 : w8.cell? ⟨gb377, 1, none⟩ = some (.int .i64 a0_1) := (blk_cell BK377.out 1).trans rfl; have hcz9_2 : w8.cell? ⟨gb377, 2, none⟩ = some (.slice A0_2 l0_2.length c0_2) := (blk_cell BK377.out 2).trans rfl; have hfz9_0 := blk_frozen BK377.out 0; have hfz9_1 := blk_frozen BK377.out 1; have hfz9_2 := blk_frozen BK377.out 2)))
      go_ret2
      exact ⟨by first | rfl | (simp [errW_none, errW_some] <;> rfl) | (simp [*, errW_none, errW_some] <;> rfl), by repeat (first | (with_reducible first | exact HB.out | apply below_alloc | apply pw_below_drewN | apply below_drew1 | refine below_set ?_ GE377.out) | exact HB.out)⟩
  · rw [if_neg c2] at H
    have c2b0 : (a0_0 == 1) = false := beq_eq_false_iff_ne.mpr c2
    have c2b1 : (a0_0 != 1) = true := bne_iff_ne.mpr c2
    simp only [Option.some.injEq, Prod.mk.injEq] at H
    obtain ⟨rfl, rfl⟩ := H
    go_enter Tryd.func29, Tryd.ntmps29
    go_wp2_with (first | ((with_reducible refine gate_dst (N := 1) rfl ?_); (try (refine gate_guard (by rfl) ?_; dsimp only)); refine box_event ?hg (N := 1) ?hd (cs := #[.int .i64 a0_0, .int .i64 a0_1, .slice A0_2 l0_2.length c0_2]) (t := 29) ?hr ?_; (case hd => rfl); (case hg => rfl); (case hr => first | (go_simp; done) | (go_simp; rfl)); intro gb377 hg w10 hbox hb; have n0_ := Aside0.mk (below_step (by repeat (first | (with_reducible first | exact HB.out | apply below_alloc | apply pw_below_drewN | apply below_drew1) | exact HB.out)) hb); have n1_ := Aside0.mk (hbox); have n2_ := Aside0.mk ((by rw [hg]; exact (below_size (by repeat (first | (with_reducible first | exact HB.out | apply below_alloc | apply pw_below_drewN | apply below_drew1) | exact HB.out))) : w.heap.size ≤ gb377)); have n3_ := Aside0.mk ((by rw [hg]; exact (below_size (by repeat (first | (with_reducible first | exact HB.out | apply below_alloc | apply pw_below_drewN | apply below_drew1) | exact HB.out))) : w.heap.size ≤ gb377)); clear HB; have HB := n0_; have BK377 := n1_; have GW377 := n2_; have GE377 := n3_; clear n0_ n1_ n2_ n3_; clear hb hbox hg; have hcz11_0 : w10.cell? ⟨gb377, 0, none⟩ = some (.int .i64 a0_0) := (blk_cell BK377.out 0).trans rfl; have hcz11_1 : w10.cell? ⟨gb377, 1, none⟩ = some (.int .i64 a0_1) := (blk_cell BK377.out 1).trans rfl; have hcz11_2 : w10.cell? ⟨gb377, 2, none⟩ = some (.slice A0_2 l0_2.length c0_2) := (blk_cell BK377.out 2).trans rfl; have hfz11_0 := blk_frozen BK377.out 0; have hfz11_1 := blk_frozen BK377.out 1; have hfz11_2 := blk_frozen BK377.out 2))
    repeat (go_quiet (first | ((with_reducible refine gate_dst (N := 1) rfl ?_); (try (refine gate_guard (by rfl) ?_; dsimp only)); refine box_event ?hg (N := 1) ?hd (cs := #[.int .i64 a0_0, .int .i64 a0_1, .slice A0_2 l0_2.length c0_2]) (t := 29) ?hr ?_; (case hd => rfl); (case hg => rfl); (case hr => first | (go_simp; done) | (go_simp; rfl)); intro gb377 hg w10 hbox hb; have n0_ := Aside0.mk (below_step (by repeat (first | (with_reducible first | exact HB.out | apply below_alloc | apply pw_below_drewN | apply below_drew1) | exact HB.out)) hb); have n1_ := Aside0.mk (hbox); have n2_ := Aside0.mk ((by rw [hg]; exact (below_size (by repeat (first | (with_reducible first | exact HB.out | apply below_alloc | apply pw_below_drewN | apply below_drew1) | exact HB.out))) : w.heap.size ≤ gb377)); have n3_ := Aside0.mk ((by rw [hg]; exact (below_size (by repeat (first | (with_reducible first | exact HB.out | apply below_alloc | apply pw_below_drewN | apply below_drew1) | exact HB.out))) : w.heap.size ≤ gb377)); clear HB; have HB := n0_; have BK377 := n1_; have GW377 := n2_; have GE377 := n3_; clear n0_ n1_ n2_ n3_; clear hb hbox hg; have hcz11_0 : w10.cell? ⟨gb377, 0, none⟩ = some (.int .i64 a0_0) := (blk_cell BK377.out 0).trans rfl; have hcz11_1 : w10.cell? ⟨gb377, 1, none⟩ = some (.int .i64 a0_1) := (blk_cell BK377.out 1).trans rfl; have hcz11_2 : w10.cell? ⟨gb377, 2, none⟩ = some (.slice A0_2 l0_2.length c0_2) := (blk_cell BK377.out 2).trans rfl; have hfz11_0 := blk_frozen BK377.out 0; have hfz11_1 := blk_frozen BK377.out 1; have hfz11_2 := blk_frozen BK377.out 2)); try go_wp2_with (first | ((with_reducible refine gate_dst (N := 1) rfl ?_); (try (refine gate_guard (by rfl) ?_; dsimp only)); refine box_event ?hg (N := 1) ?hd (cs := #[.int .i64 a0_0, .int .i64 a0_1, .slice A0_2 l0_2.length c0_2]) (t := 29) ?hr ?_; (case hd => rfl); (case hg => rfl); (case hr => first | (go_simp; done) | (go_simp; rfl)); intro gb377 hg w10 hbox hb; have n0_ := Aside0.mk (below_step (by repeat (first | (with_reducible first | exact HB.out | apply below_alloc | apply pw_below_drewN | apply below_drew1) | exact HB.out)) hb); have n1_ := Aside0.mk (hbox); have n2_ := Aside0.mk ((by rw [hg]; exact (below_size (by repeat (first | (with_reducible first | exact HB.out | apply below_alloc | apply pw_below_drewN | apply below_drew1) | exact HB.out))) : w.heap.size ≤ gb377)); have n3_ := Aside0.mk ((by rw [hg]; exact (below_size (by repeat (first | (with_reducible first | exact HB.out | apply below_alloc | apply pw_below_drewN | apply below_drew1) | exact HB.out))) : w.heap.size ≤ gb377)); clear HB; have HB := n0_; have BK377 := n1_; have GW377 := n2_; have GE377 := n3_; clear n0_ n1_ n2_ n3_; clear hb hbox hg; have hcz11_0 : w10.cell? ⟨gb377, 0, none⟩ = some (.int .i64 a0_0) := (blk_cell BK377.out 0).trans rfl; have hcz11_1 : w10.cell? ⟨gb377, 1, none⟩ = some (.int .i64 a0_1) := (blk_cell BK377.out 1).trans rfl; have hcz11_2 : w10.cell? ⟨gb377, 2, none⟩ = some (.slice A0_2 l0_2.length c0_2) := (blk_cell BK377.out 2).trans rfl; have hfz11_0 := blk_frozen BK377.out 0; have hfz11_1 := blk_frozen BK377.out 1; have hfz11_2 := blk_frozen BK377.out 2)))
    go_ret2
    exact ⟨by first | rfl | (simp [errW_none, errW_some] <;> rfl) | (simp [*, errW_none, errW_some] <;> rfl), by repeat (first | (with_reducible first | exact HB.out | apply below_alloc | apply pw_below_drewN | apply below_drew1 | refine below_set ?_ GE377.out) | exact HB.out)⟩

end Go.Proofs.YtfhnpphceeoeeaaDoor.PX
-- Written by a program of this session (wip/xprint.py, over the kit's print tool). Lean checks it.
namespace Go.Proofs.YtfhnpphceeoeeaaDoor.PX
open Go.RowKit Go.Proofs.YtfhnpphceeoeeaaDoorW.PrintWords Go.Proofs.YtfhnpphceeoeeaaDoorW.PrintLast Go.Proofs.YtfhnpphceeoeeaaDoorW.PrintMore
attribute [local go_sem] max2_int min2_int max_two min_two max_three min_three max_four min_four   -- for this text's walks alone
set_option linter.unusedVariables false
set_option linter.unusedSimpArgs false

/-! ### frame_Offered: function 30 -/
def frame_Offered.j0 : Nat → Bool → Int → Int → List Int → Option (Int × Int × Bool)
  | 0, _, _, _, _ => none
  | k + 1, x13, x381000, x381001, x381002 => if x13 = true then (some (0, 0, false)) else (if 4 ≤ (x381002.length : Int) then ((frame_value.f k (x381002.take 4)).bind fun t382 => ((frame_value.f k (x381002.drop 4)).bind fun t384 => (some (t382, IntKind.u16.wrap (t384), true)))) else (none))
def frame_Offered.f (k : Nat) (a0_0 : Int) (a0_1 : Int) (l0_2 : List Int) : Option (Int × Int × Bool) := if a0_0 = 3 then (frame_Offered.j0 k ((l0_2.length : Int) != 6) a0_0 a0_1 l0_2) else (frame_Offered.j0 k true a0_0 a0_1 l0_2)
set_option maxHeartbeats 8000000 in
set_option maxRecDepth 100000 in
theorem frame_Offered.calls (k : Nat) (a0_0 : Int) (a0_1 : Int) (A0_2 : Option Addr) (c0_2 : Nat) (l0_2 : List Int) (r1 : Int) (r2 : Int) (r3 : Bool) (w : World) (hr0_2 : Kd.C (Kd.int .u8) w A0_2 l0_2.length l0_2) (hc0_2 : l0_2.length ≤ c0_2) (h : frame_Offered.f k a0_0 a0_1 l0_2 = some (r1, r2, r3)) :
    Calls Tryd.prog 30 #[.agg #[.int .i64 a0_0, .int .i64 a0_1, .slice A0_2 l0_2.length c0_2]] w fun e w' => e = .returned (.tuple #[.int .i64 r1, .int .u16 r2, .bool r3]) ∧ Below w.heap.size w w' := by
  have hu29 := Tryd.underlying29
  have HR0_2 := Aside0.mk hr0_2
  have HC0_2 := Aside0.mk hc0_2
  clear hr0_2 hc0_2
  have HB := Aside0.mk (Below.refl w.heap.size w)
  have H : (if a0_0 = 3 then (frame_Offered.j0 k ((l0_2.length : Int) != 6) a0_0 a0_1 l0_2) else (frame_Offered.j0 k true a0_0 a0_1 l0_2)) = some (r1, r2, r3) := h
  clear h
  have HC2 := Aside0.mk H
  clear H
  go_enter Tryd.func30, Tryd.ntmps30
  go_upto_region 1 with (first | ((with_reducible refine gate_dst (N := 1) rfl ?_); (try (refine gate_guard (by rfl) ?_; dsimp only)); refine box_event ?hg (N := 1) ?hd (cs := #[.int .i64 a0_0, .int .i64 a0_1, .slice A0_2 l0_2.length c0_2]) (t := 29) ?hr ?_; (case hd => rfl); (case hg => rfl); (case hr => first | (go_simp; done) | (go_simp; rfl)); intro gb380 hg w3 hbox hb; have n0_ := Aside0.mk (below_step (by repeat (first | (with_reducible first | exact HB.out | apply below_alloc | apply pw_below_drewN | apply below_drew1) | exact HB.out)) hb); have n1_ := Aside0.mk (hbox); have n2_ := Aside0.mk ((by rw [hg]; exact (below_size (by repeat (first | (with_reducible first | exact HB.out | apply below_alloc | apply pw_below_drewN | apply below_drew1) | exact HB.out))) : w.heap.size ≤ gb380)); have n3_ := Aside0.mk ((by rw [hg]; exact (below_size (by repeat (first | (with_reducible first | exact HB.out | apply below_alloc | apply pw_below_drewN | apply below_drew1) | exact HB.out))) : w.heap.size ≤ gb380)); clear HB; have HB := n0_; have BK380 := n1_; have GW380 := n2_; have GE380 := n3_; clear n0_ n1_ n2_ n3_; clear hb hbox hg))
  repeat (go_quiet (first | ((with_reducible refine gate_dst (N := 1) rfl ?_); (try (refine gate_guard (by rfl) ?_; dsimp only)); refine box_event ?hg (N := 1) ?hd (cs := #[.int .i64 a0_0, .int .i64 a0_1, .slice A0_2 l0_2.length c0_2]) (t := 29) ?hr ?_; (case hd => rfl); (case hg => rfl); (case hr => first | (go_simp; done) | (go_simp; rfl)); intro gb380 hg w3 hbox hb; have n0_ := Aside0.mk (below_step (by repeat (first | (with_reducible first | exact HB.out | apply below_alloc | apply pw_below_drewN | apply below_drew1) | exact HB.out)) hb); have n1_ := Aside0.mk (hbox); have n2_ := Aside0.mk ((by rw [hg]; exact (below_size (by repeat (first | (with_reducible first | exact HB.out | apply below_alloc | apply pw_below_drewN | apply below_drew1) | exact HB.out))) : w.heap.size ≤ gb380)); have n3_ := Aside0.mk ((by rw [hg]; exact (below_size (by repeat (first | (with_reducible first | exact HB.out | apply below_alloc | apply pw_below_drewN | apply below_drew1) | exact HB.out))) : w.heap.size ≤ gb380)); clear HB; have HB := n0_; have BK380 := n1_; have GW380 := n2_; have GE380 := n3_; clear n0_ n1_ n2_ n3_; clear hb hbox hg)); go_upto_region 1 with (first | ((with_reducible refine gate_dst (N := 1) rfl ?_); (try (refine gate_guard (by rfl) ?_; dsimp only)); refine box_event ?hg (N := 1) ?hd (cs := #[.int .i64 a0_0, .int .i64 a0_1, .slice A0_2 l0_2.length c0_2]) (t := 29) ?hr ?_; (case hd => rfl); (case hg => rfl); (case hr => first | (go_simp; done) | (go_simp; rfl)); intro gb380 hg w3 hbox hb; have n0_ := Aside0.mk (below_step (by repeat (first | (with_reducible first | exact HB.out | apply below_alloc | apply pw_below_drewN | apply below_drew1) | exact HB.out)) hb); have n1_ := Aside0.mk (hbox); have n2_ := Aside0.mk ((by rw [hg]; exact (below_size (by repeat (first | (with_reducible first | exact HB.out | apply below_alloc | apply pw_below_drewN | apply below_drew1) | exact HB.out))) : w.heap.size ≤ gb380)); have n3_ := Aside0.mk ((by rw [hg]; exact (below_size (by repeat (first | (with_reducible first | exact HB.out | apply below_alloc | apply pw_below_drewN | apply below_drew1) | exact HB.out))) : w.heap.size ≤ gb380)); clear HB; have HB := n0_; have BK380 := n1_; have GW380 := n2_; have GE380 := n3_; clear n0_ n1_ n2_ n3_; clear hb hbox hg)))
  (try simp only [Act.put, List.setIfInBounds_toArray, List.set_cons_zero, List.set_cons_succ])
  go_cut [13] (fun v13 wc => ∃ (kq : Nat) (x13_1 : Bool), v13 = .bool x13_1 ∧ Aside0 (frame_Offered.j0 kq x13_1 a0_0 a0_1 l0_2 = some (r1, r2, r3)) ∧ Aside0 (kq ≤ k) ∧ Aside0 (wc.heap[gb380]? = some (.cells #[.int .i64 a0_0, .int .i64 a0_1, (.slice A0_2 l0_2.length c0_2)] 29 (0, 0))) ∧ Aside0 (Below w.heap.size w wc))
  case first =>
    have H := HC2.out
    clear HC2
    by_cases c4 : a0_0 = 3
    · rw [if_pos c4] at H
      have c4b0 : (a0_0 == 3) = true := beq_iff_eq.mpr c4
      have c4b1 : (a0_0 != 3) = false := bne_eq_false_iff_eq.mpr c4
      clear c4
      (first | rw [c4b0] | (simp only [i64_w, i32_w]; rw [c4b0]) | skip)
      have H' := Aside0.mk H
      clear H
      have hcz5_0 : w3.cell? ⟨gb380, 0, none⟩ = some (.int .i64 a0_0) := (blk_cell BK380.out 0).trans rfl
      have hcz5_1 : w3.cell? ⟨gb380, 1, none⟩ = some (.int .i64 a0_1) := (blk_cell BK380.out 1).trans rfl
      have hcz5_2 : w3.cell? ⟨gb380, 2, none⟩ = some (.slice A0_2 l0_2.length c0_2) := (blk_cell BK380.out 2).trans rfl
      have hfz5_0 := blk_frozen BK380.out 0
      have hfz5_1 := blk_frozen BK380.out 1
      have hfz5_2 := blk_frozen BK380.out 2
      go_wp2
      repeat (go_quiet (fail); try go_wp2)
      go_meet
      case rel => exact ⟨_, (((l0_2.length : Int) != 6)), (by first | rfl | (simp; done) | (simp [*]; done)), H', ⟨by first | omega | exact Nat.le_refl _⟩, ⟨by (with_reducible repeat (first | refine blk_drewN ?_ _ | refine blk_drew ?_ | refine blk_alloc ?_ _)); exact BK380.out⟩, ⟨by repeat (first | (with_reducible first | exact HB.out | apply below_alloc | apply pw_below_drewN | apply below_drew1 | refine below_set ?_ GE380.out) | exact HB.out)⟩⟩
    · rw [if_neg c4] at H
      have c4b0 : (a0_0 == 3) = false := beq_eq_false_iff_ne.mpr c4
      have c4b1 : (a0_0 != 3) = true := bne_iff_ne.mpr c4
      (first | rw [c4b0] | (simp only [i64_w, i32_w]; rw [c4b0]) | skip)
      have H' := Aside0.mk H
      clear H
      have hcz6_0 : w3.cell? ⟨gb380, 0, none⟩ = some (.int .i64 a0_0) := (blk_cell BK380.out 0).trans rfl
      have hcz6_1 : w3.cell? ⟨gb380, 1, none⟩ = some (.int .i64 a0_1) := (blk_cell BK380.out 1).trans rfl
      have hcz6_2 : w3.cell? ⟨gb380, 2, none⟩ = some (.slice A0_2 l0_2.length c0_2) := (blk_cell BK380.out 2).trans rfl
      have hfz6_0 := blk_frozen BK380.out 0
      have hfz6_1 := blk_frozen BK380.out 1
      have hfz6_2 := blk_frozen BK380.out 2
      go_wp2
      repeat (go_quiet (fail); try go_wp2)
      go_meet
      case rel => exact ⟨_, (true), (by first | rfl | (simp; done) | (simp [*]; done)), H', ⟨by first | omega | exact Nat.le_refl _⟩, ⟨by (with_reducible repeat (first | refine blk_drewN ?_ _ | refine blk_drew ?_ | refine blk_alloc ?_ _)); exact BK380.out⟩, ⟨by repeat (first | (with_reducible first | exact HB.out | apply below_alloc | apply pw_below_drewN | apply below_drew1 | refine below_set ?_ GE380.out) | exact HB.out)⟩⟩
  case rest =>
    clear HC2
    try clear p2
    try clear c3
    try clear c4
    try clear c4b0
    try clear c4b1
    try clear hcz5_0
    try clear hcz5_1
    try clear hcz5_2
    try clear hcz6_0
    try clear hcz6_1
    try clear hcz6_2
    try clear hfz5_0
    try clear hfz5_1
    try clear hfz5_2
    try clear hfz6_0
    try clear hfz6_1
    try clear hfz6_2
    obtain ⟨kq, x13_1, rfl, HA, HJ1, BK380, HB⟩ := hcut
    cases kq with
    | zero => exact absurd HA.out (by simp [frame_Offered.j0])
    | succ kj1 =>
      have H := HA.out
      clear HA
      simp only [frame_Offered.j0] at H
      by_cases c7 : x13_1 = true
      · subst c7
        have H1 : (some (0, 0, false)) = some (r1, r2, r3) := by rw [if_pos rfl] at H; exact H
        clear H
        have H := H1
        clear H1
        simp only [Option.some.injEq, Prod.mk.injEq] at H
        obtain ⟨rfl, rfl, rfl⟩ := H
        go_wp2
        repeat (go_quiet (fail); try go_wp2)
        go_ret3
        exact ⟨by first | rfl | (simp [errW_none, errW_some] <;> rfl) | (simp [*, errW_none, errW_some] <;> rfl), by repeat (first | (with_reducible first | exact HB.out | apply below_alloc | apply pw_below_drewN | apply below_drew1 | refine below_set ?_ GE380.out) | exact HB.out)⟩
      · replace c7 := Bool.eq_false_iff.mpr c7
        subst c7
        have H1 : (if 4 ≤ (l0_2.length : Int) then ((frame_value.f kj1 (l0_2.take 4)).bind fun t382 => ((frame_value.f kj1 (l0_2.drop 4)).bind fun t384 => (some (t382, IntKind.u16.wrap (t384), true)))) else (none)) = some (r1, r2, r3) := by rw [if_neg (show ¬ (false = true) by decide)] at H; exact H
        clear H
        have H := H1
        clear H1
        by_cases c8 : 4 ≤ (l0_2.length : Int)
        · rw [if_pos c8] at H
          have c8b0 := eq_true c8
          have c8b1 : decide (4 ≤ (l0_2.length : Int)) = true := decide_eq_true c8
          clear c8
          replace H := Option.bind_eq_some_iff.mp H
          obtain ⟨t382, A90, H⟩ := H
          replace H : ((frame_value.f kj1 (l0_2.drop 4)).bind fun t384 => (some (t382, IntKind.u16.wrap (t384), true))) = some (r1, r2, r3) := H
          have A9 := Aside0.mk A90
          clear A90
          have c10b0 := eq_true (of_decide_eq_true (by first | (with_reducible assumption) | assumption) : 4 ≤ (l0_2.length : Int))
          replace H := Option.bind_eq_some_iff.mp H
          obtain ⟨t384, A110, H⟩ := H
          replace H : (some (t382, IntKind.u16.wrap (t384), true)) = some (r1, r2, r3) := H
          have A11 := Aside0.mk A110
          clear A110
          simp only [Option.some.injEq, Prod.mk.injEq] at H
          obtain ⟨rfl, rfl, rfl⟩ := H
          have hcz12_0 : wc.cell? ⟨gb380, 0, none⟩ = some (.int .i64 a0_0) := (blk_cell BK380.out 0).trans rfl
          have hcz12_1 : wc.cell? ⟨gb380, 1, none⟩ = some (.int .i64 a0_1) := (blk_cell BK380.out 1).trans rfl
          have hcz12_2 : wc.cell? ⟨gb380, 2, none⟩ = some (.slice A0_2 l0_2.length c0_2) := (blk_cell BK380.out 2).trans rfl
          have hfz12_0 := blk_frozen BK380.out 0
          have hfz12_1 := blk_frozen BK380.out 1
          have hfz12_2 := blk_frozen BK380.out 2
          obtain ⟨i013, hi013, _, hsz13, _⟩ := info_parts info5
          obtain ⟨hcut13, hA13, hC13⟩ := print_take_of (P := Tryd.prog) (Value.int .u8) 0 24 5 .i64 Tryd.underlying24 hi013 hsz13 A0_2 c0_2 l0_2 4 (by omega) (of_decide_eq_true (by first | (with_reducible assumption) | assumption)) HC0_2.out
          have HR381 := Aside0.mk (Kd.C_of_reads (h1 := fun _ => rfl) (hA13 _ (Kd.reads_of_C HR0_2.out)))
          have HC381 := Aside0.mk hC13
          clear hA13 hC13 hi013 hsz13
          obtain ⟨i014, hi014, _, hsz14, _⟩ := info_parts info5
          obtain ⟨A14, hcut14, hA14, hC14⟩ := print_drop_of (P := Tryd.prog) (Value.int .u8) 0 24 5 .i64 Tryd.underlying24 hi014 hsz14 A0_2 c0_2 l0_2 4 (by omega) (of_decide_eq_true (by first | (with_reducible assumption) | assumption)) HC0_2.out
          have HR383 := Aside0.mk (Kd.C_of_reads (h1 := fun _ => rfl) (hA14 _ (Kd.reads_of_C HR0_2.out)))
          have HC383 := Aside0.mk hC14
          clear hA14 hC14 hi014 hsz14
          go_wp2
          go_quiet (first | (go_at_call 52; (refine calls_of_args (args' := #[.slice A0_2 (l0_2.take 4).length c0_2]) ?he ?_); (case he => rw [List.length_take]); (with_reducible refine (frame_value.calls kj1 _ _ (l0_2.take 4) t382 _ ?side1 ?side2 A9.out).mono ?_); (case side1 => repeat (first | exact (Kd.C_below HR381.out (by repeat (first | (with_reducible first | exact HB.out | apply below_alloc | apply pw_below_drewN | apply below_drew1 | refine below_set ?_ GE380.out) | exact HB.out))) | (with_reducible refine Kd.C_alloc ?_ _) | (with_reducible refine Kd.C_drewN ?_ _) | (with_reducible refine Kd.C_drew ?_))); (case side2 => exact HC381.out); rintro e w' ⟨rfl, ⟨nd, rfl⟩⟩; (try first | exact ⟨rfl, _, World.drewN_drewN _ _ _⟩ | exact ⟨rfl, _, Eq.trans (World.drewN_drewN _ _ _) (congrArg (World.drewN _) (Nat.add_assoc _ _ _))⟩)) | (go_at_call 52; (refine calls_of_args (args' := #[.slice A14 (l0_2.drop 4).length (c0_2 - 4)]) ?he ?_); (case he => rw [List.length_drop]); (with_reducible refine (frame_value.calls kj1 _ _ (l0_2.drop 4) t384 _ ?side1 ?side2 A11.out).mono ?_); (case side1 => repeat (first | exact (Kd.C_below HR383.out (by repeat (first | (with_reducible first | exact HB.out | apply below_alloc | apply pw_below_drewN | apply below_drew1 | refine below_set ?_ GE380.out) | exact HB.out))) | (with_reducible refine Kd.C_alloc ?_ _) | (with_reducible refine Kd.C_drewN ?_ _) | (with_reducible refine Kd.C_drew ?_))); (case side2 => exact HC383.out); rintro e w' ⟨rfl, ⟨nd, rfl⟩⟩; (try first | exact ⟨rfl, _, World.drewN_drewN _ _ _⟩ | exact ⟨rfl, _, Eq.trans (World.drewN_drewN _ _ _) (congrArg (World.drewN _) (Nat.add_assoc _ _ _))⟩)))
          go_wp2
          go_ret3
          exact ⟨by first | rfl | (simp [errW_none, errW_some] <;> rfl) | (simp [*, errW_none, errW_some] <;> rfl), by repeat (first | (with_reducible first | exact HB.out | apply below_alloc | apply pw_below_drewN | apply below_drew1 | refine below_set ?_ GE380.out) | exact HB.out)⟩
        · rw [if_neg c8] at H
          exact absurd H (by simp)

end Go.Proofs.YtfhnpphceeoeeaaDoor.PX
-- Written by a program of this session (wip/xprint.py, over the kit's print tool). Lean checks it.
namespace Go.Proofs.YtfhnpphceeoeeaaDoor.PX
open Go.RowKit Go.Proofs.YtfhnpphceeoeeaaDoorW.PrintWords Go.Proofs.YtfhnpphceeoeeaaDoorW.PrintLast Go.Proofs.YtfhnpphceeoeeaaDoorW.PrintMore
attribute [local go_sem] max2_int min2_int max_two min_two max_three min_three max_four min_four   -- for this text's walks alone
set_option linter.unusedVariables false
set_option linter.unusedSimpArgs false

/-! ### trickleref43_Offered: function 31 -/
def trickleref43_Offered.f (a0_0 : Int) (a0_1 : Int) (l0_2 : List Int) : Option (Int × Int × Bool) := if a0_0 = 3 then (if (l0_2.length : Int) = 6 then ((trickleref43_number.f l0_2).bind fun t386 => (if 4 < (l0_2.length : Int) then (if 5 < (l0_2.length : Int) then (some (t386, IntKind.u16.wrap ((IntKind.u16.wrap (rd l0_2 4)) + (IntKind.u16.wrap (256 * (IntKind.u16.wrap (rd l0_2 5))))), true)) else (none)) else (none))) else (some (0, 0, false))) else (some (0, 0, false))
set_option maxHeartbeats 8000000 in
set_option maxRecDepth 100000 in
theorem trickleref43_Offered.calls (a0_0 : Int) (a0_1 : Int) (A0_2 : Option Addr) (c0_2 : Nat) (l0_2 : List Int) (r1 : Int) (r2 : Int) (r3 : Bool) (w : World) (hr0_2 : Kd.C (Kd.int .u8) w A0_2 l0_2.length l0_2) (hc0_2 : l0_2.length ≤ c0_2) (h : trickleref43_Offered.f a0_0 a0_1 l0_2 = some (r1, r2, r3)) :
    Calls Tryd.prog 31 #[.agg #[.int .i64 a0_0, .int .i64 a0_1, .slice A0_2 l0_2.length c0_2]] w fun e w' => e = .returned (.tuple #[.int .i64 r1, .int .u16 r2, .bool r3]) ∧ Below w.heap.size w w' := by
  have hu29 := Tryd.underlying29
  have HR0_2 := Aside0.mk hr0_2
  have HC0_2 := Aside0.mk hc0_2
  clear hr0_2 hc0_2
  have HB := Aside0.mk (Below.refl w.heap.size w)
  have H : (if a0_0 = 3 then (if (l0_2.length : Int) = 6 then ((trickleref43_number.f l0_2).bind fun t386 => (if 4 < (l0_2.length : Int) then (if 5 < (l0_2.length : Int) then (some (t386, IntKind.u16.wrap ((IntKind.u16.wrap (rd l0_2 4)) + (IntKind.u16.wrap (256 * (IntKind.u16.wrap (rd l0_2 5))))), true)) else (none)) else (none))) else (some (0, 0, false))) else (some (0, 0, false))) = some (r1, r2, r3) := h
  clear h
  by_cases c2 : a0_0 = 3
  · rw [if_pos c2] at H
    have c2b0 : (a0_0 == 3) = true := beq_iff_eq.mpr c2
    have c2b1 : (a0_0 != 3) = false := bne_eq_false_iff_eq.mpr c2
    clear c2
    by_cases c3 : (l0_2.length : Int) = 6
    · rw [if_pos c3] at H
      have c3b0 : ((l0_2.length : Int) == 6) = true := beq_iff_eq.mpr c3
      have c3b1 : ((l0_2.length : Int) != 6) = false := bne_eq_false_iff_eq.mpr c3
      clear c3
      replace H := Option.bind_eq_some_iff.mp H
      obtain ⟨t386, A40, H⟩ := H
      replace H : (if 4 < (l0_2.length : Int) then (if 5 < (l0_2.length : Int) then (some (t386, IntKind.u16.wrap ((IntKind.u16.wrap (rd l0_2 4)) + (IntKind.u16.wrap (256 * (IntKind.u16.wrap (rd l0_2 5))))), true)) else (none)) else (none)) = some (r1, r2, r3) := H
      have A4 := Aside0.mk A40
      clear A40
      by_cases c5 : 4 < (l0_2.length : Int)
      · rw [if_pos c5] at H
        have c5b0 : decide (4 < (l0_2.length : Int)) = true := decide_eq_true c5
        have c5b1 : decide (4 < l0_2.length) = true := decide_eq_true (by omega)
        clear c5
        by_cases c6 : 5 < (l0_2.length : Int)
        · rw [if_pos c6] at H
          have c6b0 : decide (5 < (l0_2.length : Int)) = true := decide_eq_true c6
          have c6b1 : decide (5 < l0_2.length) = true := decide_eq_true (by omega)
          clear c6
          simp only [Option.some.injEq, Prod.mk.injEq] at H
          obtain ⟨rfl, rfl, rfl⟩ := H
          go_enter Tryd.func31, Tryd.ntmps31
          go_wp2_with (first | ((with_reducible refine gate_dst (N := 1) rfl ?_); (try (refine gate_guard (by rfl) ?_; dsimp only)); refine box_event ?hg (N := 1) ?hd (cs := #[.int .i64 a0_0, .int .i64 a0_1, .slice A0_2 l0_2.length c0_2]) (t := 29) ?hr ?_; (case hd => rfl); (case hg => rfl); (case hr => first | (go_simp; done) | (go_simp; rfl)); intro gb385 hg w7 hbox hb; have n0_ := Aside0.mk (below_step (by repeat (first | (with_reducible first | exact HB.out | apply below_alloc | apply pw_below_drewN | apply below_drew1) | exact HB.out)) hb); have n1_ := Aside0.mk (hbox); have n2_ := Aside0.mk ((by rw [hg]; exact (below_size (by repeat (first | (with_reducible first | exact HB.out | apply below_alloc | apply pw_below_drewN | apply below_drew1) | exact HB.out))) : w.heap.size ≤ gb385)); have n3_ := Aside0.mk ((by rw [hg]; exact (below_size (by repeat (first | (with_reducible first | exact HB.out | apply below_alloc | apply pw_below_drewN | apply below_drew1) | exact HB.out))) : w.heap.size ≤ gb385)); clear HB; have HB := n0_; have BK385 := n1_; have GW385 := n2_; have GE385 := n3_; clear n0_ n1_ n2_ n3_; clear hb hbox hg; have hcz8_0 : w7.cell? ⟨gb385, 0, none⟩ = some (.int .i64 a0_0) := (blk_cell BK385.out 0).trans rfl; have hcz8_1 : w7.cell? ⟨gb385, 1, none⟩ = some (.int .i64 a0_1) := (blk_cell BK385.out 1).trans rfl; have hcz8_2 : w7.cell? ⟨gb385, 2, none⟩ = some (.slice A0_2 l0_2.length c0_2) := (blk_cell BK385.out 2).trans rfl; have hfz8_0 := blk_frozen BK385.out 0; have hfz8_1 := blk_frozen BK385.out 1; have hfz8_2 := blk_frozen BK385.out 2) | (go_at_call 54; (with_reducible refine (trickleref43_number.calls _ _ l0_2 t386 _ ?side1 ?side2 A4.out).mono ?_); (case side1 => repeat (first | exact (Kd.C_below HR0_2.out HB.out) | (with_reducible refine Kd.C_alloc ?_ _) | (with_reducible refine Kd.C_drewN ?_ _) | (with_reducible refine Kd.C_drew ?_))); (case side2 => exact HC0_2.out); rintro e w' ⟨rfl, ⟨nd, rfl⟩⟩; (try first | exact ⟨rfl, _, World.drewN_drewN _ _ _⟩ | exact ⟨rfl, _, Eq.trans (World.drewN_drewN _ _ _) (congrArg (World.drewN _) (Nat.add_assoc _ _ _))⟩); have p387 : 0 ≤ (4 : Int) := (by omega); have q387 : 4 < (l0_2.length : Int) := of_decide_eq_true (by first | (with_reducible assumption) | assumption); obtain ⟨ad387, e387, hx387_0⟩ := Kd.at_int HR0_2.out 4 p387 q387; cases e387; (try simp only [show (4 : Int).toNat = 4 from rfl, Nat.reduceMul, Nat.reduceEqDiff, Go.Addr.add, ↓reduceIte] at hx387_0); have qi387 : (4 < l0_2.length) = True := eq_true (by omega); (try rw [show ((4 : Int)).toNat = 4 from rfl] at hx387_0); replace hx387_0 := (HB.out.cell (World.block_lt_of_cell? w _ hx387_0)).trans hx387_0; replace p387 := eq_true p387; replace q387 := eq_true q387; have p388 : 0 ≤ (5 : Int) := (by omega); have q388 : 5 < (l0_2.length : Int) := of_decide_eq_true (by first | (with_reducible assumption) | assumption); obtain ⟨ad388, e388, hx388_0⟩ := Kd.at_int HR0_2.out 5 p388 q388; obtain rfl : ad387 = ad388 := (by injection e388); (try simp only [show (5 : Int).toNat = 5 from rfl, Nat.reduceMul, Nat.reduceEqDiff, Go.Addr.add, ↓reduceIte] at hx388_0); have qi388 : (5 < l0_2.length) = True := eq_true (by omega); (try rw [show ((5 : Int)).toNat = 5 from rfl] at hx388_0); replace hx388_0 := (HB.out.cell (World.block_lt_of_cell? w _ hx388_0)).trans hx388_0; replace p388 := eq_true p388; replace q388 := eq_true q388))
          repeat (go_quiet (first | ((with_reducible refine gate_dst (N := 1) rfl ?_); (try (refine gate_guard (by rfl) ?_; dsimp only)); refine box_event ?hg (N := 1) ?hd (cs := #[.int .i64 a0_0, .int .i64 a0_1, .slice A0_2 l0_2.length c0_2]) (t := 29) ?hr ?_; (case hd => rfl); (case hg => rfl); (case hr => first | (go_simp; done) | (go_simp; rfl)); intro gb385 hg w7 hbox hb; have n0_ := Aside0.mk (below_step (by repeat (first | (with_reducible first | exact HB.out | apply below_alloc | apply pw_below_drewN | apply below_drew1) | exact HB.out)) hb); have n1_ := Aside0.mk (hbox); have n2_ := Aside0.mk ((by rw [hg]; exact (below_size (by repeat (first | (with_reducible first | exact HB.out | apply below_alloc | apply pw_below_drewN | apply below_drew1) | exact HB.out))) : w.heap.size ≤ gb385)); have n3_ := Aside0.mk ((by rw [hg]; exact (below_size (by repeat (first | (with_reducible first | exact HB.out | apply below_alloc | apply pw_below_drewN | apply below_drew1) | exact HB.out))) : w.heap.size ≤ gb385)); clear HB; have HB := n0_; have BK385 := n1_; have GW385 := n2_; have GE385 := n3_; clear n0_ n1_ n2_ n3_; clear hb hbox hg; have hcz8_0 : w7.cell? ⟨gb385, 0, none⟩ = some (.int .i64 a0_0) := (blk_cell BK385.out 0).trans rfl; have hcz8_1 : w7.cell? ⟨gb385, 1, none⟩ = some (.int .i64 a0_1) := (blk_cell BK385.out 1).trans rfl; have hcz8_2 : w7.cell? ⟨gb385, 2, none⟩ = some (.slice A0_2 l0_2.length c0_2) := (blk_cell BK385.out 2).trans rfl; have hfz8_0 := blk_frozen BK385.out 0; have hfz8_1 := blk_frozen BK385.out 1; have hfz8_2 := blk_frozen BK385.out 2) | (go_at_call 54; (with_reducible refine (trickleref43_number.calls _ _ l0_2 t386 _ ?side1 ?side2 A4.out).mono ?_); (case side1 => repeat (first | exact (Kd.C_below HR0_2.out HB.out) | (with_reducible refine Kd.C_alloc ?_ _) | (with_reducible refine Kd.C_drewN ?_ _) | (with_reducible refine Kd.C_drew ?_))); (case side2 => exact HC0_2.out); rintro e w' ⟨rfl, ⟨nd, rfl⟩⟩; (try first | exact ⟨rfl, _, World.drewN_drewN _ _ _⟩ | exact ⟨rfl, _, Eq.trans (World.drewN_drewN _ _ _) (congrArg (World.drewN _) (Nat.add_assoc _ _ _))⟩); have p387 : 0 ≤ (4 : Int) := (by omega); have q387 : 4 < (l0_2.length : Int) := of_decide_eq_true (by first | (with_reducible assumption) | assumption); obtain ⟨ad387, e387, hx387_0⟩ := Kd.at_int HR0_2.out 4 p387 q387; cases e387; (try simp only [show (4 : Int).toNat = 4 from rfl, Nat.reduceMul, Nat.reduceEqDiff, Go.Addr.add, ↓reduceIte] at hx387_0); have qi387 : (4 < l0_2.length) = True := eq_true (by omega); (try rw [show ((4 : Int)).toNat = 4 from rfl] at hx387_0); replace hx387_0 := (HB.out.cell (World.block_lt_of_cell? w _ hx387_0)).trans hx387_0; replace p387 := eq_true p387; replace q387 := eq_true q387; have p388 : 0 ≤ (5 : Int) := (by omega); have q388 : 5 < (l0_2.length : Int) := of_decide_eq_true (by first | (with_reducible assumption) | assumption); obtain ⟨ad388, e388, hx388_0⟩ := Kd.at_int HR0_2.out 5 p388 q388; obtain rfl : ad387 = ad388 := (by injection e388); (try simp only [show (5 : Int).toNat = 5 from rfl, Nat.reduceMul, Nat.reduceEqDiff, Go.Addr.add, ↓reduceIte] at hx388_0); have qi388 : (5 < l0_2.length) = True := eq_true (by omega); (try rw [show ((5 : Int)).toNat = 5 from rfl] at hx388_0); replace hx388_0 := (HB.out.cell (World.block_lt_of_cell? w _ hx388_0)).trans hx388_0; replace p388 := eq_true p388; replace q388 := eq_true q388)); try go_wp2_with (first | ((with_reducible refine gate_dst (N := 1) rfl ?_); (try (refine gate_guard (by rfl) ?_; dsimp only)); refine box_event ?hg (N := 1) ?hd (cs := #[.int .i64 a0_0, .int .i64 a0_1, .slice A0_2 l0_2.length c0_2]) (t := 29) ?hr ?_; (case hd => rfl); (case hg => rfl); (case hr => first | (go_simp; done) | (go_simp; rfl)); intro gb385 hg w7 hbox hb; have n0_ := Aside0.mk (below_step (by repeat (first | (with_reducible first | exact HB.out | apply below_alloc | apply pw_below_drewN | apply below_drew1) | exact HB.out)) hb); have n1_ := Aside0.mk (hbox); have n2_ := Aside0.mk ((by rw [hg]; exact (below_size (by repeat (first | (with_reducible first | exact HB.out | apply below_alloc | apply pw_below_drewN | apply below_drew1) | exact HB.out))) : w.heap.size ≤ gb385)); have n3_ := Aside0.mk ((by rw [hg]; exact (below_size (by repeat (first | (with_reducible first | exact HB.out | apply below_alloc | apply pw_below_drewN | apply below_drew1) | exact HB.out))) : w.heap.size ≤ gb385)); clear HB; have HB := n0_; have BK385 := n1_; have GW385 := n2_; have GE385 := n3_; clear n0_ n1_ n2_ n3_; clear hb hbox hg; have hcz8_0 : w7.cell? ⟨gb385, 0, none⟩ = some (.int .i64 a0_0) := (blk_cell BK385.out 0).trans rfl; have hcz8_1 : w7.cell? ⟨gb385, 1, none⟩ = some (.int .i64 a0_1) := (blk_cell BK385.out 1).trans rfl; have hcz8_2 : w7.cell? ⟨gb385, 2, none⟩ = some (.slice A0_2 l0_2.length c0_2) := (blk_cell BK385.out 2).trans rfl; have hfz8_0 := blk_frozen BK385.out 0; have hfz8_1 := blk_frozen BK385.out 1; have hfz8_2 := blk_frozen BK385.out 2) | (go_at_call 54; (with_reducible refine (trickleref43_number.calls _ _ l0_2 t386 _ ?side1 ?side2 A4.out).mono ?_); (case side1 => repeat (first | exact (Kd.C_below HR0_2.out HB.out) | (with_reducible refine Kd.C_alloc ?_ _) | (with_reducible refine Kd.C_drewN ?_ _) | (with_reducible refine Kd.C_drew ?_))); (case side2 => exact HC0_2.out); rintro e w' ⟨rfl, ⟨nd, rfl⟩⟩; (try first | exact ⟨rfl, _, World.drewN_drewN _ _ _⟩ | exact ⟨rfl, _, Eq.trans (World.drewN_drewN _ _ _) (congrArg (World.drewN _) (Nat.add_assoc _ _ _))⟩); have p387 : 0 ≤ (4 : Int) := (by omega); have q387 : 4 < (l0_2.length : Int) := of_decide_eq_true (by first | (with_reducible assumption) | assumption); obtain ⟨ad387, e387, hx387_0⟩ := Kd.at_int HR0_2.out 4 p387 q387; cases e387; (try simp only [show (4 : Int).toNat = 4 from rfl, Nat.reduceMul, Nat.reduceEqDiff, Go.Addr.add, ↓reduceIte] at hx387_0); have qi387 : (4 < l0_2.length) = True := eq_true (by omega); (try rw [show ((4 : Int)).toNat = 4 from rfl] at hx387_0); replace hx387_0 := (HB.out.cell (World.block_lt_of_cell? w _ hx387_0)).trans hx387_0; replace p387 := eq_true p387; replace q387 := eq_true q387; have p388 : 0 ≤ (5 : Int) := (by omega); have q388 : 5 < (l0_2.length : Int) := of_decide_eq_true (by first | (with_reducible assumption) | assumption); obtain ⟨ad388, e388, hx388_0⟩ := Kd.at_int HR0_2.out 5 p388 q388; obtain rfl : ad387 = ad388 := (by injection e388); (try simp only [show (5 : Int).toNat = 5 from rfl, Nat.reduceMul, Nat.reduceEqDiff, Go.Addr.add, ↓reduceIte] at hx388_0); have qi388 : (5 < l0_2.length) = True := eq_true (by omega); (try rw [show ((5 : Int)).toNat = 5 from rfl] at hx388_0); replace hx388_0 := (HB.out.cell (World.block_lt_of_cell? w _ hx388_0)).trans hx388_0; replace p388 := eq_true p388; replace q388 := eq_true q388)))
          go_ret3
          exact ⟨by first | rfl | (simp [errW_none, errW_some] <;> rfl) | (simp [*, errW_none, errW_some] <;> rfl), by repeat (first | (with_reducible first | exact HB.out | apply below_alloc | apply pw_below_drewN | apply below_drew1 | refine below_set ?_ GE385.out) | exact HB.out)⟩
        · rw [if_neg c6] at H
          exact absurd H (by simp)
      · rw [if_neg c5] at H
        exact absurd H (by simp)
    · rw [if_neg c3] at H
      have c3b0 : ((l0_2.length : Int) == 6) = false := beq_eq_false_iff_ne.mpr c3
      have c3b1 : ((l0_2.length : Int) != 6) = true := bne_iff_ne.mpr c3
      simp only [Option.some.injEq, Prod.mk.injEq] at H
      obtain ⟨rfl, rfl, rfl⟩ := H
      go_enter Tryd.func31, Tryd.ntmps31
      go_wp2_with (first | ((with_reducible refine gate_dst (N := 1) rfl ?_); (try (refine gate_guard (by rfl) ?_; dsimp only)); refine box_event ?hg (N := 1) ?hd (cs := #[.int .i64 a0_0, .int .i64 a0_1, .slice A0_2 l0_2.length c0_2]) (t := 29) ?hr ?_; (case hd => rfl); (case hg => rfl); (case hr => first | (go_simp; done) | (go_simp; rfl)); intro gb385 hg w9 hbox hb; have n0_ := Aside0.mk (below_step (by repeat (first | (with_reducible first | exact HB.out | apply below_alloc | apply pw_below_drewN | apply below_drew1) | exact HB.out)) hb); have n1_ := Aside0.mk (hbox); have n2_ := Aside0.mk ((by rw [hg]; exact (below_size (by repeat (first | (with_reducible first | exact HB.out | apply below_alloc | apply pw_below_drewN | apply below_drew1) | exact HB.out))) : w.heap.size ≤ gb385)); have n3_ := Aside0.mk ((by rw [hg]; exact (below_size (by repeat (first | (with_reducible first | exact HB.out | apply below_alloc | apply pw_below_drewN | apply below_drew1) | exact HB.out))) : w.heap.size ≤ gb385)); clear HB; have HB := n0_; have BK385 := n1_; have GW385 := n2_; have GE385 := n3_; clear n0_ n1_ n2_ n3_; clear hb hbox hg; have hcz10_0 : w9.cell? ⟨gb385, 0, none⟩ = some (.int .i64 a0_0) := (blk_cell BK385.out 0).trans rfl; have hcz10_1 : w9.cell? ⟨gb385, 1, none⟩ = some (.int .i64 a0_1) := (blk_cell BK385.out 1).trans rfl; have hcz10_2 : w9.cell? ⟨gb385, 2, none⟩ = some (.slice A0_2 l0_2.length c0_2) := (blk_cell BK385.out 2).trans rfl; have hfz10_0 := blk_frozen BK385.out 0; have hfz10_1 := blk_frozen BK385.out 1; have hfz10_2 := blk_frozen BK385.out 2))
      repeat (go_quiet (first | ((with_reducible refine gate_dst (N := 1) rfl ?_); (try (refine gate_guard (by rfl) ?_; dsimp only)); refine box_event ?hg (N := 1) ?hd (cs := #[.int .i64 a0_0, .int .i64 a0_1, .slice A0_2 l0_2.length c0_2]) (t := 29) ?hr ?_; (case hd => rfl); (case hg => rfl); (case hr => first | (go_simp; done) | (go_simp; rfl)); intro gb385 hg w9 hbox hb; have n0_ := Aside0.mk (below_step (by repeat (first | (with_reducible first | exact HB.out | apply below_alloc | apply pw_below_drewN | apply below_drew1) | exact HB.out)) hb); have n1_ := Aside0.mk (hbox); have n2_ := Aside0.mk ((by rw [hg]; exact (below_size (by repeat (first | (with_reducible first | exact HB.out | apply below_alloc | apply pw_below_drewN | apply below_drew1) | exact HB.out))) : w.heap.size ≤ gb385)); have n3_ := Aside0.mk ((by rw [hg]; exact (below_size (by repeat (first | (with_reducible first | exact HB.out | apply below_alloc | apply pw_below_drewN | apply below_drew1) | exact HB.out))) : w.heap.size ≤ gb385)); clear HB; have HB := n0_; have BK385 := n1_; have GW385 := n2_; have GE385 := n3_; clear n0_ n1_ n2_ n3_; clear hb hbox hg; have hcz10_0 : w9.cell? ⟨gb385, 0, none⟩ = some (.int .i64 a0_0) := (blk_cell BK385.out 0).trans rfl; have hcz10_1 : w9.cell? ⟨gb385, 1, none⟩ = some (.int .i64 a0_1) := (blk_cell BK385.out 1).trans rfl; have hcz10_2 : w9.cell? ⟨gb385, 2, none⟩ = some (.slice A0_2 l0_2.length c0_2) := (blk_cell BK385.out 2).trans rfl; have hfz10_0 := blk_frozen BK385.out 0; have hfz10_1 := blk_frozen BK385.out 1; have hfz10_2 := blk_frozen BK385.out 2)); try go_wp2_with (first | ((with_reducible refine gate_dst (N := 1) rfl ?_); (try (refine gate_guard (by rfl) ?_; dsimp only)); refine box_event ?hg (N := 1) ?hd (cs := #[.int .i64 a0_0, .int .i64 a0_1, .slice A0_2 l0_2.length c0_2]) (t := 29) ?hr ?_; (case hd => rfl); (case hg => rfl); (case hr => first | (go_simp; done) | (go_simp; rfl)); intro gb385 hg w9 hbox hb; have n0_ := Aside0.mk (below_step (by repeat (first | (with_reducible first | exact HB.out | apply below_alloc | apply pw_below_drewN | apply below_drew1) | exact HB.out)) hb); have n1_ := Aside0.mk (hbox); have n2_ := Aside0.mk ((by rw [hg]; exact (below_size (by repeat (first | (with_reducible first | exact HB.out | apply below_alloc | apply pw_below_drewN | apply below_drew1) | exact HB.out))) : w.heap.size ≤ gb385)); have n3_ := Aside0.mk ((by rw [hg]; exact (below_size (by repeat (first | (with_reducible first | exact HB.out | apply below_alloc | apply pw_below_drewN | apply below_drew1) | exact HB.out))) : w.heap.size ≤ gb385)); clear HB; have HB := n0_; have BK385 := n1_; have GW385 := n2_; have GE385 := n3_; clear n0_ n1_ n2_ n3_; clear hb hbox hg; have hcz10_0 : w9.cell? ⟨gb385, 0, none⟩ = some (.int .i64 a0_0) := (blk_cell BK385.out 0).trans rfl; have hcz10_1 : w9.cell? ⟨gb385, 1, none⟩ = some (.int .i64 a0_1) := (blk_cell BK385.out 1).trans rfl; have hcz10_2 : w9.cell? ⟨gb385, 2, none⟩ = some (.slice A0_2 l0_2.length c0_2) := (blk_cell BK385.out 2).trans rfl; have hfz10_0 := blk_frozen BK385.out 0; have hfz10_1 := blk_frozen BK385.out 1; have hfz10_2 := blk_frozen BK385.out 2)))
      go_ret3
      exact ⟨by first | rfl | (simp [errW_none, errW_some] <;> rfl) | (simp [*, errW_none, errW_some] <;> rfl), by repeat (first | (with_reducible first | exact HB.out | apply below_alloc | apply pw_below_drewN | apply below_drew1 | refine below_set ?_ GE385.out) | exact HB.out)⟩
  · rw [if_neg c2] at H
    have c2b0 : (a0_0 == 3) = false := beq_eq_false_iff_ne.mpr c2
    have c2b1 : (a0_0 != 3) = true := bne_iff_ne.mpr c2
    simp only [Option.some.injEq, Prod.mk.injEq] at H
    obtain ⟨rfl, rfl, rfl⟩ := H
    go_enter Tryd.func31, Tryd.ntmps31
    go_wp2_with (first | ((with_reducible refine gate_dst (N := 1) rfl ?_); (try (refine gate_guard (by rfl) ?_; dsimp only)); refine box_event ?hg (N := 1) ?hd (cs := #[.int .i64 a0_0, .int .i64 a0_1, .slice A0_2 l0_2.length c0_2]) (t := 29) ?hr ?_; (case hd => rfl); (case hg => rfl); (case hr => first | (go_simp; done) | (go_simp; rfl)); intro gb385 hg w11 hbox hb; have n0_ := Aside0.mk (below_step (by repeat (first | (with_reducible first | exact HB.out | apply below_alloc | apply pw_below_drewN | apply below_drew1) | exact HB.out)) hb); have n1_ := Aside0.mk (hbox); have n2_ := Aside0.mk ((by rw [hg]; exact (below_size (by repeat (first | (with_reducible first | exact HB.out | apply below_alloc | apply pw_below_drewN | apply below_drew1) | exact HB.out))) : w.heap.size ≤ gb385)); have n3_ := Aside0.mk ((by rw [hg]; exact (below_size (by repeat (first | (with_reducible first | exact HB.out | apply below_alloc | apply pw_below_drewN | apply below_drew1) | exact HB.out))) : w.heap.size ≤ gb385)); clear HB; have HB := n0_; have BK385 := n1_; have GW385 := n2_; have GE385 := n3_; clear n0_ n1_ n2_ n3_; clear hb hbox hg; have hcz12_0 : w11.cell? ⟨gb385, 0, none⟩ = some (.int .i64 a0_0) := (blk_cell BK385.out 0).trans rfl; have hcz12_1 : w11.cell? ⟨gb385, 1, none⟩ = some (.int .i64 a0_1) := (blk_cell BK385.out 1).trans rfl; have hcz12_2 : w11.cell? ⟨gb385, 2, none⟩ = some (.slice A0_2 l0_2.length c0_2) := (blk_cell BK385.out 2).trans rfl; have hfz12_0 := blk_frozen BK385.out 0; have hfz12_1 := blk_frozen BK385.out 1; have hfz12_2 := blk_frozen BK385.out 2))
    repeat (go_quiet (first | ((with_reducible refine gate_dst (N := 1) rfl ?_); (try (refine gate_guard (by rfl) ?_; dsimp only)); refine box_event ?hg (N := 1) ?hd (cs := #[.int .i64 a0_0, .int .i64 a0_1, .slice A0_2 l0_2.length c0_2]) (t := 29) ?hr ?_; (case hd => rfl); (case hg => rfl); (case hr => first | (go_simp; done) | (go_simp; rfl)); intro gb385 hg w11 hbox hb; have n0_ := Aside0.mk (below_step (by repeat (first | (with_reducible first | exact HB.out | apply below_alloc | apply pw_below_drewN | apply below_drew1) | exact HB.out)) hb); have n1_ := Aside0.mk (hbox); have n2_ := Aside0.mk ((by rw [hg]; exact (below_size (by repeat (first | (with_reducible first | exact HB.out | apply below_alloc | apply pw_below_drewN | apply below_drew1) | exact HB.out))) : w.heap.size ≤ gb385)); have n3_ := Aside0.mk ((by rw [hg]; exact (below_size (by repeat (first | (with_reducible first | exact HB.out | apply below_alloc | apply pw_below_drewN | apply below_drew1) | exact HB.out))) : w.heap.size ≤ gb385)); clear HB; have HB := n0_; have BK385 := n1_; have GW385 := n2_; have GE385 := n3_; clear n0_ n1_ n2_ n3_; clear hb hbox hg; have hcz12_0 : w11.cell? ⟨gb385, 0, none⟩ = some (.int .i64 a0_0) := (blk_cell BK385.out 0).trans rfl; have hcz12_1 : w11.cell? ⟨gb385, 1, none⟩ = some (.int .i64 a0_1) := (blk_cell BK385.out 1).trans rfl; have hcz12_2 : w11.cell? ⟨gb385, 2, none⟩ = some (.slice A0_2 l0_2.length c0_2) := (blk_cell BK385.out 2).trans rfl; have hfz12_0 := blk_frozen BK385.out 0; have hfz12_1 := blk_frozen BK385.out 1; have hfz12_2 := blk_frozen BK385.out 2)); try go_wp2_with (first | ((with_reducible refine gate_dst (N := 1) rfl ?_); (try (refine gate_guard (by rfl) ?_; dsimp only)); refine box_event ?hg (N := 1) ?hd (cs := #[.int .i64 a0_0, .int .i64 a0_1, .slice A0_2 l0_2.length c0_2]) (t := 29) ?hr ?_; (case hd => rfl); (case hg => rfl); (case hr => first | (go_simp; done) | (go_simp; rfl)); intro gb385 hg w11 hbox hb; have n0_ := Aside0.mk (below_step (by repeat (first | (with_reducible first | exact HB.out | apply below_alloc | apply pw_below_drewN | apply below_drew1) | exact HB.out)) hb); have n1_ := Aside0.mk (hbox); have n2_ := Aside0.mk ((by rw [hg]; exact (below_size (by repeat (first | (with_reducible first | exact HB.out | apply below_alloc | apply pw_below_drewN | apply below_drew1) | exact HB.out))) : w.heap.size ≤ gb385)); have n3_ := Aside0.mk ((by rw [hg]; exact (below_size (by repeat (first | (with_reducible first | exact HB.out | apply below_alloc | apply pw_below_drewN | apply below_drew1) | exact HB.out))) : w.heap.size ≤ gb385)); clear HB; have HB := n0_; have BK385 := n1_; have GW385 := n2_; have GE385 := n3_; clear n0_ n1_ n2_ n3_; clear hb hbox hg; have hcz12_0 : w11.cell? ⟨gb385, 0, none⟩ = some (.int .i64 a0_0) := (blk_cell BK385.out 0).trans rfl; have hcz12_1 : w11.cell? ⟨gb385, 1, none⟩ = some (.int .i64 a0_1) := (blk_cell BK385.out 1).trans rfl; have hcz12_2 : w11.cell? ⟨gb385, 2, none⟩ = some (.slice A0_2 l0_2.length c0_2) := (blk_cell BK385.out 2).trans rfl; have hfz12_0 := blk_frozen BK385.out 0; have hfz12_1 := blk_frozen BK385.out 1; have hfz12_2 := blk_frozen BK385.out 2)))
    go_ret3
    exact ⟨by first | rfl | (simp [errW_none, errW_some] <;> rfl) | (simp [*, errW_none, errW_some] <;> rfl), by repeat (first | (with_reducible first | exact HB.out | apply below_alloc | apply pw_below_drewN | apply below_drew1 | refine below_set ?_ GE385.out) | exact HB.out)⟩

end Go.Proofs.YtfhnpphceeoeeaaDoor.PX
-- Written by a program of this session (wip/xprint.py, over the kit's print tool). Lean checks it.
namespace Go.Proofs.YtfhnpphceeoeeaaDoor.PX
open Go.RowKit Go.Proofs.YtfhnpphceeoeeaaDoorW.PrintWords Go.Proofs.YtfhnpphceeoeeaaDoorW.PrintLast Go.Proofs.YtfhnpphceeoeeaaDoorW.PrintMore
attribute [local go_sem] max2_int min2_int max_two min_two max_three min_three max_four min_four   -- for this text's walks alone
set_option linter.unusedVariables false
set_option linter.unusedSimpArgs false

/-! ### trickleref43_Chunked: function 33 -/
def trickleref43_Chunked.j0 : Nat → Bool → Int → Int → List Int → Option (Int × List Int × Bool)
  | 0, _, _, _, _ => none
  | k + 1, x25, x400000, x400001, x400002 => if x25 = true then (some (0, ([] : List Int), false)) else ((trickleref43_number.f x400002).bind fun t401 => ((some (([] : List Int) : List Int)).bind fun y402 => (if 4 ≤ (x400002.length : Int) then (if y402.length + (x400002.drop 4).length < 140737488355328 then (some (t401, (y402 ++ (x400002.drop 4)), true)) else (none)) else (none))))
def trickleref43_Chunked.f (k : Nat) (a0_0 : Int) (a0_1 : Int) (l0_2 : List Int) : Option (Int × List Int × Bool) := if a0_0 = 4 then (if (l0_2.length : Int) < 5 then (trickleref43_Chunked.j0 k true a0_0 a0_1 l0_2) else (if (l0_2.length : Int) > 40 then (trickleref43_Chunked.j0 k true a0_0 a0_1 l0_2) else ((trickleref43_number.f l0_2).bind fun t400 => (trickleref43_Chunked.j0 k (decide (t400 > 2147483647)) a0_0 a0_1 l0_2)))) else (trickleref43_Chunked.j0 k true a0_0 a0_1 l0_2)
def trickleref43_Chunked.T3 : Bool × List (List Nat × List Nat) := (true, [([], []), ([0], [0]), ([1], [1]), ([], []), ([], []), ([4], [4]), ([5], [5]), ([3, 6, 2], [3, 6]), ([2, 7, 0, 1, 2], [2]), ([7, 8, 0, 1, 2, 3, 4, 5, 6, 7, 8], [7]), ([9, 0, 1, 2, 3, 4, 5, 6, 7, 8, 9], [])])
def trickleref43_Chunked.B3 : List Nat := [0, 1, 3, 0, 0, 16, 48, 127, 255, 511, 1023]
theorem trickleref43_Chunked.tab3 : rtab .any (opsOf Tryd.f33 3) = trickleref43_Chunked.T3 := by kernel_rfl
theorem trickleref43_Chunked.bits3 : waitsOk trickleref43_Chunked.T3.2 trickleref43_Chunked.B3 = true := by kernel_rfl
set_option maxHeartbeats 8000000 in
set_option maxRecDepth 100000 in
theorem trickleref43_Chunked.calls (k : Nat) (a0_0 : Int) (a0_1 : Int) (A0_2 : Option Addr) (c0_2 : Nat) (l0_2 : List Int) (r1 : Int) (r2 : List Int) (r3 : Bool) (w : World) (hr0_2 : Kd.C (Kd.int .u8) w A0_2 l0_2.length l0_2) (hc0_2 : l0_2.length ≤ c0_2) (h : trickleref43_Chunked.f k a0_0 a0_1 l0_2 = some (r1, r2, r3)) :
    Calls Tryd.prog 33 #[.agg #[.int .i64 a0_0, .int .i64 a0_1, .slice A0_2 l0_2.length c0_2]] w fun e w' => ∃ v1_ : Value, e = .returned (.tuple #[.int .i64 r1, v1_, .bool r3]) ∧ Kd.R (Kd.int .u8) 5 w' w.heap.size (fun _ => True) v1_ r2 ∧ Below w.heap.size w w' := by
  have hu29 := Tryd.underlying29
  have HR0_2 := Aside0.mk hr0_2
  have HC0_2 := Aside0.mk hc0_2
  clear hr0_2 hc0_2
  have HB := Aside0.mk (Below.refl w.heap.size w)
  have H : (if a0_0 = 4 then (if (l0_2.length : Int) < 5 then (trickleref43_Chunked.j0 k true a0_0 a0_1 l0_2) else (if (l0_2.length : Int) > 40 then (trickleref43_Chunked.j0 k true a0_0 a0_1 l0_2) else ((trickleref43_number.f l0_2).bind fun t400 => (trickleref43_Chunked.j0 k (decide (t400 > 2147483647)) a0_0 a0_1 l0_2)))) else (trickleref43_Chunked.j0 k true a0_0 a0_1 l0_2)) = some (r1, r2, r3) := h
  clear h
  have HC2 := Aside0.mk H
  clear H
  go_enter Tryd.func33, Tryd.ntmps33
  go_upto_region 1 with (first | ((with_reducible refine gate_dst (N := 1) rfl ?_); (try (refine gate_guard (by rfl) ?_; dsimp only)); refine box_event ?hg (N := 1) ?hd (cs := #[.int .i64 a0_0, .int .i64 a0_1, .slice A0_2 l0_2.length c0_2]) (t := 29) ?hr ?_; (case hd => rfl); (case hg => rfl); (case hr => first | (go_simp; done) | (go_simp; rfl)); intro gb399 hg w3 hbox hb; have n0_ := Aside0.mk (below_step (by repeat (first | (with_reducible first | exact HB.out | apply below_alloc | apply pw_below_drewN | apply below_drew1) | exact HB.out)) hb); have n1_ := Aside0.mk (hbox); have n2_ := Aside0.mk ((by rw [hg]; exact (below_size (by repeat (first | (with_reducible first | exact HB.out | apply below_alloc | apply pw_below_drewN | apply below_drew1) | exact HB.out))) : w.heap.size ≤ gb399)); have n3_ := Aside0.mk ((by rw [hg]; exact (below_size (by repeat (first | (with_reducible first | exact HB.out | apply below_alloc | apply pw_below_drewN | apply below_drew1) | exact HB.out))) : w.heap.size ≤ gb399)); clear HB; have HB := n0_; have BK399 := n1_; have GW399 := n2_; have GE399 := n3_; clear n0_ n1_ n2_ n3_; clear hb hbox hg))
  (try simp only [Act.put, List.setIfInBounds_toArray, List.set_cons_zero, List.set_cons_succ])
  go_cut [25] (fun v25 wc => ∃ (kq : Nat) (x25_1 : Bool), v25 = .bool x25_1 ∧ Aside0 (trickleref43_Chunked.j0 kq x25_1 a0_0 a0_1 l0_2 = some (r1, r2, r3)) ∧ Aside0 (kq ≤ k) ∧ Aside0 (wc.heap[gb399]? = some (.cells #[.int .i64 a0_0, .int .i64 a0_1, (.slice A0_2 l0_2.length c0_2)] 29 (0, 0))) ∧ Aside0 (Below w.heap.size w wc))
  case first =>
    have H := HC2.out
    clear HC2
    by_cases c4 : a0_0 = 4
    · rw [if_pos c4] at H
      have c4b0 : (a0_0 == 4) = true := beq_iff_eq.mpr c4
      have c4b1 : (a0_0 != 4) = false := bne_eq_false_iff_eq.mpr c4
      clear c4
      (first | rw [c4b0] | (simp only [i64_w, i32_w]; rw [c4b0]) | skip)
      by_cases c5 : (l0_2.length : Int) < 5
      · rw [if_pos c5] at H
        have c5b0 : decide ((l0_2.length : Int) < 5) = true := decide_eq_true c5
        have c5b1 : decide (l0_2.length < 5) = true := decide_eq_true (by omega)
        clear c5
        have H' := Aside0.mk H
        clear H
        have hcz6_0 : w3.cell? ⟨gb399, 0, none⟩ = some (.int .i64 a0_0) := (blk_cell BK399.out 0).trans rfl
        have hcz6_1 : w3.cell? ⟨gb399, 1, none⟩ = some (.int .i64 a0_1) := (blk_cell BK399.out 1).trans rfl
        have hcz6_2 : w3.cell? ⟨gb399, 2, none⟩ = some (.slice A0_2 l0_2.length c0_2) := (blk_cell BK399.out 2).trans rfl
        have hfz6_0 := blk_frozen BK399.out 0
        have hfz6_1 := blk_frozen BK399.out 1
        have hfz6_2 := blk_frozen BK399.out 2
        go_wp2
        go_meet
        case rel => exact ⟨_, (true), (by first | rfl | (simp; done) | (simp [*]; done)), H', ⟨by first | omega | exact Nat.le_refl _⟩, ⟨by (with_reducible repeat (first | refine blk_drewN ?_ _ | refine blk_drew ?_ | refine blk_alloc ?_ _)); exact BK399.out⟩, ⟨by repeat (first | (with_reducible first | exact HB.out | apply below_alloc | apply pw_below_drewN | apply below_drew1 | refine below_set ?_ GE399.out) | exact HB.out)⟩⟩
      · rw [if_neg c5] at H
        have c5b0 : decide ((l0_2.length : Int) < 5) = false := decide_eq_false c5
        have c5b1 : decide (l0_2.length < 5) = false := decide_eq_false (by omega)
        clear c5
        by_cases c7 : (l0_2.length : Int) > 40
        · rw [if_pos c7] at H
          have c7b0 : decide (40 < (l0_2.length : Int)) = true := decide_eq_true c7
          have c7b1 : decide (40 < l0_2.length) = true := decide_eq_true (by omega)
          clear c7
          have H' := Aside0.mk H
          clear H
          have hcz8_0 : w3.cell? ⟨gb399, 0, none⟩ = some (.int .i64 a0_0) := (blk_cell BK399.out 0).trans rfl
          have hcz8_1 : w3.cell? ⟨gb399, 1, none⟩ = some (.int .i64 a0_1) := (blk_cell BK399.out 1).trans rfl
          have hcz8_2 : w3.cell? ⟨gb399, 2, none⟩ = some (.slice A0_2 l0_2.length c0_2) := (blk_cell BK399.out 2).trans rfl
          have hfz8_0 := blk_frozen BK399.out 0
          have hfz8_1 := blk_frozen BK399.out 1
          have hfz8_2 := blk_frozen BK399.out 2
          go_wp2
          go_meet
          case rel => exact ⟨_, (true), (by first | rfl | (simp; done) | (simp [*]; done)), H', ⟨by first | omega | exact Nat.le_refl _⟩, ⟨by (with_reducible repeat (first | refine blk_drewN ?_ _ | refine blk_drew ?_ | refine blk_alloc ?_ _)); exact BK399.out⟩, ⟨by repeat (first | (with_reducible first | exact HB.out | apply below_alloc | apply pw_below_drewN | apply below_drew1 | refine below_set ?_ GE399.out) | exact HB.out)⟩⟩
        · rw [if_neg c7] at H
          have c7b0 : decide (40 < (l0_2.length : Int)) = false := decide_eq_false c7
          have c7b1 : decide (40 < l0_2.length) = false := decide_eq_false (by omega)
          clear c7
          replace H := Option.bind_eq_some_iff.mp H
          obtain ⟨t400, A90, H⟩ := H
          replace H : (trickleref43_Chunked.j0 k (decide (t400 > 2147483647)) a0_0 a0_1 l0_2) = some (r1, r2, r3) := H
          have A9 := Aside0.mk A90
          clear A90
          have H' := Aside0.mk H
          clear H
          have hcz10_0 : w3.cell? ⟨gb399, 0, none⟩ = some (.int .i64 a0_0) := (blk_cell BK399.out 0).trans rfl
          have hcz10_1 : w3.cell? ⟨gb399, 1, none⟩ = some (.int .i64 a0_1) := (blk_cell BK399.out 1).trans rfl
          have hcz10_2 : w3.cell? ⟨gb399, 2, none⟩ = some (.slice A0_2 l0_2.length c0_2) := (blk_cell BK399.out 2).trans rfl
          have hfz10_0 := blk_frozen BK399.out 0
          have hfz10_1 := blk_frozen BK399.out 1
          have hfz10_2 := blk_frozen BK399.out 2
          go_wp2_with (first | (go_at_call 54; (with_reducible refine (trickleref43_number.calls _ _ l0_2 t400 _ ?side1 ?side2 A9.out).mono ?_); (case side1 => repeat (first | exact (Kd.C_below HR0_2.out HB.out) | (with_reducible refine Kd.C_alloc ?_ _) | (with_reducible refine Kd.C_drewN ?_ _) | (with_reducible refine Kd.C_drew ?_))); (case side2 => exact HC0_2.out); rintro e w' ⟨rfl, ⟨nd, rfl⟩⟩))
          go_meet
          case rel => exact ⟨_, (decide (t400 > 2147483647)), (by first | rfl | (simp; done) | (simp [*]; done)), H', ⟨by first | omega | exact Nat.le_refl _⟩, ⟨by (with_reducible repeat (first | refine blk_drewN ?_ _ | refine blk_drew ?_ | refine blk_alloc ?_ _)); exact BK399.out⟩, ⟨by repeat (first | (with_reducible first | exact HB.out | apply below_alloc | apply pw_below_drewN | apply below_drew1 | refine below_set ?_ GE399.out) | exact HB.out)⟩⟩
    · rw [if_neg c4] at H
      have c4b0 : (a0_0 == 4) = false := beq_eq_false_iff_ne.mpr c4
      have c4b1 : (a0_0 != 4) = true := bne_iff_ne.mpr c4
      (first | rw [c4b0] | (simp only [i64_w, i32_w]; rw [c4b0]) | skip)
      have H' := Aside0.mk H
      clear H
      have hcz11_0 : w3.cell? ⟨gb399, 0, none⟩ = some (.int .i64 a0_0) := (blk_cell BK399.out 0).trans rfl
      have hcz11_1 : w3.cell? ⟨gb399, 1, none⟩ = some (.int .i64 a0_1) := (blk_cell BK399.out 1).trans rfl
      have hcz11_2 : w3.cell? ⟨gb399, 2, none⟩ = some (.slice A0_2 l0_2.length c0_2) := (blk_cell BK399.out 2).trans rfl
      have hfz11_0 := blk_frozen BK399.out 0
      have hfz11_1 := blk_frozen BK399.out 1
      have hfz11_2 := blk_frozen BK399.out 2
      go_wp2
      go_meet
      case rel => exact ⟨_, (true), (by first | rfl | (simp; done) | (simp [*]; done)), H', ⟨by first | omega | exact Nat.le_refl _⟩, ⟨by (with_reducible repeat (first | refine blk_drewN ?_ _ | refine blk_drew ?_ | refine blk_alloc ?_ _)); exact BK399.out⟩, ⟨by repeat (first | (with_reducible first | exact HB.out | apply below_alloc | apply pw_below_drewN | apply below_drew1 | refine below_set ?_ GE399.out) | exact HB.out)⟩⟩
  case rest =>
    clear HC2
    try clear p2
    try clear c3
    try clear c4
    try clear c4b0
    try clear c4b1
    try clear c5
    try clear c5b0
    try clear c5b1
    try clear c7
    try clear c7b0
    try clear c7b1
    try clear hcz10_0
    try clear hcz10_1
    try clear hcz10_2
    try clear hcz11_0
    try clear hcz11_1
    try clear hcz11_2
    try clear hcz6_0
    try clear hcz6_1
    try clear hcz6_2
    try clear hcz8_0
    try clear hcz8_1
    try clear hcz8_2
    try clear hfz10_0
    try clear hfz10_1
    try clear hfz10_2
    try clear hfz11_0
    try clear hfz11_1
    try clear hfz11_2
    try clear hfz6_0
    try clear hfz6_1
    try clear hfz6_2
    try clear hfz8_0
    try clear hfz8_1
    try clear hfz8_2
    obtain ⟨kq, x25_1, rfl, HA, HJ1, BK399, HB⟩ := hcut
    cases kq with
    | zero => exact absurd HA.out (by simp [trickleref43_Chunked.j0])
    | succ kj1 =>
      have H := HA.out
      clear HA
      simp only [trickleref43_Chunked.j0] at H
      by_cases c12 : x25_1 = true
      · subst c12
        have H1 : (some (0, ([] : List Int), false)) = some (r1, r2, r3) := by rw [if_pos rfl] at H; exact H
        clear H
        have H := H1
        clear H1
        simp only [Option.some.injEq, Prod.mk.injEq] at H
        obtain ⟨rfl, rfl, rfl⟩ := H
        go_wp2
        go_ret3
        exact ⟨_, by first | rfl | (simp [errW_none, errW_some] <;> rfl) | (simp [*, errW_none, errW_some] <;> rfl), by first | exact Kd.R_nil _ _ _ _ _ | exact Kd.N_nil _ _ _ _ _ | exact Kd.V_nil _ _ _ _ _ | exact Kd.Q_nil _ _ _ _ _ | exact Kd.S_nil _ _ _ _ _, by repeat (first | (with_reducible first | exact HB.out | apply below_alloc | apply pw_below_drewN | apply below_drew1 | refine below_set ?_ GE399.out) | exact HB.out)⟩
      · replace c12 := Bool.eq_false_iff.mpr c12
        subst c12
        have H1 : ((trickleref43_number.f l0_2).bind fun t401 => ((some (([] : List Int) : List Int)).bind fun y402 => (if 4 ≤ (l0_2.length : Int) then (if y402.length + (l0_2.drop 4).length < 140737488355328 then (some (t401, (y402 ++ (l0_2.drop 4)), true)) else (none)) else (none)))) = some (r1, r2, r3) := by rw [if_neg (show ¬ (false = true) by decide)] at H; exact H
        clear H
        have H := H1
        clear H1
        replace H := Option.bind_eq_some_iff.mp H
        obtain ⟨t401, A130, H⟩ := H
        replace H : ((some (([] : List Int) : List Int)).bind fun y402 => (if 4 ≤ (l0_2.length : Int) then (if y402.length + (l0_2.drop 4).length < 140737488355328 then (some (t401, (y402 ++ (l0_2.drop 4)), true)) else (none)) else (none))) = some (r1, r2, r3) := H
        have A13 := Aside0.mk A130
        clear A130
        obtain ⟨y402, hy402⟩ : ∃ y_ : List Int, y_ = (([] : List Int)) := ⟨_, rfl⟩
        replace H : (if 4 ≤ (l0_2.length : Int) then (if y402.length + (l0_2.drop 4).length < 140737488355328 then (some (t401, (y402 ++ (l0_2.drop 4)), true)) else (none)) else (none)) = some (r1, r2, r3) := by first | (rw [hy402]; with_reducible exact H) | (have H2_ := (Option.bind_some _ _).symm.trans H; rw [hy402]; with_reducible exact H2_) | (have H2_ := (Option.bind_some _ _).symm.trans H; with_reducible exact H2_) | with_reducible exact H | (rw [hy402]; exact H) | exact H
        have Ny402 := Aside0.mk hy402
        clear hy402
        by_cases c14 : 4 ≤ (l0_2.length : Int)
        · rw [if_pos c14] at H
          have c14b0 := eq_true c14
          have c14b1 : decide (4 ≤ (l0_2.length : Int)) = true := decide_eq_true c14
          clear c14
          by_cases c15 : y402.length + (l0_2.drop 4).length < 140737488355328
          · rw [if_pos c15] at H
            have LMc15 := Aside0.mk c15
            clear c15
            obtain ⟨y406, hy406⟩ : ∃ y_ : List Int, y_ = (y402 ++ (l0_2.drop 4)) := ⟨_, rfl⟩
            replace H : (some (t401, y406, true)) = some (r1, r2, r3) := by first | (rw [hy406]; with_reducible exact H) | (have H2_ := (Option.bind_some _ _).symm.trans H; rw [hy406]; with_reducible exact H2_) | (have H2_ := (Option.bind_some _ _).symm.trans H; with_reducible exact H2_) | with_reducible exact H | (rw [hy406]; exact H) | exact H
            have Ny406 := Aside0.mk hy406
            clear hy406
            simp only [Option.some.injEq, Prod.mk.injEq] at H
            obtain ⟨rfl, rfl, rfl⟩ := H
            try go_wp2
            have n0_ := Aside0.mk (blk_drew BK399.out)
            have n1_ := Aside0.mk (below_drew1 HB.out)
            clear BK399
            clear HB
            have BK399 := n0_
            have HB := n1_
            clear n0_ n1_
            obtain ⟨i017, hi017, _, hsz17, _⟩ := info_parts info5
            obtain ⟨A17, hcut17, hA17, hC17⟩ := print_drop_of (P := Tryd.prog) (Value.int .u8) 0 24 5 .i64 Tryd.underlying24 hi017 hsz17 A0_2 c0_2 l0_2 4 (by omega) (of_decide_eq_true (by first | (with_reducible assumption) | assumption)) HC0_2.out
            have HR405 := Aside0.mk (Kd.C_of_reads (h1 := fun _ => rfl) (hA17 _ (Kd.reads_of_C HR0_2.out)))
            have HC405 := Aside0.mk hC17
            clear hA17 hC17 hi017 hsz17
            refine start_ (n := 11) (S := fun w' => w'.cell? ⟨gb399, 0, none⟩ = some (.int .i64 a0_0) ∧ w'.cell? ⟨gb399, 1, none⟩ = some (.int .i64 a0_1) ∧ w'.cell? ⟨gb399, 2, none⟩ = some (.slice A0_2 l0_2.length c0_2)) (ds := []) #[false, false, false, false, false, false, false, false, false, false, false] (by kernel_rfl) rfl rfl ⟨(blk_cell BK399.out 0).trans rfl, (blk_cell BK399.out 1).trans rfl, (blk_cell BK399.out 2).trans rfl⟩ (fun hHeld => ?_); refine with_tabW trickleref43_Chunked.tab3 trickleref43_Chunked.bits3 (fun HT_ HW_ => ?_)
            generalize wc.drew = w16 at BK399 HB HR405 hHeld ⊢
            refine pure_ (i := 0) (N := some 26) (v := ?_) (a' := ?_) #[true, false, false, false, false, false, false, false, false, false, false] rfl rfl (any_of HT_.out (by kernel_rfl)) (fun _ _ _ h => h) (Or.inl ⟨by rfl, ?_⟩) ?_ ?_
            rotate_left
            · intro w'
              go_simp
              with_reducible rfl
            rotate_left
            · simp only [Act.put, List.setIfInBounds_toArray, List.set_cons_zero, List.set_cons_succ, i64_w, i32_w]
              rfl
            refine pure_ (i := 4) (N := some 30) (v := ?_) (a' := ?_) #[true, false, false, false, true, false, false, false, false, false, false] rfl rfl (any_of HT_.out (by kernel_rfl)) (fun _ _ _ h => h) (Or.inl ⟨by rfl, ?_⟩) ?_ ?_
            rotate_left
            · intro w'
              go_simp
              with_reducible rfl
            rotate_left
            · simp only [Act.put, List.setIfInBounds_toArray, List.set_cons_zero, List.set_cons_succ, i64_w, i32_w]
              rfl
            refine take_ (i := 1) (N := some 27) (v := ?_) (a' := ?_) #[true, true, false, false, true, false, false, false, false, false, false] rfl rfl (take_ofW HT_.out HW_.out (by kernel_rfl)) (fun _ _ _ h => h) (Or.inl ⟨by rfl, ?_⟩) hHeld ?_ ?_
            rotate_left
            · rintro w' ⟨s0, s1, s2⟩
              go_simp
              with_reducible rfl
            rotate_left
            · simp only [Act.put, List.setIfInBounds_toArray, List.set_cons_zero, List.set_cons_succ, i64_w, i32_w]
              rfl
            refine take_ (i := 5) (N := some 31) (v := ?_) (a' := ?_) #[true, true, false, false, true, true, false, false, false, false, false] rfl rfl (take_ofW HT_.out HW_.out (by kernel_rfl)) (fun _ _ _ h => h) (Or.inl ⟨by rfl, ?_⟩) hHeld ?_ ?_
            rotate_left
            · rintro w' ⟨s0, s1, s2⟩
              go_simp
              with_reducible rfl
            rotate_left
            · simp only [Act.put, List.setIfInBounds_toArray, List.set_cons_zero, List.set_cons_succ, i64_w, i32_w]
              rfl
            refine pure_ (i := 6) (N := some 32) (v := ?_) (a' := ?_) #[true, true, false, false, true, true, true, false, false, false, false] rfl rfl (any_of HT_.out (by kernel_rfl)) (fun _ _ _ h => h) (Or.inl ⟨by rfl, ?_⟩) ?_ ?_
            rotate_left
            · intro w'
              go_simp
              with_reducible rfl
            rotate_left
            · simp only [Act.put, List.setIfInBounds_toArray, List.set_cons_zero, List.set_cons_succ, i64_w, i32_w]
              rfl
            refine join_ (σ := Value) 4 #[true, true, true, true, true, true, true, false, false, false, false] (fun s_ => [(28, .int .i64 t401), (29, s_)]) (fun s_ w' => (w'.cell? ⟨gb399, 0, none⟩ = some (.int .i64 a0_0) ∧ w'.cell? ⟨gb399, 1, none⟩ = some (.int .i64 a0_1) ∧ w'.cell? ⟨gb399, 2, none⟩ = some (.slice A0_2 l0_2.length c0_2)) ∧ (Kd.R (Kd.int .u8) 5 w' w.heap.size (fun _ => True) s_ y402) ∧ (w'.heap[gb399]? = some (.cells #[.int .i64 a0_0, .int .i64 a0_1, .slice A0_2 l0_2.length c0_2] 29 (0, 0))) ∧ (Below w.heap.size w w')) ?_ ?_
            rotate_left
            · intro hCont
              refine two_ (i := 2) (j := 3) (Ni := some 28) (Nj := some 29) #[true, true, true, false, true, true, true, false, false, false, false] #[true, true, false, true, true, true, true, false, false, false, false] rfl rfl rfl rfl (two_of HT_.out (by kernel_rfl)) (by decide) (by decide) (fun K hK => ?_) (fun K hK => ?_)
              · skip
                refine goes_ Tryd.func54 (by kernel_rfl) rfl #[.slice A0_2 l0_2.length c0_2] (by rfl) rfl rfl (by (try simp only [List.map_toArray, List.map_cons, List.map_nil]); first | done | rfl | (simp only [List.length_drop, List.length_take]; rfl)) ?_
                with_reducible refine (trickleref43_number.calls _ _ l0_2 t401 _ ?side1 ?side2 A13.out).mono ?_
                (case side1 => repeat (first | exact (Kd.C_below HR0_2.out HB.out) | (with_reducible refine Kd.C_alloc ?_ _) | (with_reducible refine Kd.C_drewN ?_ _) | (with_reducible refine Kd.C_drew ?_)))
                (case side2 => exact HC0_2.out)
                rintro e w' ⟨rfl, ⟨nd, rfl⟩⟩
                refine ⟨_, rfl, ?_⟩
                refine hK.out _ _ ⟨(blk_cell BK399.out 0).trans rfl, (blk_cell BK399.out 1).trans rfl, (blk_cell BK399.out 2).trans rfl⟩ (fun hHeld => ?_)
                clear hK K
                refine norm_ (a' := ?_) ?_ ?_
                rotate_left
                · show Act.put _ (some 28) _ = _
                  simp only [Act.put, List.setIfInBounds_toArray, List.set_cons_zero, List.set_cons_succ, i64_w, i32_w]
                  rfl
                refine one_ (i := 3) (N := some 29) #[true, true, true, true, true, true, true, false, false, false, false] rfl rfl (one_of HT_.out (by kernel_rfl)) (by decide) (fun K hK => ?_)
                refine Kd.R_lit_step (Kd.int .u8) _ 5 ?hg (N := 29) ?hd (xs := ([] : List Int)) (inner := []) (ok := fun _ => True) (okp := fun _ => True) ?hr ?hp (fun _ hk => hk) trivial (Below.refl _ _) (Nat.le_refl _) (by simp) ?_; (case hd => rfl); (case hg => rfl); (case hr => first | (go_simp; done) | (go_simp; rfl)); (case hp => exact (Reps.none _ _))
                intro v403 w18 ho19 hb hg_ hnew_
                clear hg_ hnew_
                (first | rw [← Ny402.out] at ho19 | (simp only [Int.reduceToNat] at ho19; rw [← Ny402.out] at ho19))
                have n0_ := Aside0.mk (Kd.R_lower ho19 (below_size (by repeat (first | (with_reducible first | exact HB.out | apply below_alloc | apply pw_below_drewN | apply below_drew1 | refine below_set ?_ GE399.out) | exact HB.out))))
                have n1_ := Aside0.mk (blk_below (g := gb399) (o := .cells #[.int .i64 a0_0, .int .i64 a0_1, .slice A0_2 l0_2.length c0_2] 29 (0, 0)) (by (with_reducible repeat (first | refine blk_drewN ?_ _ | refine blk_drew ?_ | refine blk_alloc ?_ _)); exact BK399.out) hb)
                have n2_ := Aside0.mk (below_step (by repeat (first | (with_reducible first | exact HB.out | apply below_alloc | apply pw_below_drewN | apply below_drew1 | refine below_set ?_ GE399.out) | exact HB.out)) hb)
                clear BK399
                clear HB
                have HO404 := n0_
                have BK399 := n1_
                have HB := n2_
                clear n0_ n1_ n2_
                clear hb ho19
                refine hK.out _ _ ⟨(blk_cell BK399.out 0).trans rfl, (blk_cell BK399.out 1).trans rfl, (blk_cell BK399.out 2).trans rfl⟩ (fun hHeld => ?_)
                clear hK K
                refine norm_ (a' := ?_) ?_ ?_
                rotate_left
                · show Act.put _ (some 29) _ = _
                  simp only [Act.put, List.setIfInBounds_toArray, List.set_cons_zero, List.set_cons_succ, i64_w, i32_w]
                  rfl
                exact norm_ (by simp only [putAll, Act.put, List.setIfInBounds_toArray, List.set_cons_zero, List.set_cons_succ]) (hCont (v403) _ ⟨hHeld, (by (with_reducible repeat (first | apply Kd.R_alloc | apply Kd.R_drewN | apply Kd.R_drew)); exact HO404.out), (by (with_reducible repeat (first | refine blk_drewN ?_ _ | refine blk_drew ?_ | refine blk_alloc ?_ _)); exact BK399.out), (by repeat (first | (with_reducible first | exact HB.out | apply below_alloc | apply pw_below_drewN | apply below_drew1 | refine below_set ?_ GE399.out) | exact HB.out))⟩)
              · skip
                refine Kd.R_lit_step (Kd.int .u8) _ 5 ?hg (N := 29) ?hd (xs := ([] : List Int)) (inner := []) (ok := fun _ => True) (okp := fun _ => True) ?hr ?hp (fun _ hk => hk) trivial (Below.refl _ _) (Nat.le_refl _) (by simp) ?_; (case hd => rfl); (case hg => rfl); (case hr => first | (go_simp; done) | (go_simp; rfl)); (case hp => exact (Reps.none _ _))
                intro v403 w18 ho19 hb hg_ hnew_
                clear hg_ hnew_
                (first | rw [← Ny402.out] at ho19 | (simp only [Int.reduceToNat] at ho19; rw [← Ny402.out] at ho19))
                have n0_ := Aside0.mk (Kd.R_lower ho19 (below_size (by repeat (first | (with_reducible first | exact HB.out | apply below_alloc | apply pw_below_drewN | apply below_drew1 | refine below_set ?_ GE399.out) | exact HB.out))))
                have n1_ := Aside0.mk (blk_below (g := gb399) (o := .cells #[.int .i64 a0_0, .int .i64 a0_1, .slice A0_2 l0_2.length c0_2] 29 (0, 0)) (by (with_reducible repeat (first | refine blk_drewN ?_ _ | refine blk_drew ?_ | refine blk_alloc ?_ _)); exact BK399.out) hb)
                have n2_ := Aside0.mk (below_step (by repeat (first | (with_reducible first | exact HB.out | apply below_alloc | apply pw_below_drewN | apply below_drew1 | refine below_set ?_ GE399.out) | exact HB.out)) hb)
                clear BK399
                clear HB
                have HO404 := n0_
                have BK399 := n1_
                have HB := n2_
                clear n0_ n1_ n2_
                clear hb ho19
                refine hK.out _ _ ⟨(blk_cell BK399.out 0).trans rfl, (blk_cell BK399.out 1).trans rfl, (blk_cell BK399.out 2).trans rfl⟩ (fun hHeld => ?_)
                clear hK K
                refine norm_ (a' := ?_) ?_ ?_
                rotate_left
                · show Act.put _ (some 29) _ = _
                  simp only [Act.put, List.setIfInBounds_toArray, List.set_cons_zero, List.set_cons_succ, i64_w, i32_w]
                  rfl
                refine one_ (i := 2) (N := some 28) #[true, true, true, true, true, true, true, false, false, false, false] rfl rfl (one_of HT_.out (by kernel_rfl)) (by decide) (fun K hK => ?_)
                refine goes_ Tryd.func54 (by kernel_rfl) rfl #[.slice A0_2 l0_2.length c0_2] (by rfl) rfl rfl (by (try simp only [List.map_toArray, List.map_cons, List.map_nil]); first | done | rfl | (simp only [List.length_drop, List.length_take]; rfl)) ?_
                with_reducible refine (trickleref43_number.calls _ _ l0_2 t401 _ ?side1 ?side2 A13.out).mono ?_
                (case side1 => repeat (first | exact (Kd.C_below HR0_2.out HB.out) | (with_reducible refine Kd.C_alloc ?_ _) | (with_reducible refine Kd.C_drewN ?_ _) | (with_reducible refine Kd.C_drew ?_)))
                (case side2 => exact HC0_2.out)
                rintro e w' ⟨rfl, ⟨nd, rfl⟩⟩
                refine ⟨_, rfl, ?_⟩
                refine hK.out _ _ ⟨(blk_cell BK399.out 0).trans rfl, (blk_cell BK399.out 1).trans rfl, (blk_cell BK399.out 2).trans rfl⟩ (fun hHeld => ?_)
                clear hK K
                refine norm_ (a' := ?_) ?_ ?_
                rotate_left
                · show Act.put _ (some 28) _ = _
                  simp only [Act.put, List.setIfInBounds_toArray, List.set_cons_zero, List.set_cons_succ, i64_w, i32_w]
                  rfl
                exact norm_ (by simp only [putAll, Act.put, List.setIfInBounds_toArray, List.set_cons_zero, List.set_cons_succ]) (hCont (v403) _ ⟨hHeld, (by (with_reducible repeat (first | apply Kd.R_alloc | apply Kd.R_drewN | apply Kd.R_drew)); exact HO404.out), (by (with_reducible repeat (first | refine blk_drewN ?_ _ | refine blk_drew ?_ | refine blk_alloc ?_ _)); exact BK399.out), (by repeat (first | (with_reducible first | exact HB.out | apply below_alloc | apply pw_below_drewN | apply below_drew1 | refine below_set ?_ GE399.out) | exact HB.out))⟩)
            rintro v403 w20 ⟨hS_, h0_, h1_, h2_⟩
            have n0_ : Aside0 (Kd.R (Kd.int .u8) 5 w20 w.heap.size (fun _ => True) v403 y402) := ⟨h0_⟩
            have n1_ : Aside0 (w20.heap[gb399]? = some (.cells #[.int .i64 a0_0, .int .i64 a0_1, .slice A0_2 l0_2.length c0_2] 29 (0, 0))) := ⟨h1_⟩
            have n2_ : Aside0 (Below w.heap.size w w20) := ⟨h2_⟩
            clear BK399
            clear HB
            clear h0_ h1_ h2_
            have HO404 := n0_
            have BK399 := n1_
            have HB := n2_
            clear n0_ n1_ n2_
            have hHeld : w20.cell? ⟨gb399, 0, none⟩ = some (.int .i64 a0_0) ∧ w20.cell? ⟨gb399, 1, none⟩ = some (.int .i64 a0_1) ∧ w20.cell? ⟨gb399, 2, none⟩ = some (.slice A0_2 l0_2.length c0_2) := hS_
            refine norm_ (a' := ?_) ?_ ?_
            rotate_left
            · simp only [putAll, Act.put, List.setIfInBounds_toArray, List.set_cons_zero, List.set_cons_succ]
              rfl
            refine one_ (i := 7) (N := some 33) #[true, true, true, true, true, true, true, true, false, false, false] rfl rfl (one_of HT_.out (by kernel_rfl)) (by decide) (fun K hK => ?_)
            refine Kd.R_append_rows_step (Kd.int .u8) (w0 := w) w.heap.size (by rfl) (.tmp 29) (.tmp 32) 24 5 (.int .u8 0) 1 rfl Tryd.underlying24 info5 rfl (by decide) (by omega) v403 y402 (l0_2.drop 4) _ _ _ (fun _ => True) (fun _ => False) rfl rfl ?aO ?aR (fun _ _ h => h) (fun _ h => h.elim) ?aF ?aB ?aS ?aL ?_
            (case aR => first | (rw [← show (l0_2.drop 4).length = (l0_2.length - 4) from List.length_drop]; repeat (first | exact (Kd.C_below HR405.out HB.out) | (with_reducible refine Kd.C_alloc ?_ _) | (with_reducible refine Kd.C_drewN ?_ _) | (with_reducible refine Kd.C_drew ?_))) | (repeat (first | exact (Kd.C_below HR405.out HB.out) | (with_reducible refine Kd.C_alloc ?_ _) | (with_reducible refine Kd.C_drewN ?_ _) | (with_reducible refine Kd.C_drew ?_))))
            (case aB => exact (by repeat (first | (with_reducible first | exact HB.out | apply below_alloc | apply pw_below_drewN | apply below_drew1 | refine below_set ?_ GE399.out) | exact HB.out)))
            (case aF => exact (fun _ _ => trivial))
            (case aO => exact (by (with_reducible repeat (first | apply Kd.R_alloc | apply Kd.R_drewN | apply Kd.R_drew)); exact HO404.out))
            (case aS => exact (below_size (by repeat (first | (with_reducible first | exact HB.out | apply below_alloc | apply pw_below_drewN | apply below_drew1 | refine below_set ?_ GE399.out) | exact HB.out))))
            (case aL => have := LMc15.out; have hlx_ := (show (l0_2.drop 4).length = (l0_2.length - 4) from List.length_drop); omega)
            intro v407 w21 ho hb hg hat
            rw [← Ny406.out] at ho
            have n0_ := Aside0.mk (blk_grown (g := gb399) (o := .cells #[.int .i64 a0_0, .int .i64 a0_1, .slice A0_2 l0_2.length c0_2] 29 (0, 0)) (by (with_reducible repeat (first | refine blk_drewN ?_ _ | refine blk_drew ?_ | refine blk_alloc ?_ _)); exact BK399.out) hg (Kd.R_ne HO404.out BK399.out (by decide)))
            have n1_ := Aside0.mk (hb)
            have n2_ := Aside0.mk (ho)
            clear BK399
            clear HB
            clear HO404
            have BK399 := n0_
            have HB := n1_
            have HO408 := n2_
            clear n0_ n1_ n2_
            clear ho hb hg hat
            refine hK.out _ _ ⟨(blk_cell BK399.out 0).trans rfl, (blk_cell BK399.out 1).trans rfl, (blk_cell BK399.out 2).trans rfl⟩ (fun hHeld => ?_)
            clear hK K
            refine norm_ (a' := ?_) ?_ ?_
            rotate_left
            · show Act.put _ (some 33) _ = _
              simp only [Act.put, List.setIfInBounds_toArray, List.set_cons_zero, List.set_cons_succ, i64_w, i32_w]
              rfl
            refine pure_ (i := 8) (N := some 2) (v := ?_) (a' := ?_) #[true, true, true, true, true, true, true, true, true, false, false] rfl rfl (any_of HT_.out (by kernel_rfl)) (fun _ _ _ h => h) (Or.inl ⟨by rfl, ?_⟩) ?_ ?_
            rotate_left
            · intro w'
              go_simp
              with_reducible rfl
            rotate_left
            · simp only [Act.put, List.setIfInBounds_toArray, List.set_cons_zero, List.set_cons_succ, i64_w, i32_w]
              rfl
            refine pure_ (i := 9) (N := some 3) (v := ?_) (a' := ?_) #[true, true, true, true, true, true, true, true, true, true, false] rfl rfl (any_of HT_.out (by kernel_rfl)) (fun _ _ _ h => h) (Or.inl ⟨by rfl, ?_⟩) ?_ ?_
            rotate_left
            · intro w'
              go_simp
              with_reducible rfl
            rotate_left
            · simp only [Act.put, List.setIfInBounds_toArray, List.set_cons_zero, List.set_cons_succ, i64_w, i32_w]
              rfl
            refine pure_ (i := 10) (N := some 4) (v := ?_) (a' := ?_) #[true, true, true, true, true, true, true, true, true, true, true] rfl rfl (any_of HT_.out (by kernel_rfl)) (fun _ _ _ h => h) (Or.inl ⟨by rfl, ?_⟩) ?_ ?_
            rotate_left
            · intro w'
              go_simp
              with_reducible rfl
            rotate_left
            · simp only [Act.put, List.setIfInBounds_toArray, List.set_cons_zero, List.set_cons_succ, i64_w, i32_w]
              rfl
            refine done_ (done_of HT_.out (by kernel_rfl)) ?_
            try go_wp2
            go_ret3
            exact ⟨_, by first | rfl | (simp [errW_none, errW_some] <;> rfl) | (simp [*, errW_none, errW_some] <;> rfl), by (with_reducible repeat (first | apply Kd.R_alloc | apply Kd.R_drewN | apply Kd.R_drew)); exact HO408.out, by repeat (first | (with_reducible first | exact HB.out | apply below_alloc | apply pw_below_drewN | apply below_drew1 | refine below_set ?_ GE399.out) | exact HB.out)⟩
          · rw [if_neg c15] at H
            exact absurd H (by simp)
        · rw [if_neg c14] at H
          exact absurd H (by simp)

end Go.Proofs.YtfhnpphceeoeeaaDoor.PX
