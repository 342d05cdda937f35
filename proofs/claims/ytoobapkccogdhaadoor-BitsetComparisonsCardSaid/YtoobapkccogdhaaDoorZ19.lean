/- Parts of the proof, merged in build order: MComps, PureBitsetComparisons. -/
import Derived.Test.YtoobapkccogdhaaDoorZ1
import Derived.Test.YtoobapkccogdhaaDoorZ4
import Derived.Test.YtoobapkccogdhaaDoorZ2
import Derived.Test.YtoobapkccogdhaaDoorZ8
import Derived.Test.YtoobapkccogdhaaDoorZ9
-- Written by a program of this session (wip/xprint.py, over the kit's print tool). Lean checks it.
namespace Go.Proofs.YtoobapkccogdhaaDoor.PX
open Go.RowKit Go.Proofs.YtoobapkccogdhaaDoorW.PrintWords Go.Proofs.YtoobapkccogdhaaDoorW.PrintLast Go.Proofs.YtoobapkccogdhaaDoorW.PrintMore
attribute [local go_sem] max2_int min2_int max_two min_two max_three min_three max_four min_four   -- for this text's walks alone
set_option linter.unusedVariables false
set_option linter.unusedSimpArgs false

/-! ### tricklelaw04_BitsetComparisons: function 9 -/
def tricklelaw04_BitsetComparisons.j0 : Nat → List Int → List Int → Bool → Option (Bool)
  | 0, _, _, _ => none
  | k + 1, x0, x1, x18 => if x18 = true then (some true) else ((bitset_Of.f k x0).bind fun t413 => ((bitset_Of.f k x1).bind fun t416 => ((trickleref04_Of.f k x0).bind fun t421 => ((trickleref04_Of.f k x1).bind fun t424 => ((bitset_Set_Equal.f k t413 t416).bind fun t427 => ((trickleref04_Equal.f k t421 t424).bind fun t428 => (if (t427 == t428) = true then ((bitset_Set_Subset.f k t413 t416).bind fun t429 => ((trickleref04_Minus.f k t421 t424).bind fun t430 => (if (t429 == ((t430.length : Int) == 0)) = true then ((bitset_Set_Equal.f k t413 t413).bind fun t433 => (if t433 = true then ((bitset_Set_Subset.f k t413 t413).bind fun t434 => (if t434 = true then ((bitset_Set_Union.f k t413 t416).bind fun t435 => ((bitset_Set_Subset.f k t413 t435).bind fun t438 => (some t438))) else (some false))) else (some false))) else (some false)))) else (some false))))))))
def tricklelaw04_BitsetComparisons.f (k : Nat) (l0 : List Int) (l1 : List Int) : Option (Bool) := (tricklelaw04_awake.f k).bind fun t410 => (if t410 = true then ((trickleref04_Small.f l0).bind fun t411 => (if t411 = true then ((trickleref04_Small.f l1).bind fun t412 => (tricklelaw04_BitsetComparisons.j0 k l0 l1 (!t412))) else (tricklelaw04_BitsetComparisons.j0 k l0 l1 true))) else (some false))
def tricklelaw04_BitsetComparisons.T7 : Bool × List (List Nat × List Nat) := (true, [([], []), ([], []), ([0, 1], [0, 1]), ([], []), ([], []), ([3, 4, 2], [3, 4]), ([2, 5], [2, 5]), ([6, 5], [6]), ([7], [7]), ([7], [7]), ([8, 9, 7, 7], [7, 8, 9]), ([7], [7]), ([7], [7]), ([11, 12, 10, 7], [7, 11, 12]), ([13, 7], [7, 13]), ([14, 7], [7, 14]), ([10, 15, 7], [7, 10, 15]), ([7, 16], [7, 16]), ([17, 13], [17]), ([18], [18]), ([18], [18]), ([19, 20, 18, 18], [18, 19, 20]), ([18, 21], [18, 21]), ([22, 21], [22]), ([23], [23]), ([23], [23]), ([24, 25, 23, 23], [23, 24, 25]), ([23, 26], [23, 26]), ([27, 26], [27]), ([28], [28]), ([28], [28]), ([28], [28]), ([30, 31, 28, 28], [28, 30, 31]), ([29, 32, 32, 28], [28, 29, 32]), ([28, 33], [28, 33]), ([34, 33, 0, 1, 2, 3, 4, 5, 6, 7, 8, 9, 10, 11, 12, 13, 14, 15, 16, 17, 18, 19, 20, 21, 22, 23, 24, 25, 26, 27, 28, 29, 30, 31, 32, 33, 34], [34])])
def tricklelaw04_BitsetComparisons.B7 : List Nat := [0, 0, 3, 0, 0, 31, 63, 127, 255, 255, 1023, 255, 255, 8191, 16383, 32767, 65535, 131071, 262143, 524287, 524287, 2097151, 4194303, 8388607, 16777215, 16777215, 67108863, 134217727, 268435455, 536870911, 536870911, 536870911, 3758096383, 8589934591, 17179869183, 34359738367]
theorem tricklelaw04_BitsetComparisons.tab7 : rtab .any (opsOf Tryd.f9 7) = tricklelaw04_BitsetComparisons.T7 := by kernel_rfl
theorem tricklelaw04_BitsetComparisons.bits7 : waitsOk tricklelaw04_BitsetComparisons.T7.2 tricklelaw04_BitsetComparisons.B7 = true := by kernel_rfl
set_option maxHeartbeats 8000000 in
set_option maxRecDepth 100000 in
theorem tricklelaw04_BitsetComparisons.calls (k : Nat) (A0 : Option Addr) (c0 : Nat) (l0 : List Int) (A1 : Option Addr) (c1 : Nat) (l1 : List Int) (r : Bool) (hrt : r = true) (w : World) (hr0 : Kd.C (Kd.int .i64) w A0 l0.length l0) (hc0 : l0.length ≤ c0) (hr1 : Kd.C (Kd.int .i64) w A1 l1.length l1) (hc1 : l1.length ≤ c1) (hG : GW w) (h : tricklelaw04_BitsetComparisons.f k l0 l1 = some r) :
    Calls Tryd.prog 9 #[.slice A0 l0.length c0, .slice A1 l1.length c1] w fun e w' => e = .returned (.bool r) ∧ Below w.heap.size w w' := by
  have HRT := Aside0.mk hrt
  clear hrt
  have hu27 := Tryd.underlying27
  have HG := Aside0.mk hG
  clear hG
  have HR0 := Aside0.mk hr0
  have HC0 := Aside0.mk hc0
  clear hr0 hc0
  have HR1 := Aside0.mk hr1
  have HC1 := Aside0.mk hc1
  clear hr1 hc1
  have HB := Aside0.mk (Below.refl w.heap.size w)
  have H : ((tricklelaw04_awake.f k).bind fun t410 => (if t410 = true then ((trickleref04_Small.f l0).bind fun t411 => (if t411 = true then ((trickleref04_Small.f l1).bind fun t412 => (tricklelaw04_BitsetComparisons.j0 k l0 l1 (!t412))) else (tricklelaw04_BitsetComparisons.j0 k l0 l1 true))) else (some false))) = some r := h
  clear h
  replace H := Option.bind_eq_some_iff.mp H
  obtain ⟨t410, A30, H⟩ := H
  replace H : (if t410 = true then ((trickleref04_Small.f l0).bind fun t411 => (if t411 = true then ((trickleref04_Small.f l1).bind fun t412 => (tricklelaw04_BitsetComparisons.j0 k l0 l1 (!t412))) else (tricklelaw04_BitsetComparisons.j0 k l0 l1 true))) else (some false)) = some r := H
  have A3 := Aside0.mk A30
  clear A30
  by_cases c4 : t410 = true
  · subst c4
    have H1 : ((trickleref04_Small.f l0).bind fun t411 => (if t411 = true then ((trickleref04_Small.f l1).bind fun t412 => (tricklelaw04_BitsetComparisons.j0 k l0 l1 (!t412))) else (tricklelaw04_BitsetComparisons.j0 k l0 l1 true))) = some r := by rw [if_pos rfl] at H; exact H
    clear H
    have H := H1
    clear H1
    have HC5 := Aside0.mk H
    clear H
    go_enter Tryd.func9, Tryd.ntmps9
    go_upto_region 3 with (first | ((with_reducible refine gate_callee (f := 11) rfl ?_); refine goesL_ (some 9) rfl rfl Tryd.func11 (by kernel_rfl) rfl #[] rfl (by (try simp only [List.map_toArray, List.map_cons, List.map_nil]); first | done | rfl | (simp only [List.length_drop, List.length_take]; rfl)) ?_; (with_reducible refine (tricklelaw04_awake.calls k  true _ ?side1 A3.out).mono ?_); (case side1 => refine GW.below HG.out ?_; repeat (first | (with_reducible first | exact HB.out | apply below_alloc | apply pw_below_drewN | apply below_drew1) | exact HB.out)); rintro e w6 ⟨rfl, hb⟩; refine ⟨_, rfl, ?_⟩; have n0_ := Aside0.mk (below_step (by repeat (first | (with_reducible first | exact HB.out | apply below_alloc | apply pw_below_drewN | apply below_drew1) | exact HB.out)) hb); clear HB; have HB := n0_; clear n0_; (try clear hb); (try clear hb2); (try clear hk); (try clear hi)))
    (try simp only [Act.put, List.setIfInBounds_toArray, List.set_cons_zero, List.set_cons_succ])
    go_cut [18] (fun v18 wc => ∃ (kq : Nat) (x18_4 : Bool), v18 = .bool x18_4 ∧ Aside0 (tricklelaw04_BitsetComparisons.j0 kq l0 l1 x18_4 = some r) ∧ Aside0 (kq ≤ k) ∧ Aside0 (Below w.heap.size w wc))
    case first =>
      have H := HC5.out
      clear HC5
      replace H := Option.bind_eq_some_iff.mp H
      obtain ⟨t411, A70, H⟩ := H
      replace H : (if t411 = true then ((trickleref04_Small.f l1).bind fun t412 => (tricklelaw04_BitsetComparisons.j0 k l0 l1 (!t412))) else (tricklelaw04_BitsetComparisons.j0 k l0 l1 true)) = some r := H
      have A7 := Aside0.mk A70
      clear A70
      by_cases c8 : t411 = true
      · subst c8
        have H1 : ((trickleref04_Small.f l1).bind fun t412 => (tricklelaw04_BitsetComparisons.j0 k l0 l1 (!t412))) = some r := by rw [if_pos rfl] at H; exact H
        clear H
        have H := H1
        clear H1
        replace H := Option.bind_eq_some_iff.mp H
        obtain ⟨t412, A90, H⟩ := H
        replace H : (tricklelaw04_BitsetComparisons.j0 k l0 l1 (!t412)) = some r := H
        have A9 := Aside0.mk A90
        clear A90
        have H' := Aside0.mk H
        clear H
        go_wp2_with (first | ((with_reducible refine gate_callee (f := 12) rfl ?_); refine goesL_ (some 12) rfl rfl Tryd.func12 (by kernel_rfl) rfl #[.slice A0 l0.length c0] rfl (by (try simp only [List.map_toArray, List.map_cons, List.map_nil]); first | done | rfl | (simp only [List.length_drop, List.length_take]; rfl)) ?_; (with_reducible refine (trickleref04_Small.calls _ _ l0 true _ ?side1 ?side2 A7.out).mono ?_); (case side1 => repeat (first | exact (Kd.C_below HR0.out HB.out) | (with_reducible refine Kd.C_alloc ?_ _) | (with_reducible refine Kd.C_drewN ?_ _) | (with_reducible refine Kd.C_drew ?_))); (case side2 => exact HC0.out); rintro e w' ⟨rfl, ⟨nd, rfl⟩⟩; refine ⟨_, rfl, ?_⟩) | (go_at_call 12; (with_reducible refine (trickleref04_Small.calls _ _ l1 t412 _ ?side1 ?side2 A9.out).mono ?_); (case side1 => repeat (first | exact (Kd.C_below HR1.out (by repeat (first | (with_reducible first | exact HB.out | apply below_alloc | apply pw_below_drewN | apply below_drew1) | exact HB.out))) | (with_reducible refine Kd.C_alloc ?_ _) | (with_reducible refine Kd.C_drewN ?_ _) | (with_reducible refine Kd.C_drew ?_))); (case side2 => exact HC1.out); rintro e w' ⟨rfl, ⟨nd, rfl⟩⟩))
        go_meet
        case rel => exact ⟨_, (!t412), (by first | rfl | (simp; done) | (simp [*]; done)), H', ⟨by first | omega | exact Nat.le_refl _⟩, ⟨by repeat (first | (with_reducible first | exact HB.out | apply below_alloc | apply pw_below_drewN | apply below_drew1) | exact HB.out)⟩⟩
      · replace c8 := Bool.eq_false_iff.mpr c8
        subst c8
        have H1 : (tricklelaw04_BitsetComparisons.j0 k l0 l1 true) = some r := by rw [if_neg (show ¬ (false = true) by decide)] at H; exact H
        clear H
        have H := H1
        clear H1
        have H' := Aside0.mk H
        clear H
        go_wp2_with (first | ((with_reducible refine gate_callee (f := 12) rfl ?_); refine goesL_ (some 12) rfl rfl Tryd.func12 (by kernel_rfl) rfl #[.slice A0 l0.length c0] rfl (by (try simp only [List.map_toArray, List.map_cons, List.map_nil]); first | done | rfl | (simp only [List.length_drop, List.length_take]; rfl)) ?_; (with_reducible refine (trickleref04_Small.calls _ _ l0 false _ ?side1 ?side2 A7.out).mono ?_); (case side1 => repeat (first | exact (Kd.C_below HR0.out HB.out) | (with_reducible refine Kd.C_alloc ?_ _) | (with_reducible refine Kd.C_drewN ?_ _) | (with_reducible refine Kd.C_drew ?_))); (case side2 => exact HC0.out); rintro e w' ⟨rfl, ⟨nd, rfl⟩⟩; refine ⟨_, rfl, ?_⟩))
        go_meet
        case rel => exact ⟨_, (true), (by first | rfl | (simp; done) | (simp [*]; done)), H', ⟨by first | omega | exact Nat.le_refl _⟩, ⟨by repeat (first | (with_reducible first | exact HB.out | apply below_alloc | apply pw_below_drewN | apply below_drew1) | exact HB.out)⟩⟩
    case rest =>
      clear HC5
      try clear c1
      try clear p2
      try clear c4
      try clear c8
      try clear c9
      obtain ⟨kq, x18_4, rfl, HA, HJ4, HB⟩ := hcut
      cases kq with
      | zero => exact absurd HA.out (by simp [tricklelaw04_BitsetComparisons.j0])
      | succ kj4 =>
        have H := HA.out
        clear HA
        simp only [tricklelaw04_BitsetComparisons.j0] at H
        by_cases c10 : x18_4 = true
        · subst c10
          have H1 : (some true) = some r := by rw [if_pos rfl] at H; exact H
          clear H
          have H := H1
          clear H1
          obtain rfl := Option.some.inj H
          go_wp2
          go_ret
          exact ⟨by first | rfl | (simp [errW_none, errW_some] <;> rfl) | (simp [*, errW_none, errW_some] <;> rfl), by repeat (first | (with_reducible first | exact HB.out | apply below_alloc | apply pw_below_drewN | apply below_drew1) | exact HB.out)⟩
        · replace c10 := Bool.eq_false_iff.mpr c10
          subst c10
          have H1 : ((bitset_Of.f kj4 l0).bind fun t413 => ((bitset_Of.f kj4 l1).bind fun t416 => ((trickleref04_Of.f kj4 l0).bind fun t421 => ((trickleref04_Of.f kj4 l1).bind fun t424 => ((bitset_Set_Equal.f kj4 t413 t416).bind fun t427 => ((trickleref04_Equal.f kj4 t421 t424).bind fun t428 => (if (t427 == t428) = true then ((bitset_Set_Subset.f kj4 t413 t416).bind fun t429 => ((trickleref04_Minus.f kj4 t421 t424).bind fun t430 => (if (t429 == ((t430.length : Int) == 0)) = true then ((bitset_Set_Equal.f kj4 t413 t413).bind fun t433 => (if t433 = true then ((bitset_Set_Subset.f kj4 t413 t413).bind fun t434 => (if t434 = true then ((bitset_Set_Union.f kj4 t413 t416).bind fun t435 => ((bitset_Set_Subset.f kj4 t413 t435).bind fun t438 => (some t438))) else (some false))) else (some false))) else (some false)))) else (some false)))))))) = some r := by rw [if_neg (show ¬ (false = true) by decide)] at H; exact H
          clear H
          have H := H1
          clear H1
          replace H := Option.bind_eq_some_iff.mp H
          obtain ⟨t413, A110, H⟩ := H
          replace H : ((bitset_Of.f kj4 l1).bind fun t416 => ((trickleref04_Of.f kj4 l0).bind fun t421 => ((trickleref04_Of.f kj4 l1).bind fun t424 => ((bitset_Set_Equal.f kj4 t413 t416).bind fun t427 => ((trickleref04_Equal.f kj4 t421 t424).bind fun t428 => (if (t427 == t428) = true then ((bitset_Set_Subset.f kj4 t413 t416).bind fun t429 => ((trickleref04_Minus.f kj4 t421 t424).bind fun t430 => (if (t429 == ((t430.length : Int) == 0)) = true then ((bitset_Set_Equal.f kj4 t413 t413).bind fun t433 => (if t433 = true then ((bitset_Set_Subset.f kj4 t413 t413).bind fun t434 => (if t434 = true then ((bitset_Set_Union.f kj4 t413 t416).bind fun t435 => ((bitset_Set_Subset.f kj4 t413 t435).bind fun t438 => (some t438))) else (some false))) else (some false))) else (some false)))) else (some false))))))) = some r := H
          have A11 := Aside0.mk A110
          clear A110
          replace H := Option.bind_eq_some_iff.mp H
          obtain ⟨t416, A120, H⟩ := H
          replace H : ((trickleref04_Of.f kj4 l0).bind fun t421 => ((trickleref04_Of.f kj4 l1).bind fun t424 => ((bitset_Set_Equal.f kj4 t413 t416).bind fun t427 => ((trickleref04_Equal.f kj4 t421 t424).bind fun t428 => (if (t427 == t428) = true then ((bitset_Set_Subset.f kj4 t413 t416).bind fun t429 => ((trickleref04_Minus.f kj4 t421 t424).bind fun t430 => (if (t429 == ((t430.length : Int) == 0)) = true then ((bitset_Set_Equal.f kj4 t413 t413).bind fun t433 => (if t433 = true then ((bitset_Set_Subset.f kj4 t413 t413).bind fun t434 => (if t434 = true then ((bitset_Set_Union.f kj4 t413 t416).bind fun t435 => ((bitset_Set_Subset.f kj4 t413 t435).bind fun t438 => (some t438))) else (some false))) else (some false))) else (some false)))) else (some false)))))) = some r := H
          have A12 := Aside0.mk A120
          clear A120
          replace H := Option.bind_eq_some_iff.mp H
          obtain ⟨t421, A130, H⟩ := H
          replace H : ((trickleref04_Of.f kj4 l1).bind fun t424 => ((bitset_Set_Equal.f kj4 t413 t416).bind fun t427 => ((trickleref04_Equal.f kj4 t421 t424).bind fun t428 => (if (t427 == t428) = true then ((bitset_Set_Subset.f kj4 t413 t416).bind fun t429 => ((trickleref04_Minus.f kj4 t421 t424).bind fun t430 => (if (t429 == ((t430.length : Int) == 0)) = true then ((bitset_Set_Equal.f kj4 t413 t413).bind fun t433 => (if t433 = true then ((bitset_Set_Subset.f kj4 t413 t413).bind fun t434 => (if t434 = true then ((bitset_Set_Union.f kj4 t413 t416).bind fun t435 => ((bitset_Set_Subset.f kj4 t413 t435).bind fun t438 => (some t438))) else (some false))) else (some false))) else (some false)))) else (some false))))) = some r := H
          have A13 := Aside0.mk A130
          clear A130
          replace H := Option.bind_eq_some_iff.mp H
          obtain ⟨t424, A140, H⟩ := H
          replace H : ((bitset_Set_Equal.f kj4 t413 t416).bind fun t427 => ((trickleref04_Equal.f kj4 t421 t424).bind fun t428 => (if (t427 == t428) = true then ((bitset_Set_Subset.f kj4 t413 t416).bind fun t429 => ((trickleref04_Minus.f kj4 t421 t424).bind fun t430 => (if (t429 == ((t430.length : Int) == 0)) = true then ((bitset_Set_Equal.f kj4 t413 t413).bind fun t433 => (if t433 = true then ((bitset_Set_Subset.f kj4 t413 t413).bind fun t434 => (if t434 = true then ((bitset_Set_Union.f kj4 t413 t416).bind fun t435 => ((bitset_Set_Subset.f kj4 t413 t435).bind fun t438 => (some t438))) else (some false))) else (some false))) else (some false)))) else (some false)))) = some r := H
          have A14 := Aside0.mk A140
          clear A140
          replace H := Option.bind_eq_some_iff.mp H
          obtain ⟨t427, A150, H⟩ := H
          replace H : ((trickleref04_Equal.f kj4 t421 t424).bind fun t428 => (if (t427 == t428) = true then ((bitset_Set_Subset.f kj4 t413 t416).bind fun t429 => ((trickleref04_Minus.f kj4 t421 t424).bind fun t430 => (if (t429 == ((t430.length : Int) == 0)) = true then ((bitset_Set_Equal.f kj4 t413 t413).bind fun t433 => (if t433 = true then ((bitset_Set_Subset.f kj4 t413 t413).bind fun t434 => (if t434 = true then ((bitset_Set_Union.f kj4 t413 t416).bind fun t435 => ((bitset_Set_Subset.f kj4 t413 t435).bind fun t438 => (some t438))) else (some false))) else (some false))) else (some false)))) else (some false))) = some r := H
          have A15 := Aside0.mk A150
          clear A150
          replace H := Option.bind_eq_some_iff.mp H
          obtain ⟨t428, A160, H⟩ := H
          replace H : (if (t427 == t428) = true then ((bitset_Set_Subset.f kj4 t413 t416).bind fun t429 => ((trickleref04_Minus.f kj4 t421 t424).bind fun t430 => (if (t429 == ((t430.length : Int) == 0)) = true then ((bitset_Set_Equal.f kj4 t413 t413).bind fun t433 => (if t433 = true then ((bitset_Set_Subset.f kj4 t413 t413).bind fun t434 => (if t434 = true then ((bitset_Set_Union.f kj4 t413 t416).bind fun t435 => ((bitset_Set_Subset.f kj4 t413 t435).bind fun t438 => (some t438))) else (some false))) else (some false))) else (some false)))) else (some false)) = some r := H
          have A16 := Aside0.mk A160
          clear A160
          by_cases c17 : (t427 == t428) = true
          · rw [if_pos c17] at H
            have c17b0 : (t427 == t428) = true := c17
            (try (have c17b1 : decide (t427 = t428) = true := by simpa using c17))
            (try (have c17b2 : (t427 == t428) = true := by simpa using c17))
            clear c17
            replace H := Option.bind_eq_some_iff.mp H
            obtain ⟨t429, A180, H⟩ := H
            replace H : ((trickleref04_Minus.f kj4 t421 t424).bind fun t430 => (if (t429 == ((t430.length : Int) == 0)) = true then ((bitset_Set_Equal.f kj4 t413 t413).bind fun t433 => (if t433 = true then ((bitset_Set_Subset.f kj4 t413 t413).bind fun t434 => (if t434 = true then ((bitset_Set_Union.f kj4 t413 t416).bind fun t435 => ((bitset_Set_Subset.f kj4 t413 t435).bind fun t438 => (some t438))) else (some false))) else (some false))) else (some false))) = some r := H
            have A18 := Aside0.mk A180
            clear A180
            replace H := Option.bind_eq_some_iff.mp H
            obtain ⟨t430, A190, H⟩ := H
            replace H : (if (t429 == ((t430.length : Int) == 0)) = true then ((bitset_Set_Equal.f kj4 t413 t413).bind fun t433 => (if t433 = true then ((bitset_Set_Subset.f kj4 t413 t413).bind fun t434 => (if t434 = true then ((bitset_Set_Union.f kj4 t413 t416).bind fun t435 => ((bitset_Set_Subset.f kj4 t413 t435).bind fun t438 => (some t438))) else (some false))) else (some false))) else (some false)) = some r := H
            have A19 := Aside0.mk A190
            clear A190
            by_cases c20 : (t429 == ((t430.length : Int) == 0)) = true
            · rw [if_pos c20] at H
              have c20b0 : (t429 == ((t430.length : Int) == 0)) = true := c20
              (try (have c20b1 : decide (t429 = ((t430.length : Int) == 0)) = true := by simpa using c20))
              (try (have c20b2 : (t429 == ((t430.length : Int) == 0)) = true := by simpa using c20))
              clear c20
              replace H := Option.bind_eq_some_iff.mp H
              obtain ⟨t433, A210, H⟩ := H
              replace H : (if t433 = true then ((bitset_Set_Subset.f kj4 t413 t413).bind fun t434 => (if t434 = true then ((bitset_Set_Union.f kj4 t413 t416).bind fun t435 => ((bitset_Set_Subset.f kj4 t413 t435).bind fun t438 => (some t438))) else (some false))) else (some false)) = some r := H
              have A21 := Aside0.mk A210
              clear A210
              by_cases c22 : t433 = true
              · subst c22
                have H1 : ((bitset_Set_Subset.f kj4 t413 t413).bind fun t434 => (if t434 = true then ((bitset_Set_Union.f kj4 t413 t416).bind fun t435 => ((bitset_Set_Subset.f kj4 t413 t435).bind fun t438 => (some t438))) else (some false))) = some r := by rw [if_pos rfl] at H; exact H
                clear H
                have H := H1
                clear H1
                replace H := Option.bind_eq_some_iff.mp H
                obtain ⟨t434, A230, H⟩ := H
                replace H : (if t434 = true then ((bitset_Set_Union.f kj4 t413 t416).bind fun t435 => ((bitset_Set_Subset.f kj4 t413 t435).bind fun t438 => (some t438))) else (some false)) = some r := H
                have A23 := Aside0.mk A230
                clear A230
                by_cases c24 : t434 = true
                · subst c24
                  have H1 : ((bitset_Set_Union.f kj4 t413 t416).bind fun t435 => ((bitset_Set_Subset.f kj4 t413 t435).bind fun t438 => (some t438))) = some r := by rw [if_pos rfl] at H; exact H
                  clear H
                  have H := H1
                  clear H1
                  replace H := Option.bind_eq_some_iff.mp H
                  obtain ⟨t435, A250, H⟩ := H
                  replace H : ((bitset_Set_Subset.f kj4 t413 t435).bind fun t438 => (some t438)) = some r := H
                  have A25 := Aside0.mk A250
                  clear A250
                  replace H := Option.bind_eq_some_iff.mp H
                  obtain ⟨t438, A260, H⟩ := H
                  replace H : (some t438) = some r := H
                  have A26 := Aside0.mk A260
                  clear A260
                  obtain rfl := Option.some.inj H
                  try go_wp2_with (first | ((with_reducible refine gate_callee (f := 13) rfl ?_); refine goesL_ (some 20) rfl rfl Tryd.func13 (by kernel_rfl) rfl #[.slice A0 l0.length c0] rfl (by (try simp only [List.map_toArray, List.map_cons, List.map_nil]); first | done | rfl | (simp only [List.length_drop, List.length_take]; rfl)) ?_; (with_reducible refine (bitset_Of.calls kj4 _ _ l0 t413 _ ?side1 ?side2 A11.out).mono ?_); (case side1 => repeat (first | exact (Kd.C_below HR0.out HB.out) | (with_reducible refine Kd.C_alloc ?_ _) | (with_reducible refine Kd.C_drewN ?_ _) | (with_reducible refine Kd.C_drew ?_))); (case side2 => exact HC0.out); rintro e w27 ⟨v414, rfl, ho0, hb⟩; refine ⟨_, rfl, ?_⟩; have n0_ := Aside0.mk (Kd.V_lower (Kd.V_mono (ok' := fun k_ => True) ho0 (fun k_ hk_ => trivial)) (below_size (by repeat (first | (with_reducible first | exact HB.out | apply below_alloc | apply pw_below_drewN | apply below_drew1) | exact HB.out)))); have n1_ := Aside0.mk (below_step (by repeat (first | (with_reducible first | exact HB.out | apply below_alloc | apply pw_below_drewN | apply below_drew1) | exact HB.out)) hb); clear HB; have HO415 := n0_; have HB := n1_; clear n0_ n1_; (try clear hb); (try clear hb2); (try clear hk); (try clear hi); (try clear ho0)) | ((with_reducible refine gate_callee (f := 13) rfl ?_); refine goesL_ (some 22) rfl rfl Tryd.func13 (by kernel_rfl) rfl #[.slice A1 l1.length c1] rfl (by (try simp only [List.map_toArray, List.map_cons, List.map_nil]); first | done | rfl | (simp only [List.length_drop, List.length_take]; rfl)) ?_; (with_reducible refine (bitset_Of.calls kj4 _ _ l1 t416 _ ?side1 ?side2 A12.out).mono ?_); (case side1 => repeat (first | exact (Kd.C_below HR1.out HB.out) | (with_reducible refine Kd.C_alloc ?_ _) | (with_reducible refine Kd.C_drewN ?_ _) | (with_reducible refine Kd.C_drew ?_))); (case side2 => exact HC1.out); rintro e w28 ⟨v417, rfl, ho0, hb⟩; refine ⟨_, rfl, ?_⟩; have n0_ := Aside0.mk (Kd.V_below (by (with_reducible repeat (first | apply Kd.V_alloc | apply Kd.V_drewN | apply Kd.V_drew)); exact HO415.out) hb); have n1_ := Aside0.mk (Kd.V_lower (Kd.V_mono (ok' := fun k_ => True) ho0 (fun k_ hk_ => trivial)) (below_size (by repeat (first | (with_reducible first | exact HB.out | apply below_alloc | apply pw_below_drewN | apply below_drew1) | exact HB.out)))); have n2_ := Aside0.mk (below_step (by repeat (first | (with_reducible first | exact HB.out | apply below_alloc | apply pw_below_drewN | apply below_drew1) | exact HB.out)) hb); clear HO415; clear HB; have HO415 := n0_; have HO418 := n1_; have HB := n2_; clear n0_ n1_ n2_; (try clear hb); (try clear hb2); (try clear hk); (try clear hi); (try clear ho0)) | ((with_reducible refine gate_dst (N := 5) rfl ?_); (try (refine gate_guard (by rfl) ?_; dsimp only)); refine box_event ?hg (N := 5) ?hd (cs := #[.slice none 0 0]) (t := 27) ?hr ?_; (case hd => rfl); (case hg => rfl); (case hr => first | (go_simp; done) | (go_simp; rfl)); intro gb419 hg w29 hbox hb; have n0_ := Aside0.mk (Kd.V_below (Kd.V_elderB (by (with_reducible repeat (first | apply Kd.V_alloc | apply Kd.V_drewN | apply Kd.V_drew)); exact HO415.out) gb419 (Nat.le_of_eq hg.symm)) hb); have n1_ := Aside0.mk (Kd.V_below (Kd.V_elderB (by (with_reducible repeat (first | apply Kd.V_alloc | apply Kd.V_drewN | apply Kd.V_drew)); exact HO418.out) gb419 (Nat.le_of_eq hg.symm)) hb); have n2_ := Aside0.mk (below_step (by repeat (first | (with_reducible first | exact HB.out | apply below_alloc | apply pw_below_drewN | apply below_drew1) | exact HB.out)) hb); have n3_ := Aside0.mk (hbox); have n4_ := Aside0.mk ((by rw [hg]; exact (below_size (by repeat (first | (with_reducible first | exact HB.out | apply below_alloc | apply pw_below_drewN | apply below_drew1) | exact HB.out))) : w.heap.size ≤ gb419)); have n5_ := Aside0.mk ((by rw [hg]; exact (below_size (by repeat (first | (with_reducible first | exact HB.out | apply below_alloc | apply pw_below_drewN | apply below_drew1) | exact HB.out))) : w.heap.size ≤ gb419)); clear HO415; clear HO418; clear HB; have HO415 := n0_; have HO418 := n1_; have HB := n2_; have BK419 := n3_; have GW419 := n4_; have GE419 := n5_; clear n0_ n1_ n2_ n3_ n4_ n5_; clear hb hbox hg) | ((with_reducible refine gate_dst (N := 6) rfl ?_); (try (refine gate_guard (by rfl) ?_; dsimp only)); refine box_event ?hg (N := 6) ?hd (cs := #[.slice none 0 0]) (t := 27) ?hr ?_; (case hd => rfl); (case hg => rfl); (case hr => first | (go_simp; done) | (go_simp; rfl)); intro gb420 hg w30 hbox hb; have n0_ := Aside0.mk (Kd.V_below (Kd.V_elderB (by (with_reducible repeat (first | apply Kd.V_alloc | apply Kd.V_drewN | apply Kd.V_drew)); exact HO415.out) gb420 (Nat.le_of_eq hg.symm)) hb); have n1_ := Aside0.mk (Kd.V_below (Kd.V_elderB (by (with_reducible repeat (first | apply Kd.V_alloc | apply Kd.V_drewN | apply Kd.V_drew)); exact HO418.out) gb420 (Nat.le_of_eq hg.symm)) hb); have n2_ := Aside0.mk (blk_below (g := gb419) (o := .cells #[.slice none 0 0] 27 (0, 0)) (by (with_reducible repeat (first | refine blk_drewN ?_ _ | refine blk_drew ?_ | refine blk_alloc ?_ _)); exact BK419.out) hb); have n3_ := Aside0.mk (below_step (by repeat (first | (with_reducible first | exact HB.out | apply below_alloc | apply pw_below_drewN | apply below_drew1 | refine below_set ?_ GE419.out) | exact HB.out)) hb); have n4_ := Aside0.mk (hbox); have n5_ := Aside0.mk ((by rw [hg]; exact (below_size (by repeat (first | (with_reducible first | exact HB.out | apply below_alloc | apply pw_below_drewN | apply below_drew1 | refine below_set ?_ GE419.out) | exact HB.out))) : w.heap.size ≤ gb420)); have n6_ := Aside0.mk ((by rw [hg]; exact (below_size (by repeat (first | (with_reducible first | exact HB.out | apply below_alloc | apply pw_below_drewN | apply below_drew1 | refine below_set ?_ GE419.out) | exact HB.out))) : w.heap.size ≤ gb420)); have n7_ := Aside0.mk ((by rw [hg]; exact Nat.ne_of_lt (blk_lt (g := gb419) (o := .cells #[.slice none 0 0] 27 (0, 0)) (by (with_reducible repeat (first | refine blk_drewN ?_ _ | refine blk_drew ?_ | refine blk_alloc ?_ _)); exact BK419.out)) : gb419 ≠ gb420)); have n8_ := Aside0.mk ((by rw [hg]; exact Nat.ne_of_gt (blk_lt (g := gb419) (o := .cells #[.slice none 0 0] 27 (0, 0)) (by (with_reducible repeat (first | refine blk_drewN ?_ _ | refine blk_drew ?_ | refine blk_alloc ?_ _)); exact BK419.out)) : gb420 ≠ gb419)); clear HO415; clear HO418; clear BK419; clear HB; have HO415 := n0_; have HO418 := n1_; have BK419 := n2_; have HB := n3_; have BK420 := n4_; have GW420 := n5_; have GE420 := n6_; have NB419_420 := n7_; have NB420_419 := n8_; clear n0_ n1_ n2_ n3_ n4_ n5_ n6_ n7_ n8_; clear hb hbox hg; obtain ⟨Ao31, co31, eo31⟩ := Kd.V_slice HO415.out; subst eo31; have hnb32 := NB419_420.out; have hnc32 := NB420_419.out; have hcz33_0 : w30.cell? ⟨gb419, 0, none⟩ = some (.slice none 0 0) := (blk_cell BK419.out 0).trans rfl; have hfz33_0 := blk_frozen BK419.out 0; obtain ⟨Ao34, co34, eo34⟩ := Kd.V_slice HO418.out; subst eo34; have hcz35_0 : w30.cell? ⟨gb420, 0, none⟩ = some (.slice none 0 0) := (blk_cell BK420.out 0).trans rfl; have hfz35_0 := blk_frozen BK420.out 0) | ((with_reducible refine gate_callee (f := 14) rfl ?_); refine goesL_ (some 24) rfl rfl Tryd.func14 (by kernel_rfl) rfl #[.slice A0 l0.length c0] rfl (by (try simp only [List.map_toArray, List.map_cons, List.map_nil]); first | done | rfl | (simp only [List.length_drop, List.length_take]; rfl)) ?_; (with_reducible refine (trickleref04_Of.calls kj4 _ _ l0 t421 _ ?side1 ?side2 A13.out).mono ?_); (case side1 => exact Kd.C_below HR0.out (by repeat (first | (with_reducible first | exact HB.out | apply below_alloc | apply pw_below_drewN | apply below_drew1 | refine below_set ?_ GE419.out | refine below_set ?_ GE420.out) | exact HB.out))); (case side2 => exact HC0.out); rintro e w36 ⟨v422, rfl, ho0, hb⟩; refine ⟨_, rfl, ?_⟩; have n0_ := Aside0.mk (Kd.V_below (by (with_reducible repeat (first | apply Kd.V_alloc | apply Kd.V_drewN | apply Kd.V_drew)); exact (Kd.V_mono (Kd.V_mono (Kd.V_far (p := ⟨gb420, 0, none⟩) (Kd.V_far (p := ⟨gb419, 0, none⟩) (Kd.V_mono (Kd.V_mono HO415.out (fun k_ hk => (⟨hk, hk.1.2⟩ : _ ∧ k_ ≠ gb419))) (fun k_ hk => (⟨hk, hk.1.2⟩ : _ ∧ k_ ≠ gb420))) (fun _ hk => hk.1.2) (.slice Ao31 t413.length co31)) (fun _ hk => hk.2) (.slice Ao34 t416.length co34)) (fun _ h_ => h_.1)) (fun _ h_ => h_.1))) hb); have n1_ := Aside0.mk (Kd.V_below (by (with_reducible repeat (first | apply Kd.V_alloc | apply Kd.V_drewN | apply Kd.V_drew)); exact (Kd.V_mono (Kd.V_mono (Kd.V_far (p := ⟨gb420, 0, none⟩) (Kd.V_far (p := ⟨gb419, 0, none⟩) (Kd.V_mono (Kd.V_mono HO418.out (fun k_ hk => (⟨hk, hk.1.2⟩ : _ ∧ k_ ≠ gb419))) (fun k_ hk => (⟨hk, hk.1.2⟩ : _ ∧ k_ ≠ gb420))) (fun _ hk => hk.1.2) (.slice Ao31 t413.length co31)) (fun _ hk => hk.2) (.slice Ao34 t416.length co34)) (fun _ h_ => h_.1)) (fun _ h_ => h_.1))) hb); have n2_ := Aside0.mk (Kd.V_lower (Kd.V_mono (ok' := fun k_ => k_ ≠ gb419 ∧ k_ ≠ gb420) ho0 (fun k_ hk_ => ⟨(Kd.freshB (g := gb419) (o := .cells #[.slice Ao31 t413.length co31] 27 (0, 0)) (by (with_reducible repeat (first | refine blk_drewN ?_ _ | refine blk_drew ?_ | refine blk_alloc ?_ _)); refine blk_far ?_ NB419_420.out _; (with_reducible repeat (first | refine blk_drewN ?_ _ | refine blk_drew ?_ | refine blk_alloc ?_ _)); refine blk_put (cs := #[.slice none 0 0]) ?_ 0 _ rfl; (with_reducible repeat (first | refine blk_drewN ?_ _ | refine blk_drew ?_ | refine blk_alloc ?_ _)); exact BK419.out) k_ hk_), (Kd.freshB (g := gb420) (o := .cells #[.slice Ao34 t416.length co34] 27 (0, 0)) (by (with_reducible repeat (first | refine blk_drewN ?_ _ | refine blk_drew ?_ | refine blk_alloc ?_ _)); refine blk_put (cs := #[.slice none 0 0]) ?_ 0 _ rfl; (with_reducible repeat (first | refine blk_drewN ?_ _ | refine blk_drew ?_ | refine blk_alloc ?_ _)); refine blk_far ?_ NB420_419.out _; (with_reducible repeat (first | refine blk_drewN ?_ _ | refine blk_drew ?_ | refine blk_alloc ?_ _)); exact BK420.out) k_ hk_)⟩)) (below_size (by repeat (first | (with_reducible first | exact HB.out | apply below_alloc | apply pw_below_drewN | apply below_drew1 | refine below_set ?_ GE419.out | refine below_set ?_ GE420.out) | exact HB.out)))); have n3_ := Aside0.mk (blk_below (g := gb419) (o := .cells #[.slice Ao31 t413.length co31] 27 (0, 0)) (by (with_reducible repeat (first | refine blk_drewN ?_ _ | refine blk_drew ?_ | refine blk_alloc ?_ _)); refine blk_far ?_ NB419_420.out _; (with_reducible repeat (first | refine blk_drewN ?_ _ | refine blk_drew ?_ | refine blk_alloc ?_ _)); refine blk_put (cs := #[.slice none 0 0]) ?_ 0 _ rfl; (with_reducible repeat (first | refine blk_drewN ?_ _ | refine blk_drew ?_ | refine blk_alloc ?_ _)); exact BK419.out) hb); have n4_ := Aside0.mk (blk_below (g := gb420) (o := .cells #[.slice Ao34 t416.length co34] 27 (0, 0)) (by (with_reducible repeat (first | refine blk_drewN ?_ _ | refine blk_drew ?_ | refine blk_alloc ?_ _)); refine blk_put (cs := #[.slice none 0 0]) ?_ 0 _ rfl; (with_reducible repeat (first | refine blk_drewN ?_ _ | refine blk_drew ?_ | refine blk_alloc ?_ _)); refine blk_far ?_ NB420_419.out _; (with_reducible repeat (first | refine blk_drewN ?_ _ | refine blk_drew ?_ | refine blk_alloc ?_ _)); exact BK420.out) hb); have n5_ := Aside0.mk (below_step (by repeat (first | (with_reducible first | exact HB.out | apply below_alloc | apply pw_below_drewN | apply below_drew1 | refine below_set ?_ GE419.out | refine below_set ?_ GE420.out) | exact HB.out)) hb); clear HO415; clear HO418; clear BK419; clear BK420; clear HB; have HO415 := n0_; have HO418 := n1_; have HO423 := n2_; have BK419 := n3_; have BK420 := n4_; have HB := n5_; clear n0_ n1_ n2_ n3_ n4_ n5_; (try clear hb); (try clear hb2); (try clear hk); (try clear hi); (try clear ho0)) | ((with_reducible refine gate_callee (f := 14) rfl ?_); refine goesL_ (some 26) rfl rfl Tryd.func14 (by kernel_rfl) rfl #[.slice A1 l1.length c1] rfl (by (try simp only [List.map_toArray, List.map_cons, List.map_nil]); first | done | rfl | (simp only [List.length_drop, List.length_take]; rfl)) ?_; (with_reducible refine (trickleref04_Of.calls kj4 _ _ l1 t424 _ ?side1 ?side2 A14.out).mono ?_); (case side1 => repeat (first | exact (Kd.C_below HR1.out HB.out) | (with_reducible refine Kd.C_alloc ?_ _) | (with_reducible refine Kd.C_drewN ?_ _) | (with_reducible refine Kd.C_drew ?_))); (case side2 => exact HC1.out); rintro e w37 ⟨v425, rfl, ho0, hb⟩; refine ⟨_, rfl, ?_⟩; have n0_ := Aside0.mk (Kd.V_below (by (with_reducible repeat (first | apply Kd.V_alloc | apply Kd.V_drewN | apply Kd.V_drew)); exact HO415.out) hb); have n1_ := Aside0.mk (Kd.V_below (by (with_reducible repeat (first | apply Kd.V_alloc | apply Kd.V_drewN | apply Kd.V_drew)); exact HO418.out) hb); have n2_ := Aside0.mk (Kd.V_below (by (with_reducible repeat (first | apply Kd.V_alloc | apply Kd.V_drewN | apply Kd.V_drew)); exact HO423.out) hb); have n3_ := Aside0.mk (Kd.V_lower (Kd.V_mono (ok' := fun k_ => k_ ≠ gb419 ∧ k_ ≠ gb420) ho0 (fun k_ hk_ => ⟨(Kd.freshB (g := gb419) (o := .cells #[.slice Ao31 t413.length co31] 27 (0, 0)) (by (with_reducible repeat (first | refine blk_drewN ?_ _ | refine blk_drew ?_ | refine blk_alloc ?_ _)); exact BK419.out) k_ hk_), (Kd.freshB (g := gb420) (o := .cells #[.slice Ao34 t416.length co34] 27 (0, 0)) (by (with_reducible repeat (first | refine blk_drewN ?_ _ | refine blk_drew ?_ | refine blk_alloc ?_ _)); exact BK420.out) k_ hk_)⟩)) (below_size (by repeat (first | (with_reducible first | exact HB.out | apply below_alloc | apply pw_below_drewN | apply below_drew1 | refine below_set ?_ GE419.out | refine below_set ?_ GE420.out) | exact HB.out)))); have n4_ := Aside0.mk (blk_below (g := gb419) (o := .cells #[.slice Ao31 t413.length co31] 27 (0, 0)) (by (with_reducible repeat (first | refine blk_drewN ?_ _ | refine blk_drew ?_ | refine blk_alloc ?_ _)); exact BK419.out) hb); have n5_ := Aside0.mk (blk_below (g := gb420) (o := .cells #[.slice Ao34 t416.length co34] 27 (0, 0)) (by (with_reducible repeat (first | refine blk_drewN ?_ _ | refine blk_drew ?_ | refine blk_alloc ?_ _)); exact BK420.out) hb); have n6_ := Aside0.mk (below_step (by repeat (first | (with_reducible first | exact HB.out | apply below_alloc | apply pw_below_drewN | apply below_drew1 | refine below_set ?_ GE419.out | refine below_set ?_ GE420.out) | exact HB.out)) hb); clear HO415; clear HO418; clear HO423; clear BK419; clear BK420; clear HB; have HO415 := n0_; have HO418 := n1_; have HO423 := n2_; have HO426 := n3_; have BK419 := n4_; have BK420 := n5_; have HB := n6_; clear n0_ n1_ n2_ n3_ n4_ n5_ n6_; (try clear hb); (try clear hb2); (try clear hk); (try clear hi); (try clear ho0)))
                  have n0_ := Aside0.mk (Kd.V_drew HO415.out)
                  have n1_ := Aside0.mk (Kd.V_drew HO418.out)
                  have n2_ := Aside0.mk (Kd.V_drew HO423.out)
                  have n3_ := Aside0.mk (Kd.V_drew HO426.out)
                  have n4_ := Aside0.mk (blk_drew BK419.out)
                  have n5_ := Aside0.mk (blk_drew BK420.out)
                  have n6_ := Aside0.mk (below_drew1 HB.out)
                  clear HO415
                  clear HO418
                  clear HO423
                  clear HO426
                  clear BK419
                  clear BK420
                  clear HB
                  have HO415 := n0_
                  have HO418 := n1_
                  have HO423 := n2_
                  have HO426 := n3_
                  have BK419 := n4_
                  have BK420 := n5_
                  have HB := n6_
                  clear n0_ n1_ n2_ n3_ n4_ n5_ n6_
                  refine start_ (n := 36) (S := fun w' => w'.cell? ⟨gb419, 0, none⟩ = some (.slice Ao31 t413.length co31) ∧ w'.cell? ⟨gb420, 0, none⟩ = some (.slice Ao34 t416.length co34)) (ds := []) #[false, false, false, false, false, false, false, false, false, false, false, false, false, false, false, false, false, false, false, false, false, false, false, false, false, false, false, false, false, false, false, false, false, false, false, false] (by kernel_rfl) rfl rfl ⟨(blk_cell BK419.out 0).trans rfl, (blk_cell BK420.out 0).trans rfl⟩ (fun hHeld => ?_); refine with_tabW tricklelaw04_BitsetComparisons.tab7 tricklelaw04_BitsetComparisons.bits7 (fun HT_ HW_ => ?_)
                  generalize w37.drew = w38 at HO415 HO418 HO423 HO426 BK419 BK420 HB hHeld ⊢
                  refine pure_ (i := 3) (N := some 30) (v := ?_) (a' := ?_) #[false, false, false, true, false, false, false, false, false, false, false, false, false, false, false, false, false, false, false, false, false, false, false, false, false, false, false, false, false, false, false, false, false, false, false, false] rfl rfl (any_of HT_.out (by kernel_rfl)) (fun _ _ _ h => h) (Or.inl ⟨by rfl, ?_⟩) ?_ ?_
                  rotate_left
                  · intro w'
                    go_simp
                    with_reducible rfl
                  rotate_left
                  · simp only [Act.put, List.setIfInBounds_toArray, List.set_cons_zero, List.set_cons_succ, i64_w, i32_w]
                    rfl
                  refine pure_ (i := 4) (N := some 31) (v := ?_) (a' := ?_) #[false, false, false, true, true, false, false, false, false, false, false, false, false, false, false, false, false, false, false, false, false, false, false, false, false, false, false, false, false, false, false, false, false, false, false, false] rfl rfl (any_of HT_.out (by kernel_rfl)) (fun _ _ _ h => h) (Or.inl ⟨by rfl, ?_⟩) ?_ ?_
                  rotate_left
                  · intro w'
                    go_simp
                    with_reducible rfl
                  rotate_left
                  · simp only [Act.put, List.setIfInBounds_toArray, List.set_cons_zero, List.set_cons_succ, i64_w, i32_w]
                    rfl
                  refine take_ (i := 0) (N := some 27) (v := ?_) (a' := ?_) #[true, false, false, true, true, false, false, false, false, false, false, false, false, false, false, false, false, false, false, false, false, false, false, false, false, false, false, false, false, false, false, false, false, false, false, false] rfl rfl (take_ofW HT_.out HW_.out (by kernel_rfl)) (fun _ _ _ h => h) (Or.inl ⟨by rfl, ?_⟩) hHeld ?_ ?_
                  rotate_left
                  · rintro w' ⟨s0, s1⟩
                    go_simp
                    with_reducible rfl
                  rotate_left
                  · simp only [Act.put, List.setIfInBounds_toArray, List.set_cons_zero, List.set_cons_succ, i64_w, i32_w]
                    rfl
                  refine take_ (i := 1) (N := some 28) (v := ?_) (a' := ?_) #[true, true, false, true, true, false, false, false, false, false, false, false, false, false, false, false, false, false, false, false, false, false, false, false, false, false, false, false, false, false, false, false, false, false, false, false] rfl rfl (take_ofW HT_.out HW_.out (by kernel_rfl)) (fun _ _ _ h => h) (Or.inl ⟨by rfl, ?_⟩) hHeld ?_ ?_
                  rotate_left
                  · rintro w' ⟨s0, s1⟩
                    go_simp
                    with_reducible rfl
                  rotate_left
                  · simp only [Act.put, List.setIfInBounds_toArray, List.set_cons_zero, List.set_cons_succ, i64_w, i32_w]
                    rfl
                  refine one_ (i := 2) (N := some 29) #[true, true, true, true, true, false, false, false, false, false, false, false, false, false, false, false, false, false, false, false, false, false, false, false, false, false, false, false, false, false, false, false, false, false, false, false] rfl rfl (one_of HT_.out (by kernel_rfl)) (by decide) (fun K hK => ?_)
                  refine goes_ Tryd.func34 (by kernel_rfl) rfl #[.agg #[.slice Ao31 t413.length co31], .agg #[.slice Ao34 t416.length co34]] (by rfl) rfl rfl (by (try simp only [List.map_toArray, List.map_cons, List.map_nil]); first | done | rfl | (simp only [List.length_drop, List.length_take]; rfl)) ?_
                  with_reducible refine (bitset_Set_Equal.calls kj4 _ _ t413 _ _ t416 t427 _ ?side1 ?side2 ?side3 ?side4 A15.out).mono ?_
                  (case side1 => repeat (first | exact (Kd.V_reads' HO415.out).2.2 | (with_reducible refine Kd.C_alloc ?_ _) | (with_reducible refine Kd.C_drewN ?_ _) | (with_reducible refine Kd.C_drew ?_)))
                  (case side2 => exact (Kd.V_reads' HO415.out).2.1)
                  (case side3 => repeat (first | exact (Kd.V_reads' HO418.out).2.2 | (with_reducible refine Kd.C_alloc ?_ _) | (with_reducible refine Kd.C_drewN ?_ _) | (with_reducible refine Kd.C_drew ?_)))
                  (case side4 => exact (Kd.V_reads' HO418.out).2.1)
                  rintro e w39 ⟨rfl, hb⟩
                  refine ⟨_, rfl, ?_⟩
                  have n0_ := Aside0.mk (Kd.V_below (by (with_reducible repeat (first | apply Kd.V_alloc | apply Kd.V_drewN | apply Kd.V_drew)); exact HO415.out) hb)
                  have n1_ := Aside0.mk (Kd.V_below (by (with_reducible repeat (first | apply Kd.V_alloc | apply Kd.V_drewN | apply Kd.V_drew)); exact HO418.out) hb)
                  have n2_ := Aside0.mk (Kd.V_below (by (with_reducible repeat (first | apply Kd.V_alloc | apply Kd.V_drewN | apply Kd.V_drew)); exact HO423.out) hb)
                  have n3_ := Aside0.mk (Kd.V_below (by (with_reducible repeat (first | apply Kd.V_alloc | apply Kd.V_drewN | apply Kd.V_drew)); exact HO426.out) hb)
                  have n4_ := Aside0.mk (blk_below (g := gb419) (o := .cells #[.slice Ao31 t413.length co31] 27 (0, 0)) (by (with_reducible repeat (first | refine blk_drewN ?_ _ | refine blk_drew ?_ | refine blk_alloc ?_ _)); exact BK419.out) hb)
                  have n5_ := Aside0.mk (blk_below (g := gb420) (o := .cells #[.slice Ao34 t416.length co34] 27 (0, 0)) (by (with_reducible repeat (first | refine blk_drewN ?_ _ | refine blk_drew ?_ | refine blk_alloc ?_ _)); exact BK420.out) hb)
                  have n6_ := Aside0.mk (below_step (by repeat (first | (with_reducible first | exact HB.out | apply below_alloc | apply pw_below_drewN | apply below_drew1 | refine below_set ?_ GE419.out | refine below_set ?_ GE420.out) | exact HB.out)) hb)
                  clear HO415
                  clear HO418
                  clear HO423
                  clear HO426
                  clear BK419
                  clear BK420
                  clear HB
                  have HO415 := n0_
                  have HO418 := n1_
                  have HO423 := n2_
                  have HO426 := n3_
                  have BK419 := n4_
                  have BK420 := n5_
                  have HB := n6_
                  clear n0_ n1_ n2_ n3_ n4_ n5_ n6_
                  (try clear hb)
                  (try clear hb2)
                  (try clear hk)
                  (try clear hi)
                  obtain ⟨Ao40, co40, eo40⟩ := Kd.V_slice HO423.out
                  (first | subst eo40 | (injection eo40 with f1_ f2_ f3_; have f4_ := f1_.symm; have f5_ := f3_.symm; clear f1_ f2_ f3_; subst f4_; subst f5_))
                  obtain ⟨Ao41, co41, eo41⟩ := Kd.V_slice HO426.out
                  (first | subst eo41 | (injection eo41 with f1_ f2_ f3_; have f4_ := f1_.symm; have f5_ := f3_.symm; clear f1_ f2_ f3_; subst f4_; subst f5_))
                  refine hK.out _ _ ⟨(blk_cell BK419.out 0).trans rfl, (blk_cell BK420.out 0).trans rfl⟩ (fun hHeld => ?_)
                  clear hK K
                  refine norm_ (a' := ?_) ?_ ?_
                  rotate_left
                  · show Act.put _ (some 29) _ = _
                    simp only [Act.put, List.setIfInBounds_toArray, List.set_cons_zero, List.set_cons_succ, i64_w, i32_w]
                    rfl
                  refine one_ (i := 5) (N := some 32) #[true, true, true, true, true, true, false, false, false, false, false, false, false, false, false, false, false, false, false, false, false, false, false, false, false, false, false, false, false, false, false, false, false, false, false, false] rfl rfl (one_of HT_.out (by kernel_rfl)) (by decide) (fun K hK => ?_)
                  refine goes_ Tryd.func24 (by kernel_rfl) rfl #[.slice Ao40 t421.length co40, .slice Ao41 t424.length co41] (by rfl) rfl rfl (by (try simp only [List.map_toArray, List.map_cons, List.map_nil]); first | done | rfl | (simp only [List.length_drop, List.length_take]; rfl)) ?_
                  with_reducible refine (trickleref04_Equal.calls kj4 _ _ t421 _ _ t424 t428 _ ?side1 ?side2 ?side3 ?side4 A16.out).mono ?_
                  (case side1 => repeat (first | exact (Kd.V_reads' HO423.out).2.2 | (with_reducible refine Kd.C_alloc ?_ _) | (with_reducible refine Kd.C_drewN ?_ _) | (with_reducible refine Kd.C_drew ?_)))
                  (case side2 => exact (Kd.V_reads' HO423.out).2.1)
                  (case side3 => repeat (first | exact (Kd.V_reads' HO426.out).2.2 | (with_reducible refine Kd.C_alloc ?_ _) | (with_reducible refine Kd.C_drewN ?_ _) | (with_reducible refine Kd.C_drew ?_)))
                  (case side4 => exact (Kd.V_reads' HO426.out).2.1)
                  rintro e w' ⟨rfl, ⟨nd, rfl⟩⟩
                  refine ⟨_, rfl, ?_⟩
                  refine hK.out _ _ ⟨(blk_cell BK419.out 0).trans rfl, (blk_cell BK420.out 0).trans rfl⟩ (fun hHeld => ?_)
                  clear hK K
                  refine norm_ (a' := ?_) ?_ ?_
                  rotate_left
                  · show Act.put _ (some 32) _ = _
                    simp only [Act.put, List.setIfInBounds_toArray, List.set_cons_zero, List.set_cons_succ, i64_w, i32_w]
                    rfl
                  refine pure_ (i := 6) (N := some 33) (v := ?_) (a' := ?_) #[true, true, true, true, true, true, true, false, false, false, false, false, false, false, false, false, false, false, false, false, false, false, false, false, false, false, false, false, false, false, false, false, false, false, false, false] rfl rfl (any_of HT_.out (by kernel_rfl)) (fun _ _ _ h => h) (Or.inl ⟨by rfl, ?_⟩) ?_ ?_
                  rotate_left
                  · intro w'
                    go_simp
                    with_reducible rfl
                  rotate_left
                  · simp only [Act.put, List.setIfInBounds_toArray, List.set_cons_zero, List.set_cons_succ, i64_w, i32_w]
                    rfl
                  refine pure_ (i := 7) (N := some 34) (v := ?_) (a' := ?_) #[true, true, true, true, true, true, true, true, false, false, false, false, false, false, false, false, false, false, false, false, false, false, false, false, false, false, false, false, false, false, false, false, false, false, false, false] rfl rfl (any_of HT_.out (by kernel_rfl)) (fun _ _ _ h => h) (Or.inl ⟨by rfl, ?_⟩) ?_ ?_
                  rotate_left
                  · intro w'
                    go_simp
                    with_reducible rfl
                  rotate_left
                  · simp only [Act.put, List.setIfInBounds_toArray, List.set_cons_zero, List.set_cons_succ, i64_w, i32_w]
                    rfl
                  refine pure_ (i := 11) (N := some 38) (v := ?_) (a' := ?_) #[true, true, true, true, true, true, true, true, false, false, false, true, false, false, false, false, false, false, false, false, false, false, false, false, false, false, false, false, false, false, false, false, false, false, false, false] rfl rfl (any_of HT_.out (by kernel_rfl)) (fun _ _ _ h => h) (Or.inl ⟨by rfl, ?_⟩) ?_ ?_
                  rotate_left
                  · intro w'
                    go_simp
                    with_reducible rfl
                  rotate_left
                  · simp only [Act.put, List.setIfInBounds_toArray, List.set_cons_zero, List.set_cons_succ, i64_w, i32_w]
                    rfl
                  refine pure_ (i := 12) (N := some 39) (v := ?_) (a' := ?_) #[true, true, true, true, true, true, true, true, false, false, false, true, true, false, false, false, false, false, false, false, false, false, false, false, false, false, false, false, false, false, false, false, false, false, false, false] rfl rfl (any_of HT_.out (by kernel_rfl)) (fun _ _ _ h => h) (Or.inl ⟨by rfl, ?_⟩) ?_ ?_
                  rotate_left
                  · intro w'
                    go_simp
                    with_reducible rfl
                  rotate_left
                  · simp only [Act.put, List.setIfInBounds_toArray, List.set_cons_zero, List.set_cons_succ, i64_w, i32_w]
                    rfl
                  refine take_ (i := 8) (N := some 35) (v := ?_) (a' := ?_) #[true, true, true, true, true, true, true, true, true, false, false, true, true, false, false, false, false, false, false, false, false, false, false, false, false, false, false, false, false, false, false, false, false, false, false, false] rfl rfl (take_ofW HT_.out HW_.out (by kernel_rfl)) (fun _ _ _ h => h) (Or.inl ⟨by rfl, ?_⟩) hHeld ?_ ?_
                  rotate_left
                  · rintro w' ⟨s0, s1⟩
                    go_simp
                    with_reducible rfl
                  rotate_left
                  · simp only [Act.put, List.setIfInBounds_toArray, List.set_cons_zero, List.set_cons_succ, i64_w, i32_w]
                    rfl
                  refine take_ (i := 9) (N := some 36) (v := ?_) (a' := ?_) #[true, true, true, true, true, true, true, true, true, true, false, true, true, false, false, false, false, false, false, false, false, false, false, false, false, false, false, false, false, false, false, false, false, false, false, false] rfl rfl (take_ofW HT_.out HW_.out (by kernel_rfl)) (fun _ _ _ h => h) (Or.inl ⟨by rfl, ?_⟩) hHeld ?_ ?_
                  rotate_left
                  · rintro w' ⟨s0, s1⟩
                    go_simp
                    with_reducible rfl
                  rotate_left
                  · simp only [Act.put, List.setIfInBounds_toArray, List.set_cons_zero, List.set_cons_succ, i64_w, i32_w]
                    rfl
                  refine one_ (i := 10) (N := some 37) #[true, true, true, true, true, true, true, true, true, true, true, true, true, false, false, false, false, false, false, false, false, false, false, false, false, false, false, false, false, false, false, false, false, false, false, false] rfl rfl (one_of HT_.out (by kernel_rfl)) (by decide) (fun K hK => ?_)
                  refine goes_ Tryd.func35 (by kernel_rfl) rfl #[.agg #[.slice Ao31 t413.length co31], .agg #[.slice Ao34 t416.length co34]] (by rfl) rfl rfl (by (try simp only [List.map_toArray, List.map_cons, List.map_nil]); first | done | rfl | (simp only [List.length_drop, List.length_take]; rfl)) ?_
                  with_reducible refine (bitset_Set_Subset.calls kj4 _ _ t413 _ _ t416 t429 _ ?side1 ?side2 ?side3 ?side4 A18.out).mono ?_
                  (case side1 => repeat (first | exact (Kd.V_reads' HO415.out).2.2 | (with_reducible refine Kd.C_alloc ?_ _) | (with_reducible refine Kd.C_drewN ?_ _) | (with_reducible refine Kd.C_drew ?_)))
                  (case side2 => exact (Kd.V_reads' HO415.out).2.1)
                  (case side3 => repeat (first | exact (Kd.V_reads' HO418.out).2.2 | (with_reducible refine Kd.C_alloc ?_ _) | (with_reducible refine Kd.C_drewN ?_ _) | (with_reducible refine Kd.C_drew ?_)))
                  (case side4 => exact (Kd.V_reads' HO418.out).2.1)
                  rintro e w42 ⟨rfl, hb⟩
                  refine ⟨_, rfl, ?_⟩
                  have n0_ := Aside0.mk (Kd.V_below (by (with_reducible repeat (first | apply Kd.V_alloc | apply Kd.V_drewN | apply Kd.V_drew)); exact HO415.out) hb)
                  have n1_ := Aside0.mk (Kd.V_below (by (with_reducible repeat (first | apply Kd.V_alloc | apply Kd.V_drewN | apply Kd.V_drew)); exact HO418.out) hb)
                  have n2_ := Aside0.mk (Kd.V_below (by (with_reducible repeat (first | apply Kd.V_alloc | apply Kd.V_drewN | apply Kd.V_drew)); exact HO423.out) hb)
                  have n3_ := Aside0.mk (Kd.V_below (by (with_reducible repeat (first | apply Kd.V_alloc | apply Kd.V_drewN | apply Kd.V_drew)); exact HO426.out) hb)
                  have n4_ := Aside0.mk (blk_below (g := gb419) (o := .cells #[.slice Ao31 t413.length co31] 27 (0, 0)) (by (with_reducible repeat (first | refine blk_drewN ?_ _ | refine blk_drew ?_ | refine blk_alloc ?_ _)); exact BK419.out) hb)
                  have n5_ := Aside0.mk (blk_below (g := gb420) (o := .cells #[.slice Ao34 t416.length co34] 27 (0, 0)) (by (with_reducible repeat (first | refine blk_drewN ?_ _ | refine blk_drew ?_ | refine blk_alloc ?_ _)); exact BK420.out) hb)
                  have n6_ := Aside0.mk (below_step (by repeat (first | (with_reducible first | exact HB.out | apply below_alloc | apply pw_below_drewN | apply below_drew1 | refine below_set ?_ GE419.out | refine below_set ?_ GE420.out) | exact HB.out)) hb)
                  clear HO415
                  clear HO418
                  clear HO423
                  clear HO426
                  clear BK419
                  clear BK420
                  clear HB
                  have HO415 := n0_
                  have HO418 := n1_
                  have HO423 := n2_
                  have HO426 := n3_
                  have BK419 := n4_
                  have BK420 := n5_
                  have HB := n6_
                  clear n0_ n1_ n2_ n3_ n4_ n5_ n6_
                  (try clear hb)
                  (try clear hb2)
                  (try clear hk)
                  (try clear hi)
                  refine hK.out _ _ ⟨(blk_cell BK419.out 0).trans rfl, (blk_cell BK420.out 0).trans rfl⟩ (fun hHeld => ?_)
                  clear hK K
                  refine norm_ (a' := ?_) ?_ ?_
                  rotate_left
                  · show Act.put _ (some 37) _ = _
                    simp only [Act.put, List.setIfInBounds_toArray, List.set_cons_zero, List.set_cons_succ, i64_w, i32_w]
                    rfl
                  refine one_ (i := 13) (N := some 40) #[true, true, true, true, true, true, true, true, true, true, true, true, true, true, false, false, false, false, false, false, false, false, false, false, false, false, false, false, false, false, false, false, false, false, false, false] rfl rfl (one_of HT_.out (by kernel_rfl)) (by decide) (fun K hK => ?_)
                  refine goes_ Tryd.func30 (by kernel_rfl) rfl #[.slice Ao40 t421.length co40, .slice Ao41 t424.length co41] (by rfl) rfl rfl (by (try simp only [List.map_toArray, List.map_cons, List.map_nil]); first | done | rfl | (simp only [List.length_drop, List.length_take]; rfl)) ?_
                  with_reducible refine (trickleref04_Minus.calls kj4 _ _ t421 _ _ t424 t430 _ ?side1 ?side2 ?side3 ?side4 A19.out).mono ?_
                  (case side1 => repeat (first | exact (Kd.V_reads' HO423.out).2.2 | (with_reducible refine Kd.C_alloc ?_ _) | (with_reducible refine Kd.C_drewN ?_ _) | (with_reducible refine Kd.C_drew ?_)))
                  (case side2 => exact (Kd.V_reads' HO423.out).2.1)
                  (case side3 => repeat (first | exact (Kd.V_reads' HO426.out).2.2 | (with_reducible refine Kd.C_alloc ?_ _) | (with_reducible refine Kd.C_drewN ?_ _) | (with_reducible refine Kd.C_drew ?_)))
                  (case side4 => exact (Kd.V_reads' HO426.out).2.1)
                  rintro e w43 ⟨v431, rfl, ho0, hb⟩
                  refine ⟨_, rfl, ?_⟩
                  have n0_ := Aside0.mk (Kd.V_elder' (by (with_reducible repeat (first | apply Kd.V_alloc | apply Kd.V_drewN | apply Kd.V_drew)); exact HO415.out) (Kd.R_base ho0) hb)
                  have n1_ := Aside0.mk (Kd.V_elder' (by (with_reducible repeat (first | apply Kd.V_alloc | apply Kd.V_drewN | apply Kd.V_drew)); exact HO418.out) (Kd.R_base ho0) hb)
                  have n2_ := Aside0.mk (Kd.V_elder' (by (with_reducible repeat (first | apply Kd.V_alloc | apply Kd.V_drewN | apply Kd.V_drew)); exact HO423.out) (Kd.R_base ho0) hb)
                  have n3_ := Aside0.mk (Kd.V_elder' (by (with_reducible repeat (first | apply Kd.V_alloc | apply Kd.V_drewN | apply Kd.V_drew)); exact HO426.out) (Kd.R_base ho0) hb)
                  have n4_ := Aside0.mk (Kd.R_lower ho0 (below_size (by repeat (first | (with_reducible first | exact HB.out | apply below_alloc | apply pw_below_drewN | apply below_drew1 | refine below_set ?_ GE419.out | refine below_set ?_ GE420.out) | exact HB.out))))
                  have n5_ := Aside0.mk (blk_below (g := gb419) (o := .cells #[.slice Ao31 t413.length co31] 27 (0, 0)) (by (with_reducible repeat (first | refine blk_drewN ?_ _ | refine blk_drew ?_ | refine blk_alloc ?_ _)); exact BK419.out) hb)
                  have n6_ := Aside0.mk (blk_below (g := gb420) (o := .cells #[.slice Ao34 t416.length co34] 27 (0, 0)) (by (with_reducible repeat (first | refine blk_drewN ?_ _ | refine blk_drew ?_ | refine blk_alloc ?_ _)); exact BK420.out) hb)
                  have n7_ := Aside0.mk (below_step (by repeat (first | (with_reducible first | exact HB.out | apply below_alloc | apply pw_below_drewN | apply below_drew1 | refine below_set ?_ GE419.out | refine below_set ?_ GE420.out) | exact HB.out)) hb)
                  clear HO415
                  clear HO418
                  clear HO423
                  clear HO426
                  clear BK419
                  clear BK420
                  clear HB
                  have HO415 := n0_
                  have HO418 := n1_
                  have HO423 := n2_
                  have HO426 := n3_
                  have HO432 := n4_
                  have BK419 := n5_
                  have BK420 := n6_
                  have HB := n7_
                  clear n0_ n1_ n2_ n3_ n4_ n5_ n6_ n7_
                  (try clear hb)
                  (try clear hb2)
                  (try clear hk)
                  (try clear hi)
                  (try clear ho0)
                  obtain ⟨Ao44, co44, eo44⟩ := Kd.R_slice HO432.out
                  (first | subst eo44 | (injection eo44 with f1_ f2_ f3_; have f4_ := f1_.symm; have f5_ := f3_.symm; clear f1_ f2_ f3_; subst f4_; subst f5_))
                  refine hK.out _ _ ⟨(blk_cell BK419.out 0).trans rfl, (blk_cell BK420.out 0).trans rfl⟩ (fun hHeld => ?_)
                  clear hK K
                  refine norm_ (a' := ?_) ?_ ?_
                  rotate_left
                  · show Act.put _ (some 40) _ = _
                    simp only [Act.put, List.setIfInBounds_toArray, List.set_cons_zero, List.set_cons_succ, i64_w, i32_w]
                    rfl
                  refine pure_ (i := 14) (N := some 41) (v := ?_) (a' := ?_) #[true, true, true, true, true, true, true, true, true, true, true, true, true, true, true, false, false, false, false, false, false, false, false, false, false, false, false, false, false, false, false, false, false, false, false, false] rfl rfl (any_of HT_.out (by kernel_rfl)) (fun _ _ _ h => h) (Or.inl ⟨by rfl, ?_⟩) ?_ ?_
                  rotate_left
                  · intro w'
                    go_simp
                    with_reducible rfl
                  rotate_left
                  · simp only [Act.put, List.setIfInBounds_toArray, List.set_cons_zero, List.set_cons_succ, i64_w, i32_w]
                    rfl
                  refine pure_ (i := 15) (N := some 42) (v := ?_) (a' := ?_) #[true, true, true, true, true, true, true, true, true, true, true, true, true, true, true, true, false, false, false, false, false, false, false, false, false, false, false, false, false, false, false, false, false, false, false, false] rfl rfl (any_of HT_.out (by kernel_rfl)) (fun _ _ _ h => h) (Or.inl ⟨by rfl, ?_⟩) ?_ ?_
                  rotate_left
                  · intro w'
                    go_simp
                    with_reducible rfl
                  rotate_left
                  · simp only [Act.put, List.setIfInBounds_toArray, List.set_cons_zero, List.set_cons_succ, i64_w, i32_w]
                    rfl
                  refine pure_ (i := 16) (N := some 43) (v := ?_) (a' := ?_) #[true, true, true, true, true, true, true, true, true, true, true, true, true, true, true, true, true, false, false, false, false, false, false, false, false, false, false, false, false, false, false, false, false, false, false, false] rfl rfl (any_of HT_.out (by kernel_rfl)) (fun _ _ _ h => h) (Or.inl ⟨by rfl, ?_⟩) ?_ ?_
                  rotate_left
                  · intro w'
                    go_simp
                    with_reducible rfl
                  rotate_left
                  · simp only [Act.put, List.setIfInBounds_toArray, List.set_cons_zero, List.set_cons_succ, i64_w, i32_w]
                    rfl
                  refine pure_ (i := 17) (N := some 44) (v := ?_) (a' := ?_) #[true, true, true, true, true, true, true, true, true, true, true, true, true, true, true, true, true, true, false, false, false, false, false, false, false, false, false, false, false, false, false, false, false, false, false, false] rfl rfl (any_of HT_.out (by kernel_rfl)) (fun _ _ _ h => h) (Or.inl ⟨by rfl, ?_⟩) ?_ ?_
                  rotate_left
                  · intro w'
                    go_simp
                    with_reducible rfl
                  rotate_left
                  · simp only [Act.put, List.setIfInBounds_toArray, List.set_cons_zero, List.set_cons_succ, i64_w, i32_w]
                    rfl
                  refine pure_ (i := 18) (N := some 45) (v := ?_) (a' := ?_) #[true, true, true, true, true, true, true, true, true, true, true, true, true, true, true, true, true, true, true, false, false, false, false, false, false, false, false, false, false, false, false, false, false, false, false, false] rfl rfl (any_of HT_.out (by kernel_rfl)) (fun _ _ _ h => h) (Or.inl ⟨by rfl, ?_⟩) ?_ ?_
                  rotate_left
                  · intro w'
                    go_simp
                    with_reducible rfl
                  rotate_left
                  · simp only [Act.put, List.setIfInBounds_toArray, List.set_cons_zero, List.set_cons_succ, i64_w, i32_w]
                    rfl
                  refine take_ (i := 19) (N := some 46) (v := ?_) (a' := ?_) #[true, true, true, true, true, true, true, true, true, true, true, true, true, true, true, true, true, true, true, true, false, false, false, false, false, false, false, false, false, false, false, false, false, false, false, false] rfl rfl (take_ofW HT_.out HW_.out (by kernel_rfl)) (fun _ _ _ h => h) (Or.inl ⟨by rfl, ?_⟩) hHeld ?_ ?_
                  rotate_left
                  · rintro w' ⟨s0, s1⟩
                    go_simp
                    with_reducible rfl
                  rotate_left
                  · simp only [Act.put, List.setIfInBounds_toArray, List.set_cons_zero, List.set_cons_succ, i64_w, i32_w]
                    rfl
                  refine take_ (i := 20) (N := some 47) (v := ?_) (a' := ?_) #[true, true, true, true, true, true, true, true, true, true, true, true, true, true, true, true, true, true, true, true, true, false, false, false, false, false, false, false, false, false, false, false, false, false, false, false] rfl rfl (take_ofW HT_.out HW_.out (by kernel_rfl)) (fun _ _ _ h => h) (Or.inl ⟨by rfl, ?_⟩) hHeld ?_ ?_
                  rotate_left
                  · rintro w' ⟨s0, s1⟩
                    go_simp
                    with_reducible rfl
                  rotate_left
                  · simp only [Act.put, List.setIfInBounds_toArray, List.set_cons_zero, List.set_cons_succ, i64_w, i32_w]
                    rfl
                  refine one_ (i := 21) (N := some 48) #[true, true, true, true, true, true, true, true, true, true, true, true, true, true, true, true, true, true, true, true, true, true, false, false, false, false, false, false, false, false, false, false, false, false, false, false] rfl rfl (one_of HT_.out (by kernel_rfl)) (by decide) (fun K hK => ?_)
                  refine goes_ Tryd.func34 (by kernel_rfl) rfl #[.agg #[.slice Ao31 t413.length co31], .agg #[.slice Ao31 t413.length co31]] (by rfl) rfl rfl (by (try simp only [List.map_toArray, List.map_cons, List.map_nil]); first | done | rfl | (simp only [List.length_drop, List.length_take]; rfl)) ?_
                  with_reducible refine (bitset_Set_Equal.calls kj4 _ _ t413 _ _ t413 true _ ?side1 ?side2 ?side3 ?side4 A21.out).mono ?_
                  (case side1 => repeat (first | exact (Kd.V_reads' HO415.out).2.2 | (with_reducible refine Kd.C_alloc ?_ _) | (with_reducible refine Kd.C_drewN ?_ _) | (with_reducible refine Kd.C_drew ?_)))
                  (case side2 => exact (Kd.V_reads' HO415.out).2.1)
                  (case side3 => repeat (first | exact (Kd.V_reads' HO415.out).2.2 | (with_reducible refine Kd.C_alloc ?_ _) | (with_reducible refine Kd.C_drewN ?_ _) | (with_reducible refine Kd.C_drew ?_)))
                  (case side4 => exact (Kd.V_reads' HO415.out).2.1)
                  rintro e w45 ⟨rfl, hb⟩
                  refine ⟨_, rfl, ?_⟩
                  have n0_ := Aside0.mk (Kd.V_below (by (with_reducible repeat (first | apply Kd.V_alloc | apply Kd.V_drewN | apply Kd.V_drew)); exact HO415.out) hb)
                  have n1_ := Aside0.mk (Kd.V_below (by (with_reducible repeat (first | apply Kd.V_alloc | apply Kd.V_drewN | apply Kd.V_drew)); exact HO418.out) hb)
                  have n2_ := Aside0.mk (Kd.V_below (by (with_reducible repeat (first | apply Kd.V_alloc | apply Kd.V_drewN | apply Kd.V_drew)); exact HO423.out) hb)
                  have n3_ := Aside0.mk (Kd.V_below (by (with_reducible repeat (first | apply Kd.V_alloc | apply Kd.V_drewN | apply Kd.V_drew)); exact HO426.out) hb)
                  have n4_ := Aside0.mk (Kd.R_below (by (with_reducible repeat (first | apply Kd.R_alloc | apply Kd.R_drewN | apply Kd.R_drew)); exact HO432.out) hb)
                  have n5_ := Aside0.mk (blk_below (g := gb419) (o := .cells #[.slice Ao31 t413.length co31] 27 (0, 0)) (by (with_reducible repeat (first | refine blk_drewN ?_ _ | refine blk_drew ?_ | refine blk_alloc ?_ _)); exact BK419.out) hb)
                  have n6_ := Aside0.mk (blk_below (g := gb420) (o := .cells #[.slice Ao34 t416.length co34] 27 (0, 0)) (by (with_reducible repeat (first | refine blk_drewN ?_ _ | refine blk_drew ?_ | refine blk_alloc ?_ _)); exact BK420.out) hb)
                  have n7_ := Aside0.mk (below_step (by repeat (first | (with_reducible first | exact HB.out | apply below_alloc | apply pw_below_drewN | apply below_drew1 | refine below_set ?_ GE419.out | refine below_set ?_ GE420.out) | exact HB.out)) hb)
                  clear HO415
                  clear HO418
                  clear HO423
                  clear HO426
                  clear HO432
                  clear BK419
                  clear BK420
                  clear HB
                  have HO415 := n0_
                  have HO418 := n1_
                  have HO423 := n2_
                  have HO426 := n3_
                  have HO432 := n4_
                  have BK419 := n5_
                  have BK420 := n6_
                  have HB := n7_
                  clear n0_ n1_ n2_ n3_ n4_ n5_ n6_ n7_
                  (try clear hb)
                  (try clear hb2)
                  (try clear hk)
                  (try clear hi)
                  refine hK.out _ _ ⟨(blk_cell BK419.out 0).trans rfl, (blk_cell BK420.out 0).trans rfl⟩ (fun hHeld => ?_)
                  clear hK K
                  refine norm_ (a' := ?_) ?_ ?_
                  rotate_left
                  · show Act.put _ (some 48) _ = _
                    simp only [Act.put, List.setIfInBounds_toArray, List.set_cons_zero, List.set_cons_succ, i64_w, i32_w]
                    rfl
                  refine pure_ (i := 22) (N := some 49) (v := ?_) (a' := ?_) #[true, true, true, true, true, true, true, true, true, true, true, true, true, true, true, true, true, true, true, true, true, true, true, false, false, false, false, false, false, false, false, false, false, false, false, false] rfl rfl (any_of HT_.out (by kernel_rfl)) (fun _ _ _ h => h) (Or.inl ⟨by rfl, ?_⟩) ?_ ?_
                  rotate_left
                  · intro w'
                    go_simp
                    with_reducible rfl
                  rotate_left
                  · simp only [Act.put, List.setIfInBounds_toArray, List.set_cons_zero, List.set_cons_succ, i64_w, i32_w]
                    rfl
                  refine pure_ (i := 23) (N := some 50) (v := ?_) (a' := ?_) #[true, true, true, true, true, true, true, true, true, true, true, true, true, true, true, true, true, true, true, true, true, true, true, true, false, false, false, false, false, false, false, false, false, false, false, false] rfl rfl (any_of HT_.out (by kernel_rfl)) (fun _ _ _ h => h) (Or.inl ⟨by rfl, ?_⟩) ?_ ?_
                  rotate_left
                  · intro w'
                    go_simp
                    with_reducible rfl
                  rotate_left
                  · simp only [Act.put, List.setIfInBounds_toArray, List.set_cons_zero, List.set_cons_succ, i64_w, i32_w]
                    rfl
                  refine take_ (i := 24) (N := some 51) (v := ?_) (a' := ?_) #[true, true, true, true, true, true, true, true, true, true, true, true, true, true, true, true, true, true, true, true, true, true, true, true, true, false, false, false, false, false, false, false, false, false, false, false] rfl rfl (take_ofW HT_.out HW_.out (by kernel_rfl)) (fun _ _ _ h => h) (Or.inl ⟨by rfl, ?_⟩) hHeld ?_ ?_
                  rotate_left
                  · rintro w' ⟨s0, s1⟩
                    go_simp
                    with_reducible rfl
                  rotate_left
                  · simp only [Act.put, List.setIfInBounds_toArray, List.set_cons_zero, List.set_cons_succ, i64_w, i32_w]
                    rfl
                  refine take_ (i := 25) (N := some 52) (v := ?_) (a' := ?_) #[true, true, true, true, true, true, true, true, true, true, true, true, true, true, true, true, true, true, true, true, true, true, true, true, true, true, false, false, false, false, false, false, false, false, false, false] rfl rfl (take_ofW HT_.out HW_.out (by kernel_rfl)) (fun _ _ _ h => h) (Or.inl ⟨by rfl, ?_⟩) hHeld ?_ ?_
                  rotate_left
                  · rintro w' ⟨s0, s1⟩
                    go_simp
                    with_reducible rfl
                  rotate_left
                  · simp only [Act.put, List.setIfInBounds_toArray, List.set_cons_zero, List.set_cons_succ, i64_w, i32_w]
                    rfl
                  refine one_ (i := 26) (N := some 53) #[true, true, true, true, true, true, true, true, true, true, true, true, true, true, true, true, true, true, true, true, true, true, true, true, true, true, true, false, false, false, false, false, false, false, false, false] rfl rfl (one_of HT_.out (by kernel_rfl)) (by decide) (fun K hK => ?_)
                  refine goes_ Tryd.func35 (by kernel_rfl) rfl #[.agg #[.slice Ao31 t413.length co31], .agg #[.slice Ao31 t413.length co31]] (by rfl) rfl rfl (by (try simp only [List.map_toArray, List.map_cons, List.map_nil]); first | done | rfl | (simp only [List.length_drop, List.length_take]; rfl)) ?_
                  with_reducible refine (bitset_Set_Subset.calls kj4 _ _ t413 _ _ t413 true _ ?side1 ?side2 ?side3 ?side4 A23.out).mono ?_
                  (case side1 => repeat (first | exact (Kd.V_reads' HO415.out).2.2 | (with_reducible refine Kd.C_alloc ?_ _) | (with_reducible refine Kd.C_drewN ?_ _) | (with_reducible refine Kd.C_drew ?_)))
                  (case side2 => exact (Kd.V_reads' HO415.out).2.1)
                  (case side3 => repeat (first | exact (Kd.V_reads' HO415.out).2.2 | (with_reducible refine Kd.C_alloc ?_ _) | (with_reducible refine Kd.C_drewN ?_ _) | (with_reducible refine Kd.C_drew ?_)))
                  (case side4 => exact (Kd.V_reads' HO415.out).2.1)
                  rintro e w46 ⟨rfl, hb⟩
                  refine ⟨_, rfl, ?_⟩
                  have n0_ := Aside0.mk (Kd.V_below (by (with_reducible repeat (first | apply Kd.V_alloc | apply Kd.V_drewN | apply Kd.V_drew)); exact HO415.out) hb)
                  have n1_ := Aside0.mk (Kd.V_below (by (with_reducible repeat (first | apply Kd.V_alloc | apply Kd.V_drewN | apply Kd.V_drew)); exact HO418.out) hb)
                  have n2_ := Aside0.mk (Kd.V_below (by (with_reducible repeat (first | apply Kd.V_alloc | apply Kd.V_drewN | apply Kd.V_drew)); exact HO423.out) hb)
                  have n3_ := Aside0.mk (Kd.V_below (by (with_reducible repeat (first | apply Kd.V_alloc | apply Kd.V_drewN | apply Kd.V_drew)); exact HO426.out) hb)
                  have n4_ := Aside0.mk (Kd.R_below (by (with_reducible repeat (first | apply Kd.R_alloc | apply Kd.R_drewN | apply Kd.R_drew)); exact HO432.out) hb)
                  have n5_ := Aside0.mk (blk_below (g := gb419) (o := .cells #[.slice Ao31 t413.length co31] 27 (0, 0)) (by (with_reducible repeat (first | refine blk_drewN ?_ _ | refine blk_drew ?_ | refine blk_alloc ?_ _)); exact BK419.out) hb)
                  have n6_ := Aside0.mk (blk_below (g := gb420) (o := .cells #[.slice Ao34 t416.length co34] 27 (0, 0)) (by (with_reducible repeat (first | refine blk_drewN ?_ _ | refine blk_drew ?_ | refine blk_alloc ?_ _)); exact BK420.out) hb)
                  have n7_ := Aside0.mk (below_step (by repeat (first | (with_reducible first | exact HB.out | apply below_alloc | apply pw_below_drewN | apply below_drew1 | refine below_set ?_ GE419.out | refine below_set ?_ GE420.out) | exact HB.out)) hb)
                  clear HO415
                  clear HO418
                  clear HO423
                  clear HO426
                  clear HO432
                  clear BK419
                  clear BK420
                  clear HB
                  have HO415 := n0_
                  have HO418 := n1_
                  have HO423 := n2_
                  have HO426 := n3_
                  have HO432 := n4_
                  have BK419 := n5_
                  have BK420 := n6_
                  have HB := n7_
                  clear n0_ n1_ n2_ n3_ n4_ n5_ n6_ n7_
                  (try clear hb)
                  (try clear hb2)
                  (try clear hk)
                  (try clear hi)
                  refine hK.out _ _ ⟨(blk_cell BK419.out 0).trans rfl, (blk_cell BK420.out 0).trans rfl⟩ (fun hHeld => ?_)
                  clear hK K
                  refine norm_ (a' := ?_) ?_ ?_
                  rotate_left
                  · show Act.put _ (some 53) _ = _
                    simp only [Act.put, List.setIfInBounds_toArray, List.set_cons_zero, List.set_cons_succ, i64_w, i32_w]
                    rfl
                  refine pure_ (i := 27) (N := some 54) (v := ?_) (a' := ?_) #[true, true, true, true, true, true, true, true, true, true, true, true, true, true, true, true, true, true, true, true, true, true, true, true, true, true, true, true, false, false, false, false, false, false, false, false] rfl rfl (any_of HT_.out (by kernel_rfl)) (fun _ _ _ h => h) (Or.inl ⟨by rfl, ?_⟩) ?_ ?_
                  rotate_left
                  · intro w'
                    go_simp
                    with_reducible rfl
                  rotate_left
                  · simp only [Act.put, List.setIfInBounds_toArray, List.set_cons_zero, List.set_cons_succ, i64_w, i32_w]
                    rfl
                  refine pure_ (i := 28) (N := some 55) (v := ?_) (a' := ?_) #[true, true, true, true, true, true, true, true, true, true, true, true, true, true, true, true, true, true, true, true, true, true, true, true, true, true, true, true, true, false, false, false, false, false, false, false] rfl rfl (any_of HT_.out (by kernel_rfl)) (fun _ _ _ h => h) (Or.inl ⟨by rfl, ?_⟩) ?_ ?_
                  rotate_left
                  · intro w'
                    go_simp
                    with_reducible rfl
                  rotate_left
                  · simp only [Act.put, List.setIfInBounds_toArray, List.set_cons_zero, List.set_cons_succ, i64_w, i32_w]
                    rfl
                  refine take_ (i := 29) (N := some 56) (v := ?_) (a' := ?_) #[true, true, true, true, true, true, true, true, true, true, true, true, true, true, true, true, true, true, true, true, true, true, true, true, true, true, true, true, true, true, false, false, false, false, false, false] rfl rfl (take_ofW HT_.out HW_.out (by kernel_rfl)) (fun _ _ _ h => h) (Or.inl ⟨by rfl, ?_⟩) hHeld ?_ ?_
                  rotate_left
                  · rintro w' ⟨s0, s1⟩
                    go_simp
                    with_reducible rfl
                  rotate_left
                  · simp only [Act.put, List.setIfInBounds_toArray, List.set_cons_zero, List.set_cons_succ, i64_w, i32_w]
                    rfl
                  refine take_ (i := 30) (N := some 57) (v := ?_) (a' := ?_) #[true, true, true, true, true, true, true, true, true, true, true, true, true, true, true, true, true, true, true, true, true, true, true, true, true, true, true, true, true, true, true, false, false, false, false, false] rfl rfl (take_ofW HT_.out HW_.out (by kernel_rfl)) (fun _ _ _ h => h) (Or.inl ⟨by rfl, ?_⟩) hHeld ?_ ?_
                  rotate_left
                  · rintro w' ⟨s0, s1⟩
                    go_simp
                    with_reducible rfl
                  rotate_left
                  · simp only [Act.put, List.setIfInBounds_toArray, List.set_cons_zero, List.set_cons_succ, i64_w, i32_w]
                    rfl
                  refine take_ (i := 31) (N := some 58) (v := ?_) (a' := ?_) #[true, true, true, true, true, true, true, true, true, true, true, true, true, true, true, true, true, true, true, true, true, true, true, true, true, true, true, true, true, true, true, true, false, false, false, false] rfl rfl (take_ofW HT_.out HW_.out (by kernel_rfl)) (fun _ _ _ h => h) (Or.inl ⟨by rfl, ?_⟩) hHeld ?_ ?_
                  rotate_left
                  · rintro w' ⟨s0, s1⟩
                    go_simp
                    with_reducible rfl
                  rotate_left
                  · simp only [Act.put, List.setIfInBounds_toArray, List.set_cons_zero, List.set_cons_succ, i64_w, i32_w]
                    rfl
                  refine one_ (i := 32) (N := some 59) #[true, true, true, true, true, true, true, true, true, true, true, true, true, true, true, true, true, true, true, true, true, true, true, true, true, true, true, true, true, true, true, true, true, false, false, false] rfl rfl (one_of HT_.out (by kernel_rfl)) (by decide) (fun K hK => ?_)
                  refine goes_ Tryd.func25 (by kernel_rfl) rfl #[.agg #[.slice Ao31 t413.length co31], .agg #[.slice Ao34 t416.length co34]] (by rfl) rfl rfl (by (try simp only [List.map_toArray, List.map_cons, List.map_nil]); first | done | rfl | (simp only [List.length_drop, List.length_take]; rfl)) ?_
                  with_reducible refine (bitset_Set_Union.calls kj4 _ _ t413 _ _ t416 t435 _ ?side1 ?side2 ?side3 ?side4 A25.out).mono ?_
                  (case side1 => repeat (first | exact (Kd.V_reads' HO415.out).2.2 | (with_reducible refine Kd.C_alloc ?_ _) | (with_reducible refine Kd.C_drewN ?_ _) | (with_reducible refine Kd.C_drew ?_)))
                  (case side2 => exact (Kd.V_reads' HO415.out).2.1)
                  (case side3 => repeat (first | exact (Kd.V_reads' HO418.out).2.2 | (with_reducible refine Kd.C_alloc ?_ _) | (with_reducible refine Kd.C_drewN ?_ _) | (with_reducible refine Kd.C_drew ?_)))
                  (case side4 => exact (Kd.V_reads' HO418.out).2.1)
                  rintro e w47 ⟨v436, rfl, ho0, hb⟩
                  refine ⟨_, rfl, ?_⟩
                  have n0_ := Aside0.mk (Kd.V_below (by (with_reducible repeat (first | apply Kd.V_alloc | apply Kd.V_drewN | apply Kd.V_drew)); exact HO415.out) hb)
                  have n1_ := Aside0.mk (Kd.V_below (by (with_reducible repeat (first | apply Kd.V_alloc | apply Kd.V_drewN | apply Kd.V_drew)); exact HO418.out) hb)
                  have n2_ := Aside0.mk (Kd.V_below (by (with_reducible repeat (first | apply Kd.V_alloc | apply Kd.V_drewN | apply Kd.V_drew)); exact HO423.out) hb)
                  have n3_ := Aside0.mk (Kd.V_below (by (with_reducible repeat (first | apply Kd.V_alloc | apply Kd.V_drewN | apply Kd.V_drew)); exact HO426.out) hb)
                  have n4_ := Aside0.mk (Kd.R_below (by (with_reducible repeat (first | apply Kd.R_alloc | apply Kd.R_drewN | apply Kd.R_drew)); exact HO432.out) hb)
                  have n5_ := Aside0.mk (Kd.V_lower (Kd.V_mono (ok' := fun k_ => some k_ ≠ (.slice Ao44 t430.length co44 : Value).ownBlock ∧ k_ ≠ gb419 ∧ k_ ≠ gb420) ho0 (fun k_ hk_ => ⟨(Kd.fresh' (Kd.R_lt (by (with_reducible repeat (first | apply Kd.R_alloc | apply Kd.R_drewN | apply Kd.R_drew)); exact HO432.out)) k_ hk_), (Kd.freshB (g := gb419) (o := .cells #[.slice Ao31 t413.length co31] 27 (0, 0)) (by (with_reducible repeat (first | refine blk_drewN ?_ _ | refine blk_drew ?_ | refine blk_alloc ?_ _)); exact BK419.out) k_ hk_), (Kd.freshB (g := gb420) (o := .cells #[.slice Ao34 t416.length co34] 27 (0, 0)) (by (with_reducible repeat (first | refine blk_drewN ?_ _ | refine blk_drew ?_ | refine blk_alloc ?_ _)); exact BK420.out) k_ hk_)⟩)) (below_size (by repeat (first | (with_reducible first | exact HB.out | apply below_alloc | apply pw_below_drewN | apply below_drew1 | refine below_set ?_ GE419.out | refine below_set ?_ GE420.out) | exact HB.out))))
                  have n6_ := Aside0.mk (blk_below (g := gb419) (o := .cells #[.slice Ao31 t413.length co31] 27 (0, 0)) (by (with_reducible repeat (first | refine blk_drewN ?_ _ | refine blk_drew ?_ | refine blk_alloc ?_ _)); exact BK419.out) hb)
                  have n7_ := Aside0.mk (blk_below (g := gb420) (o := .cells #[.slice Ao34 t416.length co34] 27 (0, 0)) (by (with_reducible repeat (first | refine blk_drewN ?_ _ | refine blk_drew ?_ | refine blk_alloc ?_ _)); exact BK420.out) hb)
                  have n8_ := Aside0.mk (below_step (by repeat (first | (with_reducible first | exact HB.out | apply below_alloc | apply pw_below_drewN | apply below_drew1 | refine below_set ?_ GE419.out | refine below_set ?_ GE420.out) | exact HB.out)) hb)
                  clear HO415
                  clear HO418
                  clear HO423
                  clear HO426
                  clear HO432
                  clear BK419
                  clear BK420
                  clear HB
                  have HO415 := n0_
                  have HO418 := n1_
                  have HO423 := n2_
                  have HO426 := n3_
                  have HO432 := n4_
                  have HO437 := n5_
                  have BK419 := n6_
                  have BK420 := n7_
                  have HB := n8_
                  clear n0_ n1_ n2_ n3_ n4_ n5_ n6_ n7_ n8_
                  (try clear hb)
                  (try clear hb2)
                  (try clear hk)
                  (try clear hi)
                  (try clear ho0)
                  obtain ⟨Ao48, co48, eo48⟩ := Kd.V_slice HO437.out
                  (first | subst eo48 | (injection eo48 with f1_ f2_ f3_; have f4_ := f1_.symm; have f5_ := f3_.symm; clear f1_ f2_ f3_; subst f4_; subst f5_))
                  refine hK.out _ _ ⟨(blk_cell BK419.out 0).trans rfl, (blk_cell BK420.out 0).trans rfl⟩ (fun hHeld => ?_)
                  clear hK K
                  refine norm_ (a' := ?_) ?_ ?_
                  rotate_left
                  · show Act.put _ (some 59) _ = _
                    simp only [Act.put, List.setIfInBounds_toArray, List.set_cons_zero, List.set_cons_succ, i64_w, i32_w]
                    rfl
                  refine one_ (i := 33) (N := some 60) #[true, true, true, true, true, true, true, true, true, true, true, true, true, true, true, true, true, true, true, true, true, true, true, true, true, true, true, true, true, true, true, true, true, true, false, false] rfl rfl (one_of HT_.out (by kernel_rfl)) (by decide) (fun K hK => ?_)
                  refine goes_ Tryd.func35 (by kernel_rfl) rfl #[.agg #[.slice Ao31 t413.length co31], .agg #[.slice Ao48 t435.length co48]] (by rfl) rfl rfl (by (try simp only [List.map_toArray, List.map_cons, List.map_nil]); first | done | rfl | (simp only [List.length_drop, List.length_take]; rfl)) ?_
                  with_reducible refine (bitset_Set_Subset.calls kj4 _ _ t413 _ _ t435 t438 _ ?side1 ?side2 ?side3 ?side4 A26.out).mono ?_
                  (case side1 => repeat (first | exact (Kd.V_reads' HO415.out).2.2 | (with_reducible refine Kd.C_alloc ?_ _) | (with_reducible refine Kd.C_drewN ?_ _) | (with_reducible refine Kd.C_drew ?_)))
                  (case side2 => exact (Kd.V_reads' HO415.out).2.1)
                  (case side3 => repeat (first | exact (Kd.V_reads' HO437.out).2.2 | (with_reducible refine Kd.C_alloc ?_ _) | (with_reducible refine Kd.C_drewN ?_ _) | (with_reducible refine Kd.C_drew ?_)))
                  (case side4 => exact (Kd.V_reads' HO437.out).2.1)
                  rintro e w49 ⟨rfl, hb⟩
                  refine ⟨_, rfl, ?_⟩
                  have n0_ := Aside0.mk (Kd.V_below (by (with_reducible repeat (first | apply Kd.V_alloc | apply Kd.V_drewN | apply Kd.V_drew)); exact HO415.out) hb)
                  have n1_ := Aside0.mk (Kd.V_below (by (with_reducible repeat (first | apply Kd.V_alloc | apply Kd.V_drewN | apply Kd.V_drew)); exact HO418.out) hb)
                  have n2_ := Aside0.mk (Kd.V_below (by (with_reducible repeat (first | apply Kd.V_alloc | apply Kd.V_drewN | apply Kd.V_drew)); exact HO423.out) hb)
                  have n3_ := Aside0.mk (Kd.V_below (by (with_reducible repeat (first | apply Kd.V_alloc | apply Kd.V_drewN | apply Kd.V_drew)); exact HO426.out) hb)
                  have n4_ := Aside0.mk (Kd.R_below (by (with_reducible repeat (first | apply Kd.R_alloc | apply Kd.R_drewN | apply Kd.R_drew)); exact HO432.out) hb)
                  have n5_ := Aside0.mk (Kd.V_below (by (with_reducible repeat (first | apply Kd.V_alloc | apply Kd.V_drewN | apply Kd.V_drew)); exact HO437.out) hb)
                  have n6_ := Aside0.mk (blk_below (g := gb419) (o := .cells #[.slice Ao31 t413.length co31] 27 (0, 0)) (by (with_reducible repeat (first | refine blk_drewN ?_ _ | refine blk_drew ?_ | refine blk_alloc ?_ _)); exact BK419.out) hb)
                  have n7_ := Aside0.mk (blk_below (g := gb420) (o := .cells #[.slice Ao34 t416.length co34] 27 (0, 0)) (by (with_reducible repeat (first | refine blk_drewN ?_ _ | refine blk_drew ?_ | refine blk_alloc ?_ _)); exact BK420.out) hb)
                  have n8_ := Aside0.mk (below_step (by repeat (first | (with_reducible first | exact HB.out | apply below_alloc | apply pw_below_drewN | apply below_drew1 | refine below_set ?_ GE419.out | refine below_set ?_ GE420.out) | exact HB.out)) hb)
                  clear HO415
                  clear HO418
                  clear HO423
                  clear HO426
                  clear HO432
                  clear HO437
                  clear BK419
                  clear BK420
                  clear HB
                  have HO415 := n0_
                  have HO418 := n1_
                  have HO423 := n2_
                  have HO426 := n3_
                  have HO432 := n4_
                  have HO437 := n5_
                  have BK419 := n6_
                  have BK420 := n7_
                  have HB := n8_
                  clear n0_ n1_ n2_ n3_ n4_ n5_ n6_ n7_ n8_
                  (try clear hb)
                  (try clear hb2)
                  (try clear hk)
                  (try clear hi)
                  refine hK.out _ _ ⟨(blk_cell BK419.out 0).trans rfl, (blk_cell BK420.out 0).trans rfl⟩ (fun hHeld => ?_)
                  clear hK K
                  refine norm_ (a' := ?_) ?_ ?_
                  rotate_left
                  · show Act.put _ (some 60) _ = _
                    simp only [Act.put, List.setIfInBounds_toArray, List.set_cons_zero, List.set_cons_succ, i64_w, i32_w]
                    rfl
                  refine pure_ (i := 34) (N := some 61) (v := ?_) (a' := ?_) #[true, true, true, true, true, true, true, true, true, true, true, true, true, true, true, true, true, true, true, true, true, true, true, true, true, true, true, true, true, true, true, true, true, true, true, false] rfl rfl (any_of HT_.out (by kernel_rfl)) (fun _ _ _ h => h) (Or.inl ⟨by rfl, ?_⟩) ?_ ?_
                  rotate_left
                  · intro w'
                    go_simp
                    with_reducible rfl
                  rotate_left
                  · simp only [Act.put, List.setIfInBounds_toArray, List.set_cons_zero, List.set_cons_succ, i64_w, i32_w]
                    rfl
                  refine pure_ (i := 35) (N := some 4) (v := ?_) (a' := ?_) #[true, true, true, true, true, true, true, true, true, true, true, true, true, true, true, true, true, true, true, true, true, true, true, true, true, true, true, true, true, true, true, true, true, true, true, true] rfl rfl (any_of HT_.out (by kernel_rfl)) (fun _ _ _ h => h) (Or.inl ⟨by rfl, ?_⟩) ?_ ?_
                  rotate_left
                  · intro w'
                    go_simp
                    with_reducible rfl
                  rotate_left
                  · simp only [Act.put, List.setIfInBounds_toArray, List.set_cons_zero, List.set_cons_succ, i64_w, i32_w]
                    rfl
                  refine done_ (done_of HT_.out (by kernel_rfl)) ?_
                  try go_wp2
                  go_ret
                  exact ⟨by first | rfl | (simp [errW_none, errW_some] <;> rfl) | (simp [*, errW_none, errW_some] <;> rfl), by repeat (first | (with_reducible first | exact HB.out | apply below_alloc | apply pw_below_drewN | apply below_drew1 | refine below_set ?_ GE419.out | refine below_set ?_ GE420.out) | exact HB.out)⟩
                · replace c24 := Bool.eq_false_iff.mpr c24
                  subst c24
                  have H1 : (some false) = some r := by rw [if_neg (show ¬ (false = true) by decide)] at H; exact H
                  cases (Option.some.inj H1).trans HRT.out
              · replace c22 := Bool.eq_false_iff.mpr c22
                subst c22
                have H1 : (some false) = some r := by rw [if_neg (show ¬ (false = true) by decide)] at H; exact H
                cases (Option.some.inj H1).trans HRT.out
            · rw [if_neg c20] at H
              have c20b0 : (t429 == ((t430.length : Int) == 0)) = false := by simpa using c20
              (try (have c20b1 : decide (t429 = ((t430.length : Int) == 0)) = false := by simpa using c20))
              (try (have c20b2 : (t429 == ((t430.length : Int) == 0)) = false := by simpa using c20))
              (try (have c20b3 : ¬ (t429 = ((t430.length : Int) == 0)) := by simpa using c20))
              clear c20
              exact absurd ((Option.some.inj H).trans HRT.out) (by decide)
          · rw [if_neg c17] at H
            have c17b0 : (t427 == t428) = false := by simpa using c17
            (try (have c17b1 : decide (t427 = t428) = false := by simpa using c17))
            (try (have c17b2 : (t427 == t428) = false := by simpa using c17))
            (try (have c17b3 : ¬ (t427 = t428) := by simpa using c17))
            clear c17
            exact absurd ((Option.some.inj H).trans HRT.out) (by decide)
  · replace c4 := Bool.eq_false_iff.mpr c4
    subst c4
    have H1 : (some false) = some r := by rw [if_neg (show ¬ (false = true) by decide)] at H; exact H
    cases (Option.some.inj H1).trans HRT.out
end Go.Proofs.YtoobapkccogdhaaDoor.PX
/- Equal and Subset in plain words. -/
namespace Go.Proofs.YtoobapkccogdhaaDoor.Pure
open Go.RowKit Go.Proofs.YtoobapkccogdhaaDoor.PX Go.Proofs.YtoobapkccogdhaaDoorW.PrintWords Go.Proofs.YtoobapkccogdhaaDoorW.PrintLast Go.Proofs.YtoobapkccogdhaaDoorW.PrintMore
set_option linter.unusedVariables false
theorem BitsetComparisons (a b : List Int) (_ : ∀ x ∈ a, True) (_ : ∀ x ∈ b, True) : ∃ k, tricklelaw04_BitsetComparisons.f k a b = some true := by
  refine Ev.rounds ?_
  refine Ev.congr (fun k => by rw [tricklelaw04_BitsetComparisons.f]) (Ev.bind awake_ev (Ev.pos rfl (Ev.const (small_eq a) ?_)))
  by_cases ha : a.length ≤ 60
  · refine Ev.pos (decide_eq_true ha) (Ev.const (small_eq b) ?_)
    refine Ev.step (fun k => by rw [tricklelaw04_BitsetComparisons.j0]) ?_
    by_cases hb : b.length ≤ 60
    · refine Ev.neg (by rw [decide_eq_true hb]; decide) ?_
      obtain ⟨s, s1, s2, s3⟩ := of_ev a (by omega)
      obtain ⟨t, t1, t2, t3⟩ := of_ev b (by omega)
      obtain ⟨x, x1, x2, x3⟩ := rof_ev a (by omega)
      obtain ⟨y, y1, y2, y3⟩ := rof_ev b (by omega)
      have hs : ∀ z, z ∈ elF 0 s ↔ z ∈ x := fun z => (s3 z).trans (x3 z).symm
      have ht : ∀ z, z ∈ elF 0 t ↔ z ∈ y := fun z => (t3 z).trans (y3 z).symm
      have hx := srt_len x2
      have hy := srt_len y2
      have es : elF 0 s = x := srt_eq (srt_el s2.len) x2 hs
      have et : elF 0 t = y := srt_eq (srt_el t2.len) y2 ht
      obtain ⟨u, u1, u2, u3⟩ := union_ev s2 t2
      obtain ⟨n, n1, n2, n3⟩ := rminus_ev x2 y (by omega)
      refine Ev.bind s1 (Ev.bind t1 (Ev.bind x1 (Ev.bind y1 (Ev.bind (equal_ev s2 t2) (Ev.bind (requal_ev x y (by omega)) ?_)))))
      refine Ev.pos (by rw [es, et, beq_iff_eq]) (Ev.bind (subset_ev s2 t2) (Ev.bind n1 ?_))
      refine Ev.pos ?_ (Ev.bind (equal_ev s2 s2) (Ev.pos (decide_eq_true rfl) (Ev.bind (subset_ev s2 s2) (Ev.pos (decide_eq_true (fun z hz => hz)) (Ev.bind u1 (Ev.bind (subset_ev s2 u2) (Ev.cast (Ev.now _) (decide_eq_true fun z hz => (u3 z).2 (Or.inl hz)))))))))
      rw [beq_iff_eq]
      by_cases hn : n = []
      · rw [hn, decide_eq_true]
        · rfl
        · intro z hz
          by_cases h : z ∈ elF 0 t
          · exact h
          · have : z ∈ n := (n3 z).2 ⟨(hs z).1 hz, fun k => h ((ht z).2 k)⟩
            rw [hn] at this; cases this
      · have hp := List.length_pos_iff.mpr hn
        have e : ((n.length : Int) == 0) = false := by
          rw [beq_eq_false_iff_ne]; omega
        rw [e, decide_eq_false]
        intro h
        obtain ⟨z, hz⟩ := List.exists_mem_of_ne_nil n hn
        have := (n3 z).1 hz
        exact this.2 ((ht z).1 (h z ((hs z).2 this.1)))
    · exact Ev.pos (by rw [decide_eq_false hb]; rfl) (Ev.now _)
  · refine Ev.neg (by rw [decide_eq_false ha]; decide) ?_
    exact Ev.step (fun k => by rw [tricklelaw04_BitsetComparisons.j0]) (Ev.pos rfl (Ev.now _))
end Go.Proofs.YtoobapkccogdhaaDoor.Pure
