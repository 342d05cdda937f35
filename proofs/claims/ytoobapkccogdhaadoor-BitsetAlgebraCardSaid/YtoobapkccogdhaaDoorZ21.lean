/- Parts of the proof, merged in build order: MAlgebra. -/
import Derived.Test.YtoobapkccogdhaaDoorZ1
import Derived.Test.YtoobapkccogdhaaDoorZ2
import Derived.Test.YtoobapkccogdhaaDoorZ4
import Derived.Test.YtoobapkccogdhaaDoorZ8
import Derived.Test.YtoobapkccogdhaaDoorZ7
-- Written by a program of this session (wip/xprint.py, over the kit's print tool). Lean checks it.
namespace Go.Proofs.YtoobapkccogdhaaDoor.PX
open Go.RowKit Go.Proofs.YtoobapkccogdhaaDoorW.PrintWords Go.Proofs.YtoobapkccogdhaaDoorW.PrintLast Go.Proofs.YtoobapkccogdhaaDoorW.PrintMore
attribute [local go_sem] max2_int min2_int max_two min_two max_three min_three max_four min_four   -- for this text's walks alone
set_option linter.unusedVariables false
set_option linter.unusedSimpArgs false

/-! ### tricklelaw04_BitsetAlgebra: function 10 -/
def tricklelaw04_BitsetAlgebra.j0 : Nat → List Int → List Int → List Int → Bool → Option (Bool)
  | 0, _, _, _, _ => none
  | k + 1, x0, x1, x2, x24 => if x24 = true then (some true) else ((bitset_Of.f k x0).bind fun t443 => ((bitset_Of.f k x1).bind fun t446 => ((bitset_Of.f k x2).bind fun t449 => ((bitset_Set_Union.f k t446 t449).bind fun t455 => ((bitset_Set_Minus.f k t443 t455).bind fun t458 => ((bitset_Set_Minus.f k t443 t446).bind fun t461 => ((bitset_Set_Minus.f k t443 t449).bind fun t464 => ((bitset_Set_Intersect.f k t461 t464).bind fun t467 => ((bitset_Set_Equal.f k t458 t467).bind fun t470 => (if t470 = true then ((bitset_Set_Union.f k t446 t449).bind fun t471 => ((bitset_Set_Intersect.f k t443 t471).bind fun t474 => ((bitset_Set_Intersect.f k t443 t446).bind fun t477 => ((bitset_Set_Intersect.f k t443 t449).bind fun t480 => ((bitset_Set_Union.f k t477 t480).bind fun t483 => ((bitset_Set_Equal.f k t474 t483).bind fun t486 => (if t486 = true then ((bitset_Set_Minus.f k t443 t446).bind fun t487 => ((bitset_Set_Len.f k t487).bind fun t490 => ((bitset_Set_Intersect.f k t443 t446).bind fun t491 => ((bitset_Set_Len.f k t491).bind fun t494 => ((bitset_Set_Len.f k t443).bind fun t495 => (if (wrap64 (t490 + t494)) = t495 then ((bitset_Set_Subset.f k t443 t446).bind fun t496 => ((bitset_Set_Minus.f k t443 t446).bind fun t497 => ((bitset_Set_Len.f k t497).bind fun t500 => (if (t496 == (t500 == 0)) = true then ((bitset_Set_Union.f k t443 t446).bind fun t501 => ((bitset_Set_Union.f k t446 t443).bind fun t504 => ((bitset_Set_Equal.f k t501 t504).bind fun t507 => (some t507)))) else (some false))))) else (some false))))))) else (some false)))))))) else (some false)))))))))))
def tricklelaw04_BitsetAlgebra.f (k : Nat) (l0 : List Int) (l1 : List Int) (l2 : List Int) : Option (Bool) := (tricklelaw04_awake.f k).bind fun t439 => (if t439 = true then ((trickleref04_Small.f l0).bind fun t440 => (if t440 = true then ((trickleref04_Small.f l1).bind fun t441 => (if t441 = true then ((trickleref04_Small.f l2).bind fun t442 => (tricklelaw04_BitsetAlgebra.j0 k l0 l1 l2 (!t442))) else (tricklelaw04_BitsetAlgebra.j0 k l0 l1 l2 true))) else (tricklelaw04_BitsetAlgebra.j0 k l0 l1 l2 true))) else (some false))
def tricklelaw04_BitsetAlgebra.T6 : Bool × List (List Nat × List Nat) := (true, [([], []), ([], []), ([], []), ([1, 2], [1, 2]), ([0, 3, 3], [0, 3]), ([], []), ([], []), ([5, 6, 4], [5, 6]), ([], []), ([], []), ([8, 9, 7], [8, 9]), ([7, 10, 10], [7, 10]), ([4, 11, 11], [4, 11]), ([12, 12], [12]), ([13], [13]), ([13], [13]), ([13], [13]), ([15, 16, 13, 13], [13, 15, 16]), ([14, 17, 17, 13], [13, 14, 17]), ([13], [13]), ([13], [13]), ([19, 20, 18, 13], [13, 19, 20]), ([13], [13]), ([13], [13]), ([22, 23, 21, 13], [13, 22, 23]), ([21, 24, 24, 13], [13, 21, 24]), ([18, 25, 25, 13], [13, 18, 25]), ([13, 26], [13, 26]), ([27, 26], [27]), ([28], [28]), ([28], [28]), ([29, 30, 28, 28], [28, 29, 30]), ([31, 31, 28], [28, 31]), ([28], [28]), ([28], [28]), ([33, 34, 32, 28], [28, 33, 34]), ([35, 35, 28], [28, 35]), ([32, 36, 28], [28, 32, 36]), ([28], [28]), ([38, 36, 28], [28, 38]), ([37, 39, 28], [28, 37, 39]), ([28, 40], [28, 40]), ([41, 39], [41]), ([42], [42]), ([42], [42]), ([43, 44, 42, 42], [42, 43, 44]), ([42], [42]), ([42], [42]), ([46, 47, 45, 42], [42, 46, 47]), ([48, 48, 42], [42, 48]), ([49, 42], [42, 49]), ([45, 50, 42], [42, 45, 50]), ([42, 51], [42, 51]), ([52, 49], [52]), ([53], [53]), ([53], [53]), ([54, 55, 53, 53], [53, 54, 55]), ([53], [53]), ([53], [53]), ([57, 58, 56, 53], [53, 57, 58]), ([56, 59, 59, 53], [53, 56, 59]), ([53, 60], [53, 60]), ([61, 60, 0, 1, 2, 3, 4, 5, 6, 7, 8, 9, 10, 11, 12, 13, 14, 15, 16, 17, 18, 19, 20, 21, 22, 23, 24, 25, 26, 27, 28, 29, 30, 31, 32, 33, 34, 35, 36, 37, 38, 39, 40, 41, 42, 43, 44, 45, 46, 47, 48, 49, 50, 51, 52, 53, 54, 55, 56, 57, 58, 59, 60, 61], [61])])
def tricklelaw04_BitsetAlgebra.B6 : List Nat := [0, 0, 0, 6, 15, 0, 0, 127, 0, 0, 1023, 2047, 4095, 8191, 16383, 16383, 16383, 114687, 262143, 16383, 16383, 2097151, 16383, 16383, 16777215, 33554431, 67108863, 134217727, 268435455, 536870911, 536870911, 2147483647, 4294967295, 536870911, 536870911, 34359738367, 68719476735, 137438953471, 536870911, 412316860415, 1099511627775, 2199023255551, 4398046511103, 8796093022207, 8796093022207, 35184372088831, 8796093022207, 8796093022207, 281474976710655, 562949953421311, 1125899906842623, 2251799813685247, 4503599627370495, 9007199254740991, 18014398509481983, 18014398509481983, 72057594037927935, 18014398509481983, 18014398509481983, 576460752303423487, 1152921504606846975, 2305843009213693951, 4611686018427387903]
theorem tricklelaw04_BitsetAlgebra.tab6 : rtab .any (opsOf Tryd.f10 6) = tricklelaw04_BitsetAlgebra.T6 := by kernel_rfl
theorem tricklelaw04_BitsetAlgebra.bits6 : waitsOk tricklelaw04_BitsetAlgebra.T6.2 tricklelaw04_BitsetAlgebra.B6 = true := by kernel_rfl
set_option maxHeartbeats 8000000 in
set_option maxRecDepth 100000 in
theorem tricklelaw04_BitsetAlgebra.calls (k : Nat) (A0 : Option Addr) (c0 : Nat) (l0 : List Int) (A1 : Option Addr) (c1 : Nat) (l1 : List Int) (A2 : Option Addr) (c2 : Nat) (l2 : List Int) (r : Bool) (hrt : r = true) (w : World) (hr0 : Kd.C (Kd.int .i64) w A0 l0.length l0) (hc0 : l0.length ≤ c0) (hr1 : Kd.C (Kd.int .i64) w A1 l1.length l1) (hc1 : l1.length ≤ c1) (hr2 : Kd.C (Kd.int .i64) w A2 l2.length l2) (hc2 : l2.length ≤ c2) (hG : GW w) (h : tricklelaw04_BitsetAlgebra.f k l0 l1 l2 = some r) :
    Calls Tryd.prog 10 #[.slice A0 l0.length c0, .slice A1 l1.length c1, .slice A2 l2.length c2] w fun e w' => e = .returned (.bool r) ∧ Below w.heap.size w w' := by
  have HRT := Aside0.mk hrt
  clear hrt
  have hu27 := Tryd.underlying27
  have HG := Aside0.mk hG
  clear hG
  have HR0 := Aside0.mk hr0
  have HC0 := Aside0.mk hc0
  clear hr0 hc0
  have HR1 := Aside0.mk hr1
  have HC1 := Aside0.mk hc1
  clear hr1 hc1
  have HR2 := Aside0.mk hr2
  have HC2 := Aside0.mk hc2
  clear hr2 hc2
  have HB := Aside0.mk (Below.refl w.heap.size w)
  have H : ((tricklelaw04_awake.f k).bind fun t439 => (if t439 = true then ((trickleref04_Small.f l0).bind fun t440 => (if t440 = true then ((trickleref04_Small.f l1).bind fun t441 => (if t441 = true then ((trickleref04_Small.f l2).bind fun t442 => (tricklelaw04_BitsetAlgebra.j0 k l0 l1 l2 (!t442))) else (tricklelaw04_BitsetAlgebra.j0 k l0 l1 l2 true))) else (tricklelaw04_BitsetAlgebra.j0 k l0 l1 l2 true))) else (some false))) = some r := h
  clear h
  replace H := Option.bind_eq_some_iff.mp H
  obtain ⟨t439, A40, H⟩ := H
  replace H : (if t439 = true then ((trickleref04_Small.f l0).bind fun t440 => (if t440 = true then ((trickleref04_Small.f l1).bind fun t441 => (if t441 = true then ((trickleref04_Small.f l2).bind fun t442 => (tricklelaw04_BitsetAlgebra.j0 k l0 l1 l2 (!t442))) else (tricklelaw04_BitsetAlgebra.j0 k l0 l1 l2 true))) else (tricklelaw04_BitsetAlgebra.j0 k l0 l1 l2 true))) else (some false)) = some r := H
  have A4 := Aside0.mk A40
  clear A40
  by_cases c5 : t439 = true
  · subst c5
    have H1 : ((trickleref04_Small.f l0).bind fun t440 => (if t440 = true then ((trickleref04_Small.f l1).bind fun t441 => (if t441 = true then ((trickleref04_Small.f l2).bind fun t442 => (tricklelaw04_BitsetAlgebra.j0 k l0 l1 l2 (!t442))) else (tricklelaw04_BitsetAlgebra.j0 k l0 l1 l2 true))) else (tricklelaw04_BitsetAlgebra.j0 k l0 l1 l2 true))) = some r := by rw [if_pos rfl] at H; exact H
    clear H
    have H := H1
    clear H1
    have HC6 := Aside0.mk H
    clear H
    go_enter Tryd.func10, Tryd.ntmps10
    go_upto_region 3 with (first | ((with_reducible refine gate_callee (f := 11) rfl ?_); refine goesL_ (some 10) rfl rfl Tryd.func11 (by kernel_rfl) rfl #[] rfl (by (try simp only [List.map_toArray, List.map_cons, List.map_nil]); first | done | rfl | (simp only [List.length_drop, List.length_take]; rfl)) ?_; (with_reducible refine (tricklelaw04_awake.calls k  true _ ?side1 A4.out).mono ?_); (case side1 => refine GW.below HG.out ?_; repeat (first | (with_reducible first | exact HB.out | apply below_alloc | apply pw_below_drewN | apply below_drew1) | exact HB.out)); rintro e w7 ⟨rfl, hb⟩; refine ⟨_, rfl, ?_⟩; have n0_ := Aside0.mk (below_step (by repeat (first | (with_reducible first | exact HB.out | apply below_alloc | apply pw_below_drewN | apply below_drew1) | exact HB.out)) hb); clear HB; have HB := n0_; clear n0_; (try clear hb); (try clear hb2); (try clear hk); (try clear hi)))
    (try simp only [Act.put, List.setIfInBounds_toArray, List.set_cons_zero, List.set_cons_succ])
    go_cut [24] (fun v24 wc => ∃ (kq : Nat) (x24_5 : Bool), v24 = .bool x24_5 ∧ Aside0 (tricklelaw04_BitsetAlgebra.j0 kq l0 l1 l2 x24_5 = some r) ∧ Aside0 (kq ≤ k) ∧ Aside0 (Below w.heap.size w wc))
    case first =>
      have H := HC6.out
      clear HC6
      replace H := Option.bind_eq_some_iff.mp H
      obtain ⟨t440, A80, H⟩ := H
      replace H : (if t440 = true then ((trickleref04_Small.f l1).bind fun t441 => (if t441 = true then ((trickleref04_Small.f l2).bind fun t442 => (tricklelaw04_BitsetAlgebra.j0 k l0 l1 l2 (!t442))) else (tricklelaw04_BitsetAlgebra.j0 k l0 l1 l2 true))) else (tricklelaw04_BitsetAlgebra.j0 k l0 l1 l2 true)) = some r := H
      have A8 := Aside0.mk A80
      clear A80
      by_cases c9 : t440 = true
      · subst c9
        have H1 : ((trickleref04_Small.f l1).bind fun t441 => (if t441 = true then ((trickleref04_Small.f l2).bind fun t442 => (tricklelaw04_BitsetAlgebra.j0 k l0 l1 l2 (!t442))) else (tricklelaw04_BitsetAlgebra.j0 k l0 l1 l2 true))) = some r := by rw [if_pos rfl] at H; exact H
        clear H
        have H := H1
        clear H1
        replace H := Option.bind_eq_some_iff.mp H
        obtain ⟨t441, A100, H⟩ := H
        replace H : (if t441 = true then ((trickleref04_Small.f l2).bind fun t442 => (tricklelaw04_BitsetAlgebra.j0 k l0 l1 l2 (!t442))) else (tricklelaw04_BitsetAlgebra.j0 k l0 l1 l2 true)) = some r := H
        have A10 := Aside0.mk A100
        clear A100
        by_cases c11 : t441 = true
        · subst c11
          have H1 : ((trickleref04_Small.f l2).bind fun t442 => (tricklelaw04_BitsetAlgebra.j0 k l0 l1 l2 (!t442))) = some r := by rw [if_pos rfl] at H; exact H
          clear H
          have H := H1
          clear H1
          replace H := Option.bind_eq_some_iff.mp H
          obtain ⟨t442, A120, H⟩ := H
          replace H : (tricklelaw04_BitsetAlgebra.j0 k l0 l1 l2 (!t442)) = some r := H
          have A12 := Aside0.mk A120
          clear A120
          have H' := Aside0.mk H
          clear H
          go_wp2_with (first | ((with_reducible refine gate_callee (f := 12) rfl ?_); refine goesL_ (some 13) rfl rfl Tryd.func12 (by kernel_rfl) rfl #[.slice A0 l0.length c0] rfl (by (try simp only [List.map_toArray, List.map_cons, List.map_nil]); first | done | rfl | (simp only [List.length_drop, List.length_take]; rfl)) ?_; (with_reducible refine (trickleref04_Small.calls _ _ l0 true _ ?side1 ?side2 A8.out).mono ?_); (case side1 => repeat (first | exact (Kd.C_below HR0.out HB.out) | (with_reducible refine Kd.C_alloc ?_ _) | (with_reducible refine Kd.C_drewN ?_ _) | (with_reducible refine Kd.C_drew ?_))); (case side2 => exact HC0.out); rintro e w' ⟨rfl, ⟨nd, rfl⟩⟩; refine ⟨_, rfl, ?_⟩) | (go_at_call 12; (with_reducible refine (trickleref04_Small.calls _ _ l1 true _ ?side1 ?side2 A10.out).mono ?_); (case side1 => repeat (first | exact (Kd.C_below HR1.out (by repeat (first | (with_reducible first | exact HB.out | apply below_alloc | apply pw_below_drewN | apply below_drew1) | exact HB.out))) | (with_reducible refine Kd.C_alloc ?_ _) | (with_reducible refine Kd.C_drewN ?_ _) | (with_reducible refine Kd.C_drew ?_))); (case side2 => exact HC1.out); rintro e w' ⟨rfl, ⟨nd, rfl⟩⟩) | (go_at_call 12; (with_reducible refine (trickleref04_Small.calls _ _ l2 t442 _ ?side1 ?side2 A12.out).mono ?_); (case side1 => repeat (first | exact (Kd.C_below HR2.out (by repeat (first | (with_reducible first | exact HB.out | apply below_alloc | apply pw_below_drewN | apply below_drew1) | exact HB.out))) | (with_reducible refine Kd.C_alloc ?_ _) | (with_reducible refine Kd.C_drewN ?_ _) | (with_reducible refine Kd.C_drew ?_))); (case side2 => exact HC2.out); rintro e w' ⟨rfl, ⟨nd, rfl⟩⟩))
          go_meet
          case rel => exact ⟨_, (!t442), (by first | rfl | (simp; done) | (simp [*]; done)), H', ⟨by first | omega | exact Nat.le_refl _⟩, ⟨by repeat (first | (with_reducible first | exact HB.out | apply below_alloc | apply pw_below_drewN | apply below_drew1) | exact HB.out)⟩⟩
        · replace c11 := Bool.eq_false_iff.mpr c11
          subst c11
          have H1 : (tricklelaw04_BitsetAlgebra.j0 k l0 l1 l2 true) = some r := by rw [if_neg (show ¬ (false = true) by decide)] at H; exact H
          clear H
          have H := H1
          clear H1
          have H' := Aside0.mk H
          clear H
          go_wp2_with (first | ((with_reducible refine gate_callee (f := 12) rfl ?_); refine goesL_ (some 13) rfl rfl Tryd.func12 (by kernel_rfl) rfl #[.slice A0 l0.length c0] rfl (by (try simp only [List.map_toArray, List.map_cons, List.map_nil]); first | done | rfl | (simp only [List.length_drop, List.length_take]; rfl)) ?_; (with_reducible refine (trickleref04_Small.calls _ _ l0 true _ ?side1 ?side2 A8.out).mono ?_); (case side1 => repeat (first | exact (Kd.C_below HR0.out HB.out) | (with_reducible refine Kd.C_alloc ?_ _) | (with_reducible refine Kd.C_drewN ?_ _) | (with_reducible refine Kd.C_drew ?_))); (case side2 => exact HC0.out); rintro e w' ⟨rfl, ⟨nd, rfl⟩⟩; refine ⟨_, rfl, ?_⟩) | (go_at_call 12; (with_reducible refine (trickleref04_Small.calls _ _ l1 false _ ?side1 ?side2 A10.out).mono ?_); (case side1 => repeat (first | exact (Kd.C_below HR1.out (by repeat (first | (with_reducible first | exact HB.out | apply below_alloc | apply pw_below_drewN | apply below_drew1) | exact HB.out))) | (with_reducible refine Kd.C_alloc ?_ _) | (with_reducible refine Kd.C_drewN ?_ _) | (with_reducible refine Kd.C_drew ?_))); (case side2 => exact HC1.out); rintro e w' ⟨rfl, ⟨nd, rfl⟩⟩))
          go_meet
          case rel => exact ⟨_, (true), (by first | rfl | (simp; done) | (simp [*]; done)), H', ⟨by first | omega | exact Nat.le_refl _⟩, ⟨by repeat (first | (with_reducible first | exact HB.out | apply below_alloc | apply pw_below_drewN | apply below_drew1) | exact HB.out)⟩⟩
      · replace c9 := Bool.eq_false_iff.mpr c9
        subst c9
        have H1 : (tricklelaw04_BitsetAlgebra.j0 k l0 l1 l2 true) = some r := by rw [if_neg (show ¬ (false = true) by decide)] at H; exact H
        clear H
        have H := H1
        clear H1
        have H' := Aside0.mk H
        clear H
        go_wp2_with (first | ((with_reducible refine gate_callee (f := 12) rfl ?_); refine goesL_ (some 13) rfl rfl Tryd.func12 (by kernel_rfl) rfl #[.slice A0 l0.length c0] rfl (by (try simp only [List.map_toArray, List.map_cons, List.map_nil]); first | done | rfl | (simp only [List.length_drop, List.length_take]; rfl)) ?_; (with_reducible refine (trickleref04_Small.calls _ _ l0 false _ ?side1 ?side2 A8.out).mono ?_); (case side1 => repeat (first | exact (Kd.C_below HR0.out HB.out) | (with_reducible refine Kd.C_alloc ?_ _) | (with_reducible refine Kd.C_drewN ?_ _) | (with_reducible refine Kd.C_drew ?_))); (case side2 => exact HC0.out); rintro e w' ⟨rfl, ⟨nd, rfl⟩⟩; refine ⟨_, rfl, ?_⟩))
        go_meet
        case rel => exact ⟨_, (true), (by first | rfl | (simp; done) | (simp [*]; done)), H', ⟨by first | omega | exact Nat.le_refl _⟩, ⟨by repeat (first | (with_reducible first | exact HB.out | apply below_alloc | apply pw_below_drewN | apply below_drew1) | exact HB.out)⟩⟩
    case rest =>
      clear HC6
      try clear c1
      try clear c2
      try clear p2
      try clear c5
      try clear c9
      try clear c10
      try clear c11
      try clear c12
      obtain ⟨kq, x24_5, rfl, HA, HJ5, HB⟩ := hcut
      cases kq with
      | zero => exact absurd HA.out (by simp [tricklelaw04_BitsetAlgebra.j0])
      | succ kj5 =>
        have H := HA.out
        clear HA
        simp only [tricklelaw04_BitsetAlgebra.j0] at H
        by_cases c13 : x24_5 = true
        · subst c13
          have H1 : (some true) = some r := by rw [if_pos rfl] at H; exact H
          clear H
          have H := H1
          clear H1
          obtain rfl := Option.some.inj H
          go_wp2
          go_ret
          exact ⟨by first | rfl | (simp [errW_none, errW_some] <;> rfl) | (simp [*, errW_none, errW_some] <;> rfl), by repeat (first | (with_reducible first | exact HB.out | apply below_alloc | apply pw_below_drewN | apply below_drew1) | exact HB.out)⟩
        · replace c13 := Bool.eq_false_iff.mpr c13
          subst c13
          have H1 : ((bitset_Of.f kj5 l0).bind fun t443 => ((bitset_Of.f kj5 l1).bind fun t446 => ((bitset_Of.f kj5 l2).bind fun t449 => ((bitset_Set_Union.f kj5 t446 t449).bind fun t455 => ((bitset_Set_Minus.f kj5 t443 t455).bind fun t458 => ((bitset_Set_Minus.f kj5 t443 t446).bind fun t461 => ((bitset_Set_Minus.f kj5 t443 t449).bind fun t464 => ((bitset_Set_Intersect.f kj5 t461 t464).bind fun t467 => ((bitset_Set_Equal.f kj5 t458 t467).bind fun t470 => (if t470 = true then ((bitset_Set_Union.f kj5 t446 t449).bind fun t471 => ((bitset_Set_Intersect.f kj5 t443 t471).bind fun t474 => ((bitset_Set_Intersect.f kj5 t443 t446).bind fun t477 => ((bitset_Set_Intersect.f kj5 t443 t449).bind fun t480 => ((bitset_Set_Union.f kj5 t477 t480).bind fun t483 => ((bitset_Set_Equal.f kj5 t474 t483).bind fun t486 => (if t486 = true then ((bitset_Set_Minus.f kj5 t443 t446).bind fun t487 => ((bitset_Set_Len.f kj5 t487).bind fun t490 => ((bitset_Set_Intersect.f kj5 t443 t446).bind fun t491 => ((bitset_Set_Len.f kj5 t491).bind fun t494 => ((bitset_Set_Len.f kj5 t443).bind fun t495 => (if (wrap64 (t490 + t494)) = t495 then ((bitset_Set_Subset.f kj5 t443 t446).bind fun t496 => ((bitset_Set_Minus.f kj5 t443 t446).bind fun t497 => ((bitset_Set_Len.f kj5 t497).bind fun t500 => (if (t496 == (t500 == 0)) = true then ((bitset_Set_Union.f kj5 t443 t446).bind fun t501 => ((bitset_Set_Union.f kj5 t446 t443).bind fun t504 => ((bitset_Set_Equal.f kj5 t501 t504).bind fun t507 => (some t507)))) else (some false))))) else (some false))))))) else (some false)))))))) else (some false))))))))))) = some r := by rw [if_neg (show ¬ (false = true) by decide)] at H; exact H
          clear H
          have H := H1
          clear H1
          replace H := Option.bind_eq_some_iff.mp H
          obtain ⟨t443, A140, H⟩ := H
          replace H : ((bitset_Of.f kj5 l1).bind fun t446 => ((bitset_Of.f kj5 l2).bind fun t449 => ((bitset_Set_Union.f kj5 t446 t449).bind fun t455 => ((bitset_Set_Minus.f kj5 t443 t455).bind fun t458 => ((bitset_Set_Minus.f kj5 t443 t446).bind fun t461 => ((bitset_Set_Minus.f kj5 t443 t449).bind fun t464 => ((bitset_Set_Intersect.f kj5 t461 t464).bind fun t467 => ((bitset_Set_Equal.f kj5 t458 t467).bind fun t470 => (if t470 = true then ((bitset_Set_Union.f kj5 t446 t449).bind fun t471 => ((bitset_Set_Intersect.f kj5 t443 t471).bind fun t474 => ((bitset_Set_Intersect.f kj5 t443 t446).bind fun t477 => ((bitset_Set_Intersect.f kj5 t443 t449).bind fun t480 => ((bitset_Set_Union.f kj5 t477 t480).bind fun t483 => ((bitset_Set_Equal.f kj5 t474 t483).bind fun t486 => (if t486 = true then ((bitset_Set_Minus.f kj5 t443 t446).bind fun t487 => ((bitset_Set_Len.f kj5 t487).bind fun t490 => ((bitset_Set_Intersect.f kj5 t443 t446).bind fun t491 => ((bitset_Set_Len.f kj5 t491).bind fun t494 => ((bitset_Set_Len.f kj5 t443).bind fun t495 => (if (wrap64 (t490 + t494)) = t495 then ((bitset_Set_Subset.f kj5 t443 t446).bind fun t496 => ((bitset_Set_Minus.f kj5 t443 t446).bind fun t497 => ((bitset_Set_Len.f kj5 t497).bind fun t500 => (if (t496 == (t500 == 0)) = true then ((bitset_Set_Union.f kj5 t443 t446).bind fun t501 => ((bitset_Set_Union.f kj5 t446 t443).bind fun t504 => ((bitset_Set_Equal.f kj5 t501 t504).bind fun t507 => (some t507)))) else (some false))))) else (some false))))))) else (some false)))))))) else (some false)))))))))) = some r := H
          have A14 := Aside0.mk A140
          clear A140
          replace H := Option.bind_eq_some_iff.mp H
          obtain ⟨t446, A150, H⟩ := H
          replace H : ((bitset_Of.f kj5 l2).bind fun t449 => ((bitset_Set_Union.f kj5 t446 t449).bind fun t455 => ((bitset_Set_Minus.f kj5 t443 t455).bind fun t458 => ((bitset_Set_Minus.f kj5 t443 t446).bind fun t461 => ((bitset_Set_Minus.f kj5 t443 t449).bind fun t464 => ((bitset_Set_Intersect.f kj5 t461 t464).bind fun t467 => ((bitset_Set_Equal.f kj5 t458 t467).bind fun t470 => (if t470 = true then ((bitset_Set_Union.f kj5 t446 t449).bind fun t471 => ((bitset_Set_Intersect.f kj5 t443 t471).bind fun t474 => ((bitset_Set_Intersect.f kj5 t443 t446).bind fun t477 => ((bitset_Set_Intersect.f kj5 t443 t449).bind fun t480 => ((bitset_Set_Union.f kj5 t477 t480).bind fun t483 => ((bitset_Set_Equal.f kj5 t474 t483).bind fun t486 => (if t486 = true then ((bitset_Set_Minus.f kj5 t443 t446).bind fun t487 => ((bitset_Set_Len.f kj5 t487).bind fun t490 => ((bitset_Set_Intersect.f kj5 t443 t446).bind fun t491 => ((bitset_Set_Len.f kj5 t491).bind fun t494 => ((bitset_Set_Len.f kj5 t443).bind fun t495 => (if (wrap64 (t490 + t494)) = t495 then ((bitset_Set_Subset.f kj5 t443 t446).bind fun t496 => ((bitset_Set_Minus.f kj5 t443 t446).bind fun t497 => ((bitset_Set_Len.f kj5 t497).bind fun t500 => (if (t496 == (t500 == 0)) = true then ((bitset_Set_Union.f kj5 t443 t446).bind fun t501 => ((bitset_Set_Union.f kj5 t446 t443).bind fun t504 => ((bitset_Set_Equal.f kj5 t501 t504).bind fun t507 => (some t507)))) else (some false))))) else (some false))))))) else (some false)))))))) else (some false))))))))) = some r := H
          have A15 := Aside0.mk A150
          clear A150
          replace H := Option.bind_eq_some_iff.mp H
          obtain ⟨t449, A160, H⟩ := H
          replace H : ((bitset_Set_Union.f kj5 t446 t449).bind fun t455 => ((bitset_Set_Minus.f kj5 t443 t455).bind fun t458 => ((bitset_Set_Minus.f kj5 t443 t446).bind fun t461 => ((bitset_Set_Minus.f kj5 t443 t449).bind fun t464 => ((bitset_Set_Intersect.f kj5 t461 t464).bind fun t467 => ((bitset_Set_Equal.f kj5 t458 t467).bind fun t470 => (if t470 = true then ((bitset_Set_Union.f kj5 t446 t449).bind fun t471 => ((bitset_Set_Intersect.f kj5 t443 t471).bind fun t474 => ((bitset_Set_Intersect.f kj5 t443 t446).bind fun t477 => ((bitset_Set_Intersect.f kj5 t443 t449).bind fun t480 => ((bitset_Set_Union.f kj5 t477 t480).bind fun t483 => ((bitset_Set_Equal.f kj5 t474 t483).bind fun t486 => (if t486 = true then ((bitset_Set_Minus.f kj5 t443 t446).bind fun t487 => ((bitset_Set_Len.f kj5 t487).bind fun t490 => ((bitset_Set_Intersect.f kj5 t443 t446).bind fun t491 => ((bitset_Set_Len.f kj5 t491).bind fun t494 => ((bitset_Set_Len.f kj5 t443).bind fun t495 => (if (wrap64 (t490 + t494)) = t495 then ((bitset_Set_Subset.f kj5 t443 t446).bind fun t496 => ((bitset_Set_Minus.f kj5 t443 t446).bind fun t497 => ((bitset_Set_Len.f kj5 t497).bind fun t500 => (if (t496 == (t500 == 0)) = true then ((bitset_Set_Union.f kj5 t443 t446).bind fun t501 => ((bitset_Set_Union.f kj5 t446 t443).bind fun t504 => ((bitset_Set_Equal.f kj5 t501 t504).bind fun t507 => (some t507)))) else (some false))))) else (some false))))))) else (some false)))))))) else (some false)))))))) = some r := H
          have A16 := Aside0.mk A160
          clear A160
          replace H := Option.bind_eq_some_iff.mp H
          obtain ⟨t455, A170, H⟩ := H
          replace H : ((bitset_Set_Minus.f kj5 t443 t455).bind fun t458 => ((bitset_Set_Minus.f kj5 t443 t446).bind fun t461 => ((bitset_Set_Minus.f kj5 t443 t449).bind fun t464 => ((bitset_Set_Intersect.f kj5 t461 t464).bind fun t467 => ((bitset_Set_Equal.f kj5 t458 t467).bind fun t470 => (if t470 = true then ((bitset_Set_Union.f kj5 t446 t449).bind fun t471 => ((bitset_Set_Intersect.f kj5 t443 t471).bind fun t474 => ((bitset_Set_Intersect.f kj5 t443 t446).bind fun t477 => ((bitset_Set_Intersect.f kj5 t443 t449).bind fun t480 => ((bitset_Set_Union.f kj5 t477 t480).bind fun t483 => ((bitset_Set_Equal.f kj5 t474 t483).bind fun t486 => (if t486 = true then ((bitset_Set_Minus.f kj5 t443 t446).bind fun t487 => ((bitset_Set_Len.f kj5 t487).bind fun t490 => ((bitset_Set_Intersect.f kj5 t443 t446).bind fun t491 => ((bitset_Set_Len.f kj5 t491).bind fun t494 => ((bitset_Set_Len.f kj5 t443).bind fun t495 => (if (wrap64 (t490 + t494)) = t495 then ((bitset_Set_Subset.f kj5 t443 t446).bind fun t496 => ((bitset_Set_Minus.f kj5 t443 t446).bind fun t497 => ((bitset_Set_Len.f kj5 t497).bind fun t500 => (if (t496 == (t500 == 0)) = true then ((bitset_Set_Union.f kj5 t443 t446).bind fun t501 => ((bitset_Set_Union.f kj5 t446 t443).bind fun t504 => ((bitset_Set_Equal.f kj5 t501 t504).bind fun t507 => (some t507)))) else (some false))))) else (some false))))))) else (some false)))))))) else (some false))))))) = some r := H
          have A17 := Aside0.mk A170
          clear A170
          replace H := Option.bind_eq_some_iff.mp H
          obtain ⟨t458, A180, H⟩ := H
          replace H : ((bitset_Set_Minus.f kj5 t443 t446).bind fun t461 => ((bitset_Set_Minus.f kj5 t443 t449).bind fun t464 => ((bitset_Set_Intersect.f kj5 t461 t464).bind fun t467 => ((bitset_Set_Equal.f kj5 t458 t467).bind fun t470 => (if t470 = true then ((bitset_Set_Union.f kj5 t446 t449).bind fun t471 => ((bitset_Set_Intersect.f kj5 t443 t471).bind fun t474 => ((bitset_Set_Intersect.f kj5 t443 t446).bind fun t477 => ((bitset_Set_Intersect.f kj5 t443 t449).bind fun t480 => ((bitset_Set_Union.f kj5 t477 t480).bind fun t483 => ((bitset_Set_Equal.f kj5 t474 t483).bind fun t486 => (if t486 = true then ((bitset_Set_Minus.f kj5 t443 t446).bind fun t487 => ((bitset_Set_Len.f kj5 t487).bind fun t490 => ((bitset_Set_Intersect.f kj5 t443 t446).bind fun t491 => ((bitset_Set_Len.f kj5 t491).bind fun t494 => ((bitset_Set_Len.f kj5 t443).bind fun t495 => (if (wrap64 (t490 + t494)) = t495 then ((bitset_Set_Subset.f kj5 t443 t446).bind fun t496 => ((bitset_Set_Minus.f kj5 t443 t446).bind fun t497 => ((bitset_Set_Len.f kj5 t497).bind fun t500 => (if (t496 == (t500 == 0)) = true then ((bitset_Set_Union.f kj5 t443 t446).bind fun t501 => ((bitset_Set_Union.f kj5 t446 t443).bind fun t504 => ((bitset_Set_Equal.f kj5 t501 t504).bind fun t507 => (some t507)))) else (some false))))) else (some false))))))) else (some false)))))))) else (some false)))))) = some r := H
          have A18 := Aside0.mk A180
          clear A180
          replace H := Option.bind_eq_some_iff.mp H
          obtain ⟨t461, A190, H⟩ := H
          replace H : ((bitset_Set_Minus.f kj5 t443 t449).bind fun t464 => ((bitset_Set_Intersect.f kj5 t461 t464).bind fun t467 => ((bitset_Set_Equal.f kj5 t458 t467).bind fun t470 => (if t470 = true then ((bitset_Set_Union.f kj5 t446 t449).bind fun t471 => ((bitset_Set_Intersect.f kj5 t443 t471).bind fun t474 => ((bitset_Set_Intersect.f kj5 t443 t446).bind fun t477 => ((bitset_Set_Intersect.f kj5 t443 t449).bind fun t480 => ((bitset_Set_Union.f kj5 t477 t480).bind fun t483 => ((bitset_Set_Equal.f kj5 t474 t483).bind fun t486 => (if t486 = true then ((bitset_Set_Minus.f kj5 t443 t446).bind fun t487 => ((bitset_Set_Len.f kj5 t487).bind fun t490 => ((bitset_Set_Intersect.f kj5 t443 t446).bind fun t491 => ((bitset_Set_Len.f kj5 t491).bind fun t494 => ((bitset_Set_Len.f kj5 t443).bind fun t495 => (if (wrap64 (t490 + t494)) = t495 then ((bitset_Set_Subset.f kj5 t443 t446).bind fun t496 => ((bitset_Set_Minus.f kj5 t443 t446).bind fun t497 => ((bitset_Set_Len.f kj5 t497).bind fun t500 => (if (t496 == (t500 == 0)) = true then ((bitset_Set_Union.f kj5 t443 t446).bind fun t501 => ((bitset_Set_Union.f kj5 t446 t443).bind fun t504 => ((bitset_Set_Equal.f kj5 t501 t504).bind fun t507 => (some t507)))) else (some false))))) else (some false))))))) else (some false)))))))) else (some false))))) = some r := H
          have A19 := Aside0.mk A190
          clear A190
          replace H := Option.bind_eq_some_iff.mp H
          obtain ⟨t464, A200, H⟩ := H
          replace H : ((bitset_Set_Intersect.f kj5 t461 t464).bind fun t467 => ((bitset_Set_Equal.f kj5 t458 t467).bind fun t470 => (if t470 = true then ((bitset_Set_Union.f kj5 t446 t449).bind fun t471 => ((bitset_Set_Intersect.f kj5 t443 t471).bind fun t474 => ((bitset_Set_Intersect.f kj5 t443 t446).bind fun t477 => ((bitset_Set_Intersect.f kj5 t443 t449).bind fun t480 => ((bitset_Set_Union.f kj5 t477 t480).bind fun t483 => ((bitset_Set_Equal.f kj5 t474 t483).bind fun t486 => (if t486 = true then ((bitset_Set_Minus.f kj5 t443 t446).bind fun t487 => ((bitset_Set_Len.f kj5 t487).bind fun t490 => ((bitset_Set_Intersect.f kj5 t443 t446).bind fun t491 => ((bitset_Set_Len.f kj5 t491).bind fun t494 => ((bitset_Set_Len.f kj5 t443).bind fun t495 => (if (wrap64 (t490 + t494)) = t495 then ((bitset_Set_Subset.f kj5 t443 t446).bind fun t496 => ((bitset_Set_Minus.f kj5 t443 t446).bind fun t497 => ((bitset_Set_Len.f kj5 t497).bind fun t500 => (if (t496 == (t500 == 0)) = true then ((bitset_Set_Union.f kj5 t443 t446).bind fun t501 => ((bitset_Set_Union.f kj5 t446 t443).bind fun t504 => ((bitset_Set_Equal.f kj5 t501 t504).bind fun t507 => (some t507)))) else (some false))))) else (some false))))))) else (some false)))))))) else (some false)))) = some r := H
          have A20 := Aside0.mk A200
          clear A200
          replace H := Option.bind_eq_some_iff.mp H
          obtain ⟨t467, A210, H⟩ := H
          replace H : ((bitset_Set_Equal.f kj5 t458 t467).bind fun t470 => (if t470 = true then ((bitset_Set_Union.f kj5 t446 t449).bind fun t471 => ((bitset_Set_Intersect.f kj5 t443 t471).bind fun t474 => ((bitset_Set_Intersect.f kj5 t443 t446).bind fun t477 => ((bitset_Set_Intersect.f kj5 t443 t449).bind fun t480 => ((bitset_Set_Union.f kj5 t477 t480).bind fun t483 => ((bitset_Set_Equal.f kj5 t474 t483).bind fun t486 => (if t486 = true then ((bitset_Set_Minus.f kj5 t443 t446).bind fun t487 => ((bitset_Set_Len.f kj5 t487).bind fun t490 => ((bitset_Set_Intersect.f kj5 t443 t446).bind fun t491 => ((bitset_Set_Len.f kj5 t491).bind fun t494 => ((bitset_Set_Len.f kj5 t443).bind fun t495 => (if (wrap64 (t490 + t494)) = t495 then ((bitset_Set_Subset.f kj5 t443 t446).bind fun t496 => ((bitset_Set_Minus.f kj5 t443 t446).bind fun t497 => ((bitset_Set_Len.f kj5 t497).bind fun t500 => (if (t496 == (t500 == 0)) = true then ((bitset_Set_Union.f kj5 t443 t446).bind fun t501 => ((bitset_Set_Union.f kj5 t446 t443).bind fun t504 => ((bitset_Set_Equal.f kj5 t501 t504).bind fun t507 => (some t507)))) else (some false))))) else (some false))))))) else (some false)))))))) else (some false))) = some r := H
          have A21 := Aside0.mk A210
          clear A210
          replace H := Option.bind_eq_some_iff.mp H
          obtain ⟨t470, A220, H⟩ := H
          replace H : (if t470 = true then ((bitset_Set_Union.f kj5 t446 t449).bind fun t471 => ((bitset_Set_Intersect.f kj5 t443 t471).bind fun t474 => ((bitset_Set_Intersect.f kj5 t443 t446).bind fun t477 => ((bitset_Set_Intersect.f kj5 t443 t449).bind fun t480 => ((bitset_Set_Union.f kj5 t477 t480).bind fun t483 => ((bitset_Set_Equal.f kj5 t474 t483).bind fun t486 => (if t486 = true then ((bitset_Set_Minus.f kj5 t443 t446).bind fun t487 => ((bitset_Set_Len.f kj5 t487).bind fun t490 => ((bitset_Set_Intersect.f kj5 t443 t446).bind fun t491 => ((bitset_Set_Len.f kj5 t491).bind fun t494 => ((bitset_Set_Len.f kj5 t443).bind fun t495 => (if (wrap64 (t490 + t494)) = t495 then ((bitset_Set_Subset.f kj5 t443 t446).bind fun t496 => ((bitset_Set_Minus.f kj5 t443 t446).bind fun t497 => ((bitset_Set_Len.f kj5 t497).bind fun t500 => (if (t496 == (t500 == 0)) = true then ((bitset_Set_Union.f kj5 t443 t446).bind fun t501 => ((bitset_Set_Union.f kj5 t446 t443).bind fun t504 => ((bitset_Set_Equal.f kj5 t501 t504).bind fun t507 => (some t507)))) else (some false))))) else (some false))))))) else (some false)))))))) else (some false)) = some r := H
          have A22 := Aside0.mk A220
          clear A220
          by_cases c23 : t470 = true
          · subst c23
            have H1 : ((bitset_Set_Union.f kj5 t446 t449).bind fun t471 => ((bitset_Set_Intersect.f kj5 t443 t471).bind fun t474 => ((bitset_Set_Intersect.f kj5 t443 t446).bind fun t477 => ((bitset_Set_Intersect.f kj5 t443 t449).bind fun t480 => ((bitset_Set_Union.f kj5 t477 t480).bind fun t483 => ((bitset_Set_Equal.f kj5 t474 t483).bind fun t486 => (if t486 = true then ((bitset_Set_Minus.f kj5 t443 t446).bind fun t487 => ((bitset_Set_Len.f kj5 t487).bind fun t490 => ((bitset_Set_Intersect.f kj5 t443 t446).bind fun t491 => ((bitset_Set_Len.f kj5 t491).bind fun t494 => ((bitset_Set_Len.f kj5 t443).bind fun t495 => (if (wrap64 (t490 + t494)) = t495 then ((bitset_Set_Subset.f kj5 t443 t446).bind fun t496 => ((bitset_Set_Minus.f kj5 t443 t446).bind fun t497 => ((bitset_Set_Len.f kj5 t497).bind fun t500 => (if (t496 == (t500 == 0)) = true then ((bitset_Set_Union.f kj5 t443 t446).bind fun t501 => ((bitset_Set_Union.f kj5 t446 t443).bind fun t504 => ((bitset_Set_Equal.f kj5 t501 t504).bind fun t507 => (some t507)))) else (some false))))) else (some false))))))) else (some false)))))))) = some r := by rw [if_pos rfl] at H; exact H
            clear H
            have H := H1
            clear H1
            replace H := Option.bind_eq_some_iff.mp H
            obtain ⟨t471, A240, H⟩ := H
            replace H : ((bitset_Set_Intersect.f kj5 t443 t471).bind fun t474 => ((bitset_Set_Intersect.f kj5 t443 t446).bind fun t477 => ((bitset_Set_Intersect.f kj5 t443 t449).bind fun t480 => ((bitset_Set_Union.f kj5 t477 t480).bind fun t483 => ((bitset_Set_Equal.f kj5 t474 t483).bind fun t486 => (if t486 = true then ((bitset_Set_Minus.f kj5 t443 t446).bind fun t487 => ((bitset_Set_Len.f kj5 t487).bind fun t490 => ((bitset_Set_Intersect.f kj5 t443 t446).bind fun t491 => ((bitset_Set_Len.f kj5 t491).bind fun t494 => ((bitset_Set_Len.f kj5 t443).bind fun t495 => (if (wrap64 (t490 + t494)) = t495 then ((bitset_Set_Subset.f kj5 t443 t446).bind fun t496 => ((bitset_Set_Minus.f kj5 t443 t446).bind fun t497 => ((bitset_Set_Len.f kj5 t497).bind fun t500 => (if (t496 == (t500 == 0)) = true then ((bitset_Set_Union.f kj5 t443 t446).bind fun t501 => ((bitset_Set_Union.f kj5 t446 t443).bind fun t504 => ((bitset_Set_Equal.f kj5 t501 t504).bind fun t507 => (some t507)))) else (some false))))) else (some false))))))) else (some false))))))) = some r := H
            have A24 := Aside0.mk A240
            clear A240
            replace H := Option.bind_eq_some_iff.mp H
            obtain ⟨t474, A250, H⟩ := H
            replace H : ((bitset_Set_Intersect.f kj5 t443 t446).bind fun t477 => ((bitset_Set_Intersect.f kj5 t443 t449).bind fun t480 => ((bitset_Set_Union.f kj5 t477 t480).bind fun t483 => ((bitset_Set_Equal.f kj5 t474 t483).bind fun t486 => (if t486 = true then ((bitset_Set_Minus.f kj5 t443 t446).bind fun t487 => ((bitset_Set_Len.f kj5 t487).bind fun t490 => ((bitset_Set_Intersect.f kj5 t443 t446).bind fun t491 => ((bitset_Set_Len.f kj5 t491).bind fun t494 => ((bitset_Set_Len.f kj5 t443).bind fun t495 => (if (wrap64 (t490 + t494)) = t495 then ((bitset_Set_Subset.f kj5 t443 t446).bind fun t496 => ((bitset_Set_Minus.f kj5 t443 t446).bind fun t497 => ((bitset_Set_Len.f kj5 t497).bind fun t500 => (if (t496 == (t500 == 0)) = true then ((bitset_Set_Union.f kj5 t443 t446).bind fun t501 => ((bitset_Set_Union.f kj5 t446 t443).bind fun t504 => ((bitset_Set_Equal.f kj5 t501 t504).bind fun t507 => (some t507)))) else (some false))))) else (some false))))))) else (some false)))))) = some r := H
            have A25 := Aside0.mk A250
            clear A250
            replace H := Option.bind_eq_some_iff.mp H
            obtain ⟨t477, A260, H⟩ := H
            replace H : ((bitset_Set_Intersect.f kj5 t443 t449).bind fun t480 => ((bitset_Set_Union.f kj5 t477 t480).bind fun t483 => ((bitset_Set_Equal.f kj5 t474 t483).bind fun t486 => (if t486 = true then ((bitset_Set_Minus.f kj5 t443 t446).bind fun t487 => ((bitset_Set_Len.f kj5 t487).bind fun t490 => ((bitset_Set_Intersect.f kj5 t443 t446).bind fun t491 => ((bitset_Set_Len.f kj5 t491).bind fun t494 => ((bitset_Set_Len.f kj5 t443).bind fun t495 => (if (wrap64 (t490 + t494)) = t495 then ((bitset_Set_Subset.f kj5 t443 t446).bind fun t496 => ((bitset_Set_Minus.f kj5 t443 t446).bind fun t497 => ((bitset_Set_Len.f kj5 t497).bind fun t500 => (if (t496 == (t500 == 0)) = true then ((bitset_Set_Union.f kj5 t443 t446).bind fun t501 => ((bitset_Set_Union.f kj5 t446 t443).bind fun t504 => ((bitset_Set_Equal.f kj5 t501 t504).bind fun t507 => (some t507)))) else (some false))))) else (some false))))))) else (some false))))) = some r := H
            have A26 := Aside0.mk A260
            clear A260
            replace H := Option.bind_eq_some_iff.mp H
            obtain ⟨t480, A270, H⟩ := H
            replace H : ((bitset_Set_Union.f kj5 t477 t480).bind fun t483 => ((bitset_Set_Equal.f kj5 t474 t483).bind fun t486 => (if t486 = true then ((bitset_Set_Minus.f kj5 t443 t446).bind fun t487 => ((bitset_Set_Len.f kj5 t487).bind fun t490 => ((bitset_Set_Intersect.f kj5 t443 t446).bind fun t491 => ((bitset_Set_Len.f kj5 t491).bind fun t494 => ((bitset_Set_Len.f kj5 t443).bind fun t495 => (if (wrap64 (t490 + t494)) = t495 then ((bitset_Set_Subset.f kj5 t443 t446).bind fun t496 => ((bitset_Set_Minus.f kj5 t443 t446).bind fun t497 => ((bitset_Set_Len.f kj5 t497).bind fun t500 => (if (t496 == (t500 == 0)) = true then ((bitset_Set_Union.f kj5 t443 t446).bind fun t501 => ((bitset_Set_Union.f kj5 t446 t443).bind fun t504 => ((bitset_Set_Equal.f kj5 t501 t504).bind fun t507 => (some t507)))) else (some false))))) else (some false))))))) else (some false)))) = some r := H
            have A27 := Aside0.mk A270
            clear A270
            replace H := Option.bind_eq_some_iff.mp H
            obtain ⟨t483, A280, H⟩ := H
            replace H : ((bitset_Set_Equal.f kj5 t474 t483).bind fun t486 => (if t486 = true then ((bitset_Set_Minus.f kj5 t443 t446).bind fun t487 => ((bitset_Set_Len.f kj5 t487).bind fun t490 => ((bitset_Set_Intersect.f kj5 t443 t446).bind fun t491 => ((bitset_Set_Len.f kj5 t491).bind fun t494 => ((bitset_Set_Len.f kj5 t443).bind fun t495 => (if (wrap64 (t490 + t494)) = t495 then ((bitset_Set_Subset.f kj5 t443 t446).bind fun t496 => ((bitset_Set_Minus.f kj5 t443 t446).bind fun t497 => ((bitset_Set_Len.f kj5 t497).bind fun t500 => (if (t496 == (t500 == 0)) = true then ((bitset_Set_Union.f kj5 t443 t446).bind fun t501 => ((bitset_Set_Union.f kj5 t446 t443).bind fun t504 => ((bitset_Set_Equal.f kj5 t501 t504).bind fun t507 => (some t507)))) else (some false))))) else (some false))))))) else (some false))) = some r := H
            have A28 := Aside0.mk A280
            clear A280
            replace H := Option.bind_eq_some_iff.mp H
            obtain ⟨t486, A290, H⟩ := H
            replace H : (if t486 = true then ((bitset_Set_Minus.f kj5 t443 t446).bind fun t487 => ((bitset_Set_Len.f kj5 t487).bind fun t490 => ((bitset_Set_Intersect.f kj5 t443 t446).bind fun t491 => ((bitset_Set_Len.f kj5 t491).bind fun t494 => ((bitset_Set_Len.f kj5 t443).bind fun t495 => (if (wrap64 (t490 + t494)) = t495 then ((bitset_Set_Subset.f kj5 t443 t446).bind fun t496 => ((bitset_Set_Minus.f kj5 t443 t446).bind fun t497 => ((bitset_Set_Len.f kj5 t497).bind fun t500 => (if (t496 == (t500 == 0)) = true then ((bitset_Set_Union.f kj5 t443 t446).bind fun t501 => ((bitset_Set_Union.f kj5 t446 t443).bind fun t504 => ((bitset_Set_Equal.f kj5 t501 t504).bind fun t507 => (some t507)))) else (some false))))) else (some false))))))) else (some false)) = some r := H
            have A29 := Aside0.mk A290
            clear A290
            by_cases c30 : t486 = true
            · subst c30
              have H1 : ((bitset_Set_Minus.f kj5 t443 t446).bind fun t487 => ((bitset_Set_Len.f kj5 t487).bind fun t490 => ((bitset_Set_Intersect.f kj5 t443 t446).bind fun t491 => ((bitset_Set_Len.f kj5 t491).bind fun t494 => ((bitset_Set_Len.f kj5 t443).bind fun t495 => (if (wrap64 (t490 + t494)) = t495 then ((bitset_Set_Subset.f kj5 t443 t446).bind fun t496 => ((bitset_Set_Minus.f kj5 t443 t446).bind fun t497 => ((bitset_Set_Len.f kj5 t497).bind fun t500 => (if (t496 == (t500 == 0)) = true then ((bitset_Set_Union.f kj5 t443 t446).bind fun t501 => ((bitset_Set_Union.f kj5 t446 t443).bind fun t504 => ((bitset_Set_Equal.f kj5 t501 t504).bind fun t507 => (some t507)))) else (some false))))) else (some false))))))) = some r := by rw [if_pos rfl] at H; exact H
              clear H
              have H := H1
              clear H1
              replace H := Option.bind_eq_some_iff.mp H
              obtain ⟨t487, A310, H⟩ := H
              replace H : ((bitset_Set_Len.f kj5 t487).bind fun t490 => ((bitset_Set_Intersect.f kj5 t443 t446).bind fun t491 => ((bitset_Set_Len.f kj5 t491).bind fun t494 => ((bitset_Set_Len.f kj5 t443).bind fun t495 => (if (wrap64 (t490 + t494)) = t495 then ((bitset_Set_Subset.f kj5 t443 t446).bind fun t496 => ((bitset_Set_Minus.f kj5 t443 t446).bind fun t497 => ((bitset_Set_Len.f kj5 t497).bind fun t500 => (if (t496 == (t500 == 0)) = true then ((bitset_Set_Union.f kj5 t443 t446).bind fun t501 => ((bitset_Set_Union.f kj5 t446 t443).bind fun t504 => ((bitset_Set_Equal.f kj5 t501 t504).bind fun t507 => (some t507)))) else (some false))))) else (some false)))))) = some r := H
              have A31 := Aside0.mk A310
              clear A310
              replace H := Option.bind_eq_some_iff.mp H
              obtain ⟨t490, A320, H⟩ := H
              replace H : ((bitset_Set_Intersect.f kj5 t443 t446).bind fun t491 => ((bitset_Set_Len.f kj5 t491).bind fun t494 => ((bitset_Set_Len.f kj5 t443).bind fun t495 => (if (wrap64 (t490 + t494)) = t495 then ((bitset_Set_Subset.f kj5 t443 t446).bind fun t496 => ((bitset_Set_Minus.f kj5 t443 t446).bind fun t497 => ((bitset_Set_Len.f kj5 t497).bind fun t500 => (if (t496 == (t500 == 0)) = true then ((bitset_Set_Union.f kj5 t443 t446).bind fun t501 => ((bitset_Set_Union.f kj5 t446 t443).bind fun t504 => ((bitset_Set_Equal.f kj5 t501 t504).bind fun t507 => (some t507)))) else (some false))))) else (some false))))) = some r := H
              have A32 := Aside0.mk A320
              clear A320
              replace H := Option.bind_eq_some_iff.mp H
              obtain ⟨t491, A330, H⟩ := H
              replace H : ((bitset_Set_Len.f kj5 t491).bind fun t494 => ((bitset_Set_Len.f kj5 t443).bind fun t495 => (if (wrap64 (t490 + t494)) = t495 then ((bitset_Set_Subset.f kj5 t443 t446).bind fun t496 => ((bitset_Set_Minus.f kj5 t443 t446).bind fun t497 => ((bitset_Set_Len.f kj5 t497).bind fun t500 => (if (t496 == (t500 == 0)) = true then ((bitset_Set_Union.f kj5 t443 t446).bind fun t501 => ((bitset_Set_Union.f kj5 t446 t443).bind fun t504 => ((bitset_Set_Equal.f kj5 t501 t504).bind fun t507 => (some t507)))) else (some false))))) else (some false)))) = some r := H
              have A33 := Aside0.mk A330
              clear A330
              replace H := Option.bind_eq_some_iff.mp H
              obtain ⟨t494, A340, H⟩ := H
              replace H : ((bitset_Set_Len.f kj5 t443).bind fun t495 => (if (wrap64 (t490 + t494)) = t495 then ((bitset_Set_Subset.f kj5 t443 t446).bind fun t496 => ((bitset_Set_Minus.f kj5 t443 t446).bind fun t497 => ((bitset_Set_Len.f kj5 t497).bind fun t500 => (if (t496 == (t500 == 0)) = true then ((bitset_Set_Union.f kj5 t443 t446).bind fun t501 => ((bitset_Set_Union.f kj5 t446 t443).bind fun t504 => ((bitset_Set_Equal.f kj5 t501 t504).bind fun t507 => (some t507)))) else (some false))))) else (some false))) = some r := H
              have A34 := Aside0.mk A340
              clear A340
              replace H := Option.bind_eq_some_iff.mp H
              obtain ⟨t495, A350, H⟩ := H
              replace H : (if (wrap64 (t490 + t494)) = t495 then ((bitset_Set_Subset.f kj5 t443 t446).bind fun t496 => ((bitset_Set_Minus.f kj5 t443 t446).bind fun t497 => ((bitset_Set_Len.f kj5 t497).bind fun t500 => (if (t496 == (t500 == 0)) = true then ((bitset_Set_Union.f kj5 t443 t446).bind fun t501 => ((bitset_Set_Union.f kj5 t446 t443).bind fun t504 => ((bitset_Set_Equal.f kj5 t501 t504).bind fun t507 => (some t507)))) else (some false))))) else (some false)) = some r := H
              have A35 := Aside0.mk A350
              clear A350
              by_cases c36 : (wrap64 (t490 + t494)) = t495
              · rw [if_pos c36] at H
                have c36b0 : ((wrap64 (t490 + t494)) == t495) = true := beq_iff_eq.mpr c36
                have c36b1 : ((wrap64 (t490 + t494)) != t495) = false := bne_eq_false_iff_eq.mpr c36
                clear c36
                replace H := Option.bind_eq_some_iff.mp H
                obtain ⟨t496, A370, H⟩ := H
                replace H : ((bitset_Set_Minus.f kj5 t443 t446).bind fun t497 => ((bitset_Set_Len.f kj5 t497).bind fun t500 => (if (t496 == (t500 == 0)) = true then ((bitset_Set_Union.f kj5 t443 t446).bind fun t501 => ((bitset_Set_Union.f kj5 t446 t443).bind fun t504 => ((bitset_Set_Equal.f kj5 t501 t504).bind fun t507 => (some t507)))) else (some false)))) = some r := H
                have A37 := Aside0.mk A370
                clear A370
                replace H := Option.bind_eq_some_iff.mp H
                obtain ⟨t497, A380, H⟩ := H
                replace H : ((bitset_Set_Len.f kj5 t497).bind fun t500 => (if (t496 == (t500 == 0)) = true then ((bitset_Set_Union.f kj5 t443 t446).bind fun t501 => ((bitset_Set_Union.f kj5 t446 t443).bind fun t504 => ((bitset_Set_Equal.f kj5 t501 t504).bind fun t507 => (some t507)))) else (some false))) = some r := H
                have A38 := Aside0.mk A380
                clear A380
                replace H := Option.bind_eq_some_iff.mp H
                obtain ⟨t500, A390, H⟩ := H
                replace H : (if (t496 == (t500 == 0)) = true then ((bitset_Set_Union.f kj5 t443 t446).bind fun t501 => ((bitset_Set_Union.f kj5 t446 t443).bind fun t504 => ((bitset_Set_Equal.f kj5 t501 t504).bind fun t507 => (some t507)))) else (some false)) = some r := H
                have A39 := Aside0.mk A390
                clear A390
                by_cases c40 : (t496 == (t500 == 0)) = true
                · rw [if_pos c40] at H
                  have c40b0 : (t496 == (t500 == 0)) = true := c40
                  (try (have c40b1 : decide (t496 = (t500 == 0)) = true := by simpa using c40))
                  (try (have c40b2 : (t496 == (t500 == 0)) = true := by simpa using c40))
                  clear c40
                  replace H := Option.bind_eq_some_iff.mp H
                  obtain ⟨t501, A410, H⟩ := H
                  replace H : ((bitset_Set_Union.f kj5 t446 t443).bind fun t504 => ((bitset_Set_Equal.f kj5 t501 t504).bind fun t507 => (some t507))) = some r := H
                  have A41 := Aside0.mk A410
                  clear A410
                  replace H := Option.bind_eq_some_iff.mp H
                  obtain ⟨t504, A420, H⟩ := H
                  replace H : ((bitset_Set_Equal.f kj5 t501 t504).bind fun t507 => (some t507)) = some r := H
                  have A42 := Aside0.mk A420
                  clear A420
                  replace H := Option.bind_eq_some_iff.mp H
                  obtain ⟨t507, A430, H⟩ := H
                  replace H : (some t507) = some r := H
                  have A43 := Aside0.mk A430
                  clear A430
                  obtain rfl := Option.some.inj H
                  try go_wp2_with (first | ((with_reducible refine gate_callee (f := 13) rfl ?_); refine goesL_ (some 26) rfl rfl Tryd.func13 (by kernel_rfl) rfl #[.slice A0 l0.length c0] rfl (by (try simp only [List.map_toArray, List.map_cons, List.map_nil]); first | done | rfl | (simp only [List.length_drop, List.length_take]; rfl)) ?_; (with_reducible refine (bitset_Of.calls kj5 _ _ l0 t443 _ ?side1 ?side2 A14.out).mono ?_); (case side1 => repeat (first | exact (Kd.C_below HR0.out HB.out) | (with_reducible refine Kd.C_alloc ?_ _) | (with_reducible refine Kd.C_drewN ?_ _) | (with_reducible refine Kd.C_drew ?_))); (case side2 => exact HC0.out); rintro e w44 ⟨v444, rfl, ho0, hb⟩; refine ⟨_, rfl, ?_⟩; have n0_ := Aside0.mk (Kd.V_lower (Kd.V_mono (ok' := fun k_ => True) ho0 (fun k_ hk_ => trivial)) (below_size (by repeat (first | (with_reducible first | exact HB.out | apply below_alloc | apply pw_below_drewN | apply below_drew1) | exact HB.out)))); have n1_ := Aside0.mk (below_step (by repeat (first | (with_reducible first | exact HB.out | apply below_alloc | apply pw_below_drewN | apply below_drew1) | exact HB.out)) hb); clear HB; have HO445 := n0_; have HB := n1_; clear n0_ n1_; (try clear hb); (try clear hb2); (try clear hk); (try clear hi); (try clear ho0)) | ((with_reducible refine gate_callee (f := 13) rfl ?_); refine goesL_ (some 28) rfl rfl Tryd.func13 (by kernel_rfl) rfl #[.slice A1 l1.length c1] rfl (by (try simp only [List.map_toArray, List.map_cons, List.map_nil]); first | done | rfl | (simp only [List.length_drop, List.length_take]; rfl)) ?_; (with_reducible refine (bitset_Of.calls kj5 _ _ l1 t446 _ ?side1 ?side2 A15.out).mono ?_); (case side1 => repeat (first | exact (Kd.C_below HR1.out HB.out) | (with_reducible refine Kd.C_alloc ?_ _) | (with_reducible refine Kd.C_drewN ?_ _) | (with_reducible refine Kd.C_drew ?_))); (case side2 => exact HC1.out); rintro e w45 ⟨v447, rfl, ho0, hb⟩; refine ⟨_, rfl, ?_⟩; have n0_ := Aside0.mk (Kd.V_below (by (with_reducible repeat (first | apply Kd.V_alloc | apply Kd.V_drewN | apply Kd.V_drew)); exact HO445.out) hb); have n1_ := Aside0.mk (Kd.V_lower (Kd.V_mono (ok' := fun k_ => True) ho0 (fun k_ hk_ => trivial)) (below_size (by repeat (first | (with_reducible first | exact HB.out | apply below_alloc | apply pw_below_drewN | apply below_drew1) | exact HB.out)))); have n2_ := Aside0.mk (below_step (by repeat (first | (with_reducible first | exact HB.out | apply below_alloc | apply pw_below_drewN | apply below_drew1) | exact HB.out)) hb); clear HO445; clear HB; have HO445 := n0_; have HO448 := n1_; have HB := n2_; clear n0_ n1_ n2_; (try clear hb); (try clear hb2); (try clear hk); (try clear hi); (try clear ho0)) | ((with_reducible refine gate_callee (f := 13) rfl ?_); refine goesL_ (some 30) rfl rfl Tryd.func13 (by kernel_rfl) rfl #[.slice A2 l2.length c2] rfl (by (try simp only [List.map_toArray, List.map_cons, List.map_nil]); first | done | rfl | (simp only [List.length_drop, List.length_take]; rfl)) ?_; (with_reducible refine (bitset_Of.calls kj5 _ _ l2 t449 _ ?side1 ?side2 A16.out).mono ?_); (case side1 => repeat (first | exact (Kd.C_below HR2.out HB.out) | (with_reducible refine Kd.C_alloc ?_ _) | (with_reducible refine Kd.C_drewN ?_ _) | (with_reducible refine Kd.C_drew ?_))); (case side2 => exact HC2.out); rintro e w46 ⟨v450, rfl, ho0, hb⟩; refine ⟨_, rfl, ?_⟩; have n0_ := Aside0.mk (Kd.V_below (by (with_reducible repeat (first | apply Kd.V_alloc | apply Kd.V_drewN | apply Kd.V_drew)); exact HO445.out) hb); have n1_ := Aside0.mk (Kd.V_below (by (with_reducible repeat (first | apply Kd.V_alloc | apply Kd.V_drewN | apply Kd.V_drew)); exact HO448.out) hb); have n2_ := Aside0.mk (Kd.V_lower (Kd.V_mono (ok' := fun k_ => True) ho0 (fun k_ hk_ => trivial)) (below_size (by repeat (first | (with_reducible first | exact HB.out | apply below_alloc | apply pw_below_drewN | apply below_drew1) | exact HB.out)))); have n3_ := Aside0.mk (below_step (by repeat (first | (with_reducible first | exact HB.out | apply below_alloc | apply pw_below_drewN | apply below_drew1) | exact HB.out)) hb); clear HO445; clear HO448; clear HB; have HO445 := n0_; have HO448 := n1_; have HO451 := n2_; have HB := n3_; clear n0_ n1_ n2_ n3_; (try clear hb); (try clear hb2); (try clear hk); (try clear hi); (try clear ho0)) | ((with_reducible refine gate_dst (N := 7) rfl ?_); refine box_event ?hg (N := 7) ?hd (cs := #[.slice none 0 0]) (t := 27) ?hr ?_; (case hd => rfl); (case hg => rfl); (case hr => first | (go_simp; done) | (go_simp; rfl)); intro gb452 hg w47 hbox hb; have n0_ := Aside0.mk (Kd.V_below (Kd.V_elderB (by (with_reducible repeat (first | apply Kd.V_alloc | apply Kd.V_drewN | apply Kd.V_drew)); exact HO445.out) gb452 (Nat.le_of_eq hg.symm)) hb); have n1_ := Aside0.mk (Kd.V_below (Kd.V_elderB (by (with_reducible repeat (first | apply Kd.V_alloc | apply Kd.V_drewN | apply Kd.V_drew)); exact HO448.out) gb452 (Nat.le_of_eq hg.symm)) hb); have n2_ := Aside0.mk (Kd.V_below (Kd.V_elderB (by (with_reducible repeat (first | apply Kd.V_alloc | apply Kd.V_drewN | apply Kd.V_drew)); exact HO451.out) gb452 (Nat.le_of_eq hg.symm)) hb); have n3_ := Aside0.mk (below_step (by repeat (first | (with_reducible first | exact HB.out | apply below_alloc | apply pw_below_drewN | apply below_drew1) | exact HB.out)) hb); have n4_ := Aside0.mk (hbox); have n5_ := Aside0.mk ((by rw [hg]; exact (below_size (by repeat (first | (with_reducible first | exact HB.out | apply below_alloc | apply pw_below_drewN | apply below_drew1) | exact HB.out))) : w.heap.size ≤ gb452)); have n6_ := Aside0.mk ((by rw [hg]; exact (below_size (by repeat (first | (with_reducible first | exact HB.out | apply below_alloc | apply pw_below_drewN | apply below_drew1) | exact HB.out))) : w.heap.size ≤ gb452)); clear HO445; clear HO448; clear HO451; clear HB; have HO445 := n0_; have HO448 := n1_; have HO451 := n2_; have HB := n3_; have BK452 := n4_; have GW452 := n5_; have GE452 := n6_; clear n0_ n1_ n2_ n3_ n4_ n5_ n6_; clear hb hbox hg) | ((with_reducible refine gate_dst (N := 8) rfl ?_); refine box_event ?hg (N := 8) ?hd (cs := #[.slice none 0 0]) (t := 27) ?hr ?_; (case hd => rfl); (case hg => rfl); (case hr => first | (go_simp; done) | (go_simp; rfl)); intro gb453 hg w48 hbox hb; have n0_ := Aside0.mk (Kd.V_below (Kd.V_elderB (by (with_reducible repeat (first | apply Kd.V_alloc | apply Kd.V_drewN | apply Kd.V_drew)); exact HO445.out) gb453 (Nat.le_of_eq hg.symm)) hb); have n1_ := Aside0.mk (Kd.V_below (Kd.V_elderB (by (with_reducible repeat (first | apply Kd.V_alloc | apply Kd.V_drewN | apply Kd.V_drew)); exact HO448.out) gb453 (Nat.le_of_eq hg.symm)) hb); have n2_ := Aside0.mk (Kd.V_below (Kd.V_elderB (by (with_reducible repeat (first | apply Kd.V_alloc | apply Kd.V_drewN | apply Kd.V_drew)); exact HO451.out) gb453 (Nat.le_of_eq hg.symm)) hb); have n3_ := Aside0.mk (blk_below (g := gb452) (o := .cells #[.slice none 0 0] 27 (0, 0)) (by (with_reducible repeat (first | refine blk_drewN ?_ _ | refine blk_drew ?_ | refine blk_alloc ?_ _)); exact BK452.out) hb); have n4_ := Aside0.mk (below_step (by repeat (first | (with_reducible first | exact HB.out | apply below_alloc | apply pw_below_drewN | apply below_drew1 | refine below_set ?_ GE452.out) | exact HB.out)) hb); have n5_ := Aside0.mk (hbox); have n6_ := Aside0.mk ((by rw [hg]; exact (below_size (by repeat (first | (with_reducible first | exact HB.out | apply below_alloc | apply pw_below_drewN | apply below_drew1 | refine below_set ?_ GE452.out) | exact HB.out))) : w.heap.size ≤ gb453)); have n7_ := Aside0.mk ((by rw [hg]; exact (below_size (by repeat (first | (with_reducible first | exact HB.out | apply below_alloc | apply pw_below_drewN | apply below_drew1 | refine below_set ?_ GE452.out) | exact HB.out))) : w.heap.size ≤ gb453)); have n8_ := Aside0.mk ((by rw [hg]; exact Nat.ne_of_lt (blk_lt (g := gb452) (o := .cells #[.slice none 0 0] 27 (0, 0)) (by (with_reducible repeat (first | refine blk_drewN ?_ _ | refine blk_drew ?_ | refine blk_alloc ?_ _)); exact BK452.out)) : gb452 ≠ gb453)); have n9_ := Aside0.mk ((by rw [hg]; exact Nat.ne_of_gt (blk_lt (g := gb452) (o := .cells #[.slice none 0 0] 27 (0, 0)) (by (with_reducible repeat (first | refine blk_drewN ?_ _ | refine blk_drew ?_ | refine blk_alloc ?_ _)); exact BK452.out)) : gb453 ≠ gb452)); clear HO445; clear HO448; clear HO451; clear BK452; clear HB; have HO445 := n0_; have HO448 := n1_; have HO451 := n2_; have BK452 := n3_; have HB := n4_; have BK453 := n5_; have GW453 := n6_; have GE453 := n7_; have NB452_453 := n8_; have NB453_452 := n9_; clear n0_ n1_ n2_ n3_ n4_ n5_ n6_ n7_ n8_ n9_; clear hb hbox hg) | ((with_reducible refine gate_dst (N := 9) rfl ?_); refine box_event ?hg (N := 9) ?hd (cs := #[.slice none 0 0]) (t := 27) ?hr ?_; (case hd => rfl); (case hg => rfl); (case hr => first | (go_simp; done) | (go_simp; rfl)); intro gb454 hg w49 hbox hb; have n0_ := Aside0.mk (Kd.V_below (Kd.V_elderB (by (with_reducible repeat (first | apply Kd.V_alloc | apply Kd.V_drewN | apply Kd.V_drew)); exact HO445.out) gb454 (Nat.le_of_eq hg.symm)) hb); have n1_ := Aside0.mk (Kd.V_below (Kd.V_elderB (by (with_reducible repeat (first | apply Kd.V_alloc | apply Kd.V_drewN | apply Kd.V_drew)); exact HO448.out) gb454 (Nat.le_of_eq hg.symm)) hb); have n2_ := Aside0.mk (Kd.V_below (Kd.V_elderB (by (with_reducible repeat (first | apply Kd.V_alloc | apply Kd.V_drewN | apply Kd.V_drew)); exact HO451.out) gb454 (Nat.le_of_eq hg.symm)) hb); have n3_ := Aside0.mk (blk_below (g := gb452) (o := .cells #[.slice none 0 0] 27 (0, 0)) (by (with_reducible repeat (first | refine blk_drewN ?_ _ | refine blk_drew ?_ | refine blk_alloc ?_ _)); exact BK452.out) hb); have n4_ := Aside0.mk (blk_below (g := gb453) (o := .cells #[.slice none 0 0] 27 (0, 0)) (by (with_reducible repeat (first | refine blk_drewN ?_ _ | refine blk_drew ?_ | refine blk_alloc ?_ _)); exact BK453.out) hb); have n5_ := Aside0.mk (below_step (by repeat (first | (with_reducible first | exact HB.out | apply below_alloc | apply pw_below_drewN | apply below_drew1 | refine below_set ?_ GE452.out | refine below_set ?_ GE453.out) | exact HB.out)) hb); have n6_ := Aside0.mk (hbox); have n7_ := Aside0.mk ((by rw [hg]; exact (below_size (by repeat (first | (with_reducible first | exact HB.out | apply below_alloc | apply pw_below_drewN | apply below_drew1 | refine below_set ?_ GE452.out | refine below_set ?_ GE453.out) | exact HB.out))) : w.heap.size ≤ gb454)); have n8_ := Aside0.mk ((by rw [hg]; exact (below_size (by repeat (first | (with_reducible first | exact HB.out | apply below_alloc | apply pw_below_drewN | apply below_drew1 | refine below_set ?_ GE452.out | refine below_set ?_ GE453.out) | exact HB.out))) : w.heap.size ≤ gb454)); have n9_ := Aside0.mk ((by rw [hg]; exact Nat.ne_of_lt (blk_lt (g := gb452) (o := .cells #[.slice none 0 0] 27 (0, 0)) (by (with_reducible repeat (first | refine blk_drewN ?_ _ | refine blk_drew ?_ | refine blk_alloc ?_ _)); exact BK452.out)) : gb452 ≠ gb454)); have n10_ := Aside0.mk ((by rw [hg]; exact Nat.ne_of_gt (blk_lt (g := gb452) (o := .cells #[.slice none 0 0] 27 (0, 0)) (by (with_reducible repeat (first | refine blk_drewN ?_ _ | refine blk_drew ?_ | refine blk_alloc ?_ _)); exact BK452.out)) : gb454 ≠ gb452)); have n11_ := Aside0.mk ((by rw [hg]; exact Nat.ne_of_lt (blk_lt (g := gb453) (o := .cells #[.slice none 0 0] 27 (0, 0)) (by (with_reducible repeat (first | refine blk_drewN ?_ _ | refine blk_drew ?_ | refine blk_alloc ?_ _)); exact BK453.out)) : gb453 ≠ gb454)); have n12_ := Aside0.mk ((by rw [hg]; exact Nat.ne_of_gt (blk_lt (g := gb453) (o := .cells #[.slice none 0 0] 27 (0, 0)) (by (with_reducible repeat (first | refine blk_drewN ?_ _ | refine blk_drew ?_ | refine blk_alloc ?_ _)); exact BK453.out)) : gb454 ≠ gb453)); clear HO445; clear HO448; clear HO451; clear BK452; clear BK453; clear HB; have HO445 := n0_; have HO448 := n1_; have HO451 := n2_; have BK452 := n3_; have BK453 := n4_; have HB := n5_; have BK454 := n6_; have GW454 := n7_; have GE454 := n8_; have NB452_454 := n9_; have NB454_452 := n10_; have NB453_454 := n11_; have NB454_453 := n12_; clear n0_ n1_ n2_ n3_ n4_ n5_ n6_ n7_ n8_ n9_ n10_ n11_ n12_; clear hb hbox hg; obtain ⟨Ao50, co50, eo50⟩ := Kd.V_slice HO445.out; subst eo50; have hnb51 := NB452_453.out; have hnc51 := NB453_452.out; have hnb52 := NB452_454.out; have hnc52 := NB454_452.out; have hcz53_0 : w49.cell? ⟨gb452, 0, none⟩ = some (.slice none 0 0) := (blk_cell BK452.out 0).trans rfl; have hfz53_0 := blk_frozen BK452.out 0; obtain ⟨Ao54, co54, eo54⟩ := Kd.V_slice HO448.out; subst eo54; have hnb55 := NB453_454.out; have hnc55 := NB454_453.out; have hcz56_0 : w49.cell? ⟨gb453, 0, none⟩ = some (.slice none 0 0) := (blk_cell BK453.out 0).trans rfl; have hfz56_0 := blk_frozen BK453.out 0; obtain ⟨Ao57, co57, eo57⟩ := Kd.V_slice HO451.out; subst eo57; have hcz58_0 : w49.cell? ⟨gb454, 0, none⟩ = some (.slice none 0 0) := (blk_cell BK454.out 0).trans rfl; have hfz58_0 := blk_frozen BK454.out 0))
                  have n0_ : Aside0 (Kd.V (Kd.int .u64) 56 (((w49.setCell ⟨gb452, 0, none⟩ (.slice Ao50 t443.length co50)).setCell ⟨gb453, 0, none⟩ (.slice Ao54 t446.length co54)).setCell ⟨gb454, 0, none⟩ (.slice Ao57 t449.length co57)) w.heap.size (fun k_ => k_ ≠ gb452 ∧ k_ ≠ gb453 ∧ k_ ≠ gb454) (.slice Ao50 t443.length co50) t443) := ⟨by (with_reducible repeat (first | apply Kd.V_alloc | apply Kd.V_drewN | apply Kd.V_drew)); exact Kd.V_mono (Kd.V_far (p := ⟨gb454, 0, none⟩) (Kd.V_far (p := ⟨gb453, 0, none⟩) (Kd.V_far (p := ⟨gb452, 0, none⟩) (Kd.V_mono (Kd.V_mono (Kd.V_mono HO445.out (fun k_ hk => (⟨hk, hk.1.1.2⟩ : _ ∧ k_ ≠ gb452))) (fun k_ hk => (⟨hk, hk.1.1.2⟩ : _ ∧ k_ ≠ gb453))) (fun k_ hk => (⟨hk, hk.1.1.2⟩ : _ ∧ k_ ≠ gb454))) (fun _ hk => hk.1.1.2) (.slice Ao50 t443.length co50)) (fun _ hk => hk.1.2) (.slice Ao54 t446.length co54)) (fun _ hk => hk.2) (.slice Ao57 t449.length co57)) (fun _ hk => ⟨hk.1.1.1.1.1.2, ⟨hk.1.1.1.1.2, hk.1.1.1.2⟩⟩)⟩
                  have n1_ : Aside0 (Kd.V (Kd.int .u64) 56 (((w49.setCell ⟨gb452, 0, none⟩ (.slice Ao50 t443.length co50)).setCell ⟨gb453, 0, none⟩ (.slice Ao54 t446.length co54)).setCell ⟨gb454, 0, none⟩ (.slice Ao57 t449.length co57)) w.heap.size (fun k_ => k_ ≠ gb452 ∧ k_ ≠ gb453 ∧ k_ ≠ gb454) (.slice Ao54 t446.length co54) t446) := ⟨by (with_reducible repeat (first | apply Kd.V_alloc | apply Kd.V_drewN | apply Kd.V_drew)); exact Kd.V_mono (Kd.V_far (p := ⟨gb454, 0, none⟩) (Kd.V_far (p := ⟨gb453, 0, none⟩) (Kd.V_far (p := ⟨gb452, 0, none⟩) (Kd.V_mono (Kd.V_mono (Kd.V_mono HO448.out (fun k_ hk => (⟨hk, hk.1.1.2⟩ : _ ∧ k_ ≠ gb452))) (fun k_ hk => (⟨hk, hk.1.1.2⟩ : _ ∧ k_ ≠ gb453))) (fun k_ hk => (⟨hk, hk.1.1.2⟩ : _ ∧ k_ ≠ gb454))) (fun _ hk => hk.1.1.2) (.slice Ao50 t443.length co50)) (fun _ hk => hk.1.2) (.slice Ao54 t446.length co54)) (fun _ hk => hk.2) (.slice Ao57 t449.length co57)) (fun _ hk => ⟨hk.1.1.1.1.1.2, ⟨hk.1.1.1.1.2, hk.1.1.1.2⟩⟩)⟩
                  have n2_ : Aside0 (Kd.V (Kd.int .u64) 56 (((w49.setCell ⟨gb452, 0, none⟩ (.slice Ao50 t443.length co50)).setCell ⟨gb453, 0, none⟩ (.slice Ao54 t446.length co54)).setCell ⟨gb454, 0, none⟩ (.slice Ao57 t449.length co57)) w.heap.size (fun k_ => k_ ≠ gb452 ∧ k_ ≠ gb453 ∧ k_ ≠ gb454) (.slice Ao57 t449.length co57) t449) := ⟨by (with_reducible repeat (first | apply Kd.V_alloc | apply Kd.V_drewN | apply Kd.V_drew)); exact Kd.V_mono (Kd.V_far (p := ⟨gb454, 0, none⟩) (Kd.V_far (p := ⟨gb453, 0, none⟩) (Kd.V_far (p := ⟨gb452, 0, none⟩) (Kd.V_mono (Kd.V_mono (Kd.V_mono HO451.out (fun k_ hk => (⟨hk, hk.1.1.2⟩ : _ ∧ k_ ≠ gb452))) (fun k_ hk => (⟨hk, hk.1.1.2⟩ : _ ∧ k_ ≠ gb453))) (fun k_ hk => (⟨hk, hk.1.1.2⟩ : _ ∧ k_ ≠ gb454))) (fun _ hk => hk.1.1.2) (.slice Ao50 t443.length co50)) (fun _ hk => hk.1.2) (.slice Ao54 t446.length co54)) (fun _ hk => hk.2) (.slice Ao57 t449.length co57)) (fun _ hk => ⟨hk.1.1.1.1.1.2, ⟨hk.1.1.1.1.2, hk.1.1.1.2⟩⟩)⟩
                  have n3_ : Aside0 ((((w49.setCell ⟨gb452, 0, none⟩ (.slice Ao50 t443.length co50)).setCell ⟨gb453, 0, none⟩ (.slice Ao54 t446.length co54)).setCell ⟨gb454, 0, none⟩ (.slice Ao57 t449.length co57)).heap[gb452]? = some (.cells #[.slice Ao50 t443.length co50] 27 (0, 0))) := ⟨by (with_reducible repeat (first | refine blk_drewN ?_ _ | refine blk_drew ?_ | refine blk_alloc ?_ _)); refine blk_far ?_ NB452_454.out _; (with_reducible repeat (first | refine blk_drewN ?_ _ | refine blk_drew ?_ | refine blk_alloc ?_ _)); refine blk_far ?_ NB452_453.out _; (with_reducible repeat (first | refine blk_drewN ?_ _ | refine blk_drew ?_ | refine blk_alloc ?_ _)); refine blk_put (cs := #[.slice none 0 0]) ?_ 0 _ rfl; (with_reducible repeat (first | refine blk_drewN ?_ _ | refine blk_drew ?_ | refine blk_alloc ?_ _)); exact BK452.out⟩
                  have n4_ : Aside0 ((((w49.setCell ⟨gb452, 0, none⟩ (.slice Ao50 t443.length co50)).setCell ⟨gb453, 0, none⟩ (.slice Ao54 t446.length co54)).setCell ⟨gb454, 0, none⟩ (.slice Ao57 t449.length co57)).heap[gb453]? = some (.cells #[.slice Ao54 t446.length co54] 27 (0, 0))) := ⟨by (with_reducible repeat (first | refine blk_drewN ?_ _ | refine blk_drew ?_ | refine blk_alloc ?_ _)); refine blk_far ?_ NB453_454.out _; (with_reducible repeat (first | refine blk_drewN ?_ _ | refine blk_drew ?_ | refine blk_alloc ?_ _)); refine blk_put (cs := #[.slice none 0 0]) ?_ 0 _ rfl; (with_reducible repeat (first | refine blk_drewN ?_ _ | refine blk_drew ?_ | refine blk_alloc ?_ _)); refine blk_far ?_ NB453_452.out _; (with_reducible repeat (first | refine blk_drewN ?_ _ | refine blk_drew ?_ | refine blk_alloc ?_ _)); exact BK453.out⟩
                  have n5_ : Aside0 ((((w49.setCell ⟨gb452, 0, none⟩ (.slice Ao50 t443.length co50)).setCell ⟨gb453, 0, none⟩ (.slice Ao54 t446.length co54)).setCell ⟨gb454, 0, none⟩ (.slice Ao57 t449.length co57)).heap[gb454]? = some (.cells #[.slice Ao57 t449.length co57] 27 (0, 0))) := ⟨by (with_reducible repeat (first | refine blk_drewN ?_ _ | refine blk_drew ?_ | refine blk_alloc ?_ _)); refine blk_put (cs := #[.slice none 0 0]) ?_ 0 _ rfl; (with_reducible repeat (first | refine blk_drewN ?_ _ | refine blk_drew ?_ | refine blk_alloc ?_ _)); refine blk_far ?_ NB454_453.out _; (with_reducible repeat (first | refine blk_drewN ?_ _ | refine blk_drew ?_ | refine blk_alloc ?_ _)); refine blk_far ?_ NB454_452.out _; (with_reducible repeat (first | refine blk_drewN ?_ _ | refine blk_drew ?_ | refine blk_alloc ?_ _)); exact BK454.out⟩
                  have n6_ : Aside0 (Below w.heap.size w (((w49.setCell ⟨gb452, 0, none⟩ (.slice Ao50 t443.length co50)).setCell ⟨gb453, 0, none⟩ (.slice Ao54 t446.length co54)).setCell ⟨gb454, 0, none⟩ (.slice Ao57 t449.length co57))) := ⟨by repeat (first | (with_reducible first | exact HB.out | apply below_alloc | apply pw_below_drewN | apply below_drew1 | refine below_set ?_ GE452.out | refine below_set ?_ GE453.out | refine below_set ?_ GE454.out) | exact HB.out)⟩
                  (try clear HO445)
                  (try clear HO448)
                  (try clear HO451)
                  (try clear BK452)
                  (try clear BK453)
                  (try clear BK454)
                  (try clear HB)
                  generalize (((w49.setCell ⟨gb452, 0, none⟩ (.slice Ao50 t443.length co50)).setCell ⟨gb453, 0, none⟩ (.slice Ao54 t446.length co54)).setCell ⟨gb454, 0, none⟩ (.slice Ao57 t449.length co57)) = w59 at n0_ n1_ n2_ n3_ n4_ n5_ n6_ ⊢
                  have HO445 := n0_
                  have HO448 := n1_
                  have HO451 := n2_
                  have BK452 := n3_
                  have BK453 := n4_
                  have BK454 := n5_
                  have HB := n6_
                  clear n0_ n1_ n2_ n3_ n4_ n5_ n6_
                  have n0_ := Aside0.mk (Kd.V_drew HO445.out)
                  have n1_ := Aside0.mk (Kd.V_drew HO448.out)
                  have n2_ := Aside0.mk (Kd.V_drew HO451.out)
                  have n3_ := Aside0.mk (blk_drew BK452.out)
                  have n4_ := Aside0.mk (blk_drew BK453.out)
                  have n5_ := Aside0.mk (blk_drew BK454.out)
                  have n6_ := Aside0.mk (below_drew1 HB.out)
                  clear HO445
                  clear HO448
                  clear HO451
                  clear BK452
                  clear BK453
                  clear BK454
                  clear HB
                  have HO445 := n0_
                  have HO448 := n1_
                  have HO451 := n2_
                  have BK452 := n3_
                  have BK453 := n4_
                  have BK454 := n5_
                  have HB := n6_
                  clear n0_ n1_ n2_ n3_ n4_ n5_ n6_
                  refine start_ (n := 63) (S := fun w' => w'.cell? ⟨gb452, 0, none⟩ = some (.slice Ao50 t443.length co50) ∧ w'.cell? ⟨gb453, 0, none⟩ = some (.slice Ao54 t446.length co54) ∧ w'.cell? ⟨gb454, 0, none⟩ = some (.slice Ao57 t449.length co57)) (ds := []) #[false, false, false, false, false, false, false, false, false, false, false, false, false, false, false, false, false, false, false, false, false, false, false, false, false, false, false, false, false, false, false, false, false, false, false, false, false, false, false, false, false, false, false, false, false, false, false, false, false, false, false, false, false, false, false, false, false, false, false, false, false, false, false] (by kernel_rfl) rfl rfl ⟨(blk_cell BK452.out 0).trans rfl, (blk_cell BK453.out 0).trans rfl, (blk_cell BK454.out 0).trans rfl⟩ (fun hHeld => ?_); refine with_tabW tricklelaw04_BitsetAlgebra.tab6 tricklelaw04_BitsetAlgebra.bits6 (fun HT_ HW_ => ?_)
                  generalize w59.drew = w60 at HO445 HO448 HO451 BK452 BK453 BK454 HB hHeld ⊢
                  refine take_ (i := 0) (N := some 31) (v := ?_) (a' := ?_) #[true, false, false, false, false, false, false, false, false, false, false, false, false, false, false, false, false, false, false, false, false, false, false, false, false, false, false, false, false, false, false, false, false, false, false, false, false, false, false, false, false, false, false, false, false, false, false, false, false, false, false, false, false, false, false, false, false, false, false, false, false, false, false] rfl rfl (take_ofW HT_.out HW_.out (by kernel_rfl)) (fun _ _ _ h => h) (Or.inl ⟨by rfl, ?_⟩) hHeld ?_ ?_
                  rotate_left
                  · rintro w' ⟨s0, s1, s2⟩
                    go_simp
                    with_reducible rfl
                  rotate_left
                  · simp only [Act.put, List.setIfInBounds_toArray, List.set_cons_zero, List.set_cons_succ, i64_w, i32_w]
                    rfl
                  refine take_ (i := 1) (N := some 32) (v := ?_) (a' := ?_) #[true, true, false, false, false, false, false, false, false, false, false, false, false, false, false, false, false, false, false, false, false, false, false, false, false, false, false, false, false, false, false, false, false, false, false, false, false, false, false, false, false, false, false, false, false, false, false, false, false, false, false, false, false, false, false, false, false, false, false, false, false, false, false] rfl rfl (take_ofW HT_.out HW_.out (by kernel_rfl)) (fun _ _ _ h => h) (Or.inl ⟨by rfl, ?_⟩) hHeld ?_ ?_
                  rotate_left
                  · rintro w' ⟨s0, s1, s2⟩
                    go_simp
                    with_reducible rfl
                  rotate_left
                  · simp only [Act.put, List.setIfInBounds_toArray, List.set_cons_zero, List.set_cons_succ, i64_w, i32_w]
                    rfl
                  refine take_ (i := 2) (N := some 33) (v := ?_) (a' := ?_) #[true, true, true, false, false, false, false, false, false, false, false, false, false, false, false, false, false, false, false, false, false, false, false, false, false, false, false, false, false, false, false, false, false, false, false, false, false, false, false, false, false, false, false, false, false, false, false, false, false, false, false, false, false, false, false, false, false, false, false, false, false, false, false] rfl rfl (take_ofW HT_.out HW_.out (by kernel_rfl)) (fun _ _ _ h => h) (Or.inl ⟨by rfl, ?_⟩) hHeld ?_ ?_
                  rotate_left
                  · rintro w' ⟨s0, s1, s2⟩
                    go_simp
                    with_reducible rfl
                  rotate_left
                  · simp only [Act.put, List.setIfInBounds_toArray, List.set_cons_zero, List.set_cons_succ, i64_w, i32_w]
                    rfl
                  refine take_ (i := 5) (N := some 36) (v := ?_) (a' := ?_) #[true, true, true, false, false, true, false, false, false, false, false, false, false, false, false, false, false, false, false, false, false, false, false, false, false, false, false, false, false, false, false, false, false, false, false, false, false, false, false, false, false, false, false, false, false, false, false, false, false, false, false, false, false, false, false, false, false, false, false, false, false, false, false] rfl rfl (take_ofW HT_.out HW_.out (by kernel_rfl)) (fun _ _ _ h => h) (Or.inl ⟨by rfl, ?_⟩) hHeld ?_ ?_
                  rotate_left
                  · rintro w' ⟨s0, s1, s2⟩
                    go_simp
                    with_reducible rfl
                  rotate_left
                  · simp only [Act.put, List.setIfInBounds_toArray, List.set_cons_zero, List.set_cons_succ, i64_w, i32_w]
                    rfl
                  refine take_ (i := 6) (N := some 37) (v := ?_) (a' := ?_) #[true, true, true, false, false, true, true, false, false, false, false, false, false, false, false, false, false, false, false, false, false, false, false, false, false, false, false, false, false, false, false, false, false, false, false, false, false, false, false, false, false, false, false, false, false, false, false, false, false, false, false, false, false, false, false, false, false, false, false, false, false, false, false] rfl rfl (take_ofW HT_.out HW_.out (by kernel_rfl)) (fun _ _ _ h => h) (Or.inl ⟨by rfl, ?_⟩) hHeld ?_ ?_
                  rotate_left
                  · rintro w' ⟨s0, s1, s2⟩
                    go_simp
                    with_reducible rfl
                  rotate_left
                  · simp only [Act.put, List.setIfInBounds_toArray, List.set_cons_zero, List.set_cons_succ, i64_w, i32_w]
                    rfl
                  refine take_ (i := 8) (N := some 39) (v := ?_) (a' := ?_) #[true, true, true, false, false, true, true, false, true, false, false, false, false, false, false, false, false, false, false, false, false, false, false, false, false, false, false, false, false, false, false, false, false, false, false, false, false, false, false, false, false, false, false, false, false, false, false, false, false, false, false, false, false, false, false, false, false, false, false, false, false, false, false] rfl rfl (take_ofW HT_.out HW_.out (by kernel_rfl)) (fun _ _ _ h => h) (Or.inl ⟨by rfl, ?_⟩) hHeld ?_ ?_
                  rotate_left
                  · rintro w' ⟨s0, s1, s2⟩
                    go_simp
                    with_reducible rfl
                  rotate_left
                  · simp only [Act.put, List.setIfInBounds_toArray, List.set_cons_zero, List.set_cons_succ, i64_w, i32_w]
                    rfl
                  refine take_ (i := 9) (N := some 40) (v := ?_) (a' := ?_) #[true, true, true, false, false, true, true, false, true, true, false, false, false, false, false, false, false, false, false, false, false, false, false, false, false, false, false, false, false, false, false, false, false, false, false, false, false, false, false, false, false, false, false, false, false, false, false, false, false, false, false, false, false, false, false, false, false, false, false, false, false, false, false] rfl rfl (take_ofW HT_.out HW_.out (by kernel_rfl)) (fun _ _ _ h => h) (Or.inl ⟨by rfl, ?_⟩) hHeld ?_ ?_
                  rotate_left
                  · rintro w' ⟨s0, s1, s2⟩
                    go_simp
                    with_reducible rfl
                  rotate_left
                  · simp only [Act.put, List.setIfInBounds_toArray, List.set_cons_zero, List.set_cons_succ, i64_w, i32_w]
                    rfl
                  refine one_ (i := 3) (N := some 34) #[true, true, true, true, false, true, true, false, true, true, false, false, false, false, false, false, false, false, false, false, false, false, false, false, false, false, false, false, false, false, false, false, false, false, false, false, false, false, false, false, false, false, false, false, false, false, false, false, false, false, false, false, false, false, false, false, false, false, false, false, false, false, false] rfl rfl (one_of HT_.out (by kernel_rfl)) (by decide) (fun K hK => ?_)
                  refine goes_ Tryd.func25 (by kernel_rfl) rfl #[.agg #[.slice Ao54 t446.length co54], .agg #[.slice Ao57 t449.length co57]] (by rfl) rfl rfl (by (try simp only [List.map_toArray, List.map_cons, List.map_nil]); first | done | rfl | (simp only [List.length_drop, List.length_take]; rfl)) ?_
                  with_reducible refine (bitset_Set_Union.calls kj5 _ _ t446 _ _ t449 t455 _ ?side1 ?side2 ?side3 ?side4 A17.out).mono ?_
                  (case side1 => repeat (first | exact (Kd.V_reads' HO448.out).2.2 | (with_reducible refine Kd.C_alloc ?_ _) | (with_reducible refine Kd.C_drewN ?_ _) | (with_reducible refine Kd.C_drew ?_)))
                  (case side2 => exact (Kd.V_reads' HO448.out).2.1)
                  (case side3 => repeat (first | exact (Kd.V_reads' HO451.out).2.2 | (with_reducible refine Kd.C_alloc ?_ _) | (with_reducible refine Kd.C_drewN ?_ _) | (with_reducible refine Kd.C_drew ?_)))
                  (case side4 => exact (Kd.V_reads' HO451.out).2.1)
                  rintro e w61 ⟨v456, rfl, ho0, hb⟩
                  refine ⟨_, rfl, ?_⟩
                  have n0_ := Aside0.mk (Kd.V_below (by (with_reducible repeat (first | apply Kd.V_alloc | apply Kd.V_drewN | apply Kd.V_drew)); exact HO445.out) hb)
                  have n1_ := Aside0.mk (Kd.V_below (by (with_reducible repeat (first | apply Kd.V_alloc | apply Kd.V_drewN | apply Kd.V_drew)); exact HO448.out) hb)
                  have n2_ := Aside0.mk (Kd.V_below (by (with_reducible repeat (first | apply Kd.V_alloc | apply Kd.V_drewN | apply Kd.V_drew)); exact HO451.out) hb)
                  have n3_ := Aside0.mk (Kd.V_lower (Kd.V_mono (ok' := fun k_ => k_ ≠ gb452 ∧ k_ ≠ gb453 ∧ k_ ≠ gb454) ho0 (fun k_ hk_ => ⟨(Kd.freshB (g := gb452) (o := .cells #[.slice Ao50 t443.length co50] 27 (0, 0)) (by (with_reducible repeat (first | refine blk_drewN ?_ _ | refine blk_drew ?_ | refine blk_alloc ?_ _)); exact BK452.out) k_ hk_), (Kd.freshB (g := gb453) (o := .cells #[.slice Ao54 t446.length co54] 27 (0, 0)) (by (with_reducible repeat (first | refine blk_drewN ?_ _ | refine blk_drew ?_ | refine blk_alloc ?_ _)); exact BK453.out) k_ hk_), (Kd.freshB (g := gb454) (o := .cells #[.slice Ao57 t449.length co57] 27 (0, 0)) (by (with_reducible repeat (first | refine blk_drewN ?_ _ | refine blk_drew ?_ | refine blk_alloc ?_ _)); exact BK454.out) k_ hk_)⟩)) (below_size (by repeat (first | (with_reducible first | exact HB.out | apply below_alloc | apply pw_below_drewN | apply below_drew1 | refine below_set ?_ GE452.out | refine below_set ?_ GE453.out | refine below_set ?_ GE454.out) | exact HB.out))))
                  have n4_ := Aside0.mk (blk_below (g := gb452) (o := .cells #[.slice Ao50 t443.length co50] 27 (0, 0)) (by (with_reducible repeat (first | refine blk_drewN ?_ _ | refine blk_drew ?_ | refine blk_alloc ?_ _)); exact BK452.out) hb)
                  have n5_ := Aside0.mk (blk_below (g := gb453) (o := .cells #[.slice Ao54 t446.length co54] 27 (0, 0)) (by (with_reducible repeat (first | refine blk_drewN ?_ _ | refine blk_drew ?_ | refine blk_alloc ?_ _)); exact BK453.out) hb)
                  have n6_ := Aside0.mk (blk_below (g := gb454) (o := .cells #[.slice Ao57 t449.length co57] 27 (0, 0)) (by (with_reducible repeat (first | refine blk_drewN ?_ _ | refine blk_drew ?_ | refine blk_alloc ?_ _)); exact BK454.out) hb)
                  have n7_ := Aside0.mk (below_step (by repeat (first | (with_reducible first | exact HB.out | apply below_alloc | apply pw_below_drewN | apply below_drew1 | refine below_set ?_ GE452.out | refine below_set ?_ GE453.out | refine below_set ?_ GE454.out) | exact HB.out)) hb)
                  clear HO445
                  clear HO448
                  clear HO451
                  clear BK452
                  clear BK453
                  clear BK454
                  clear HB
                  have HO445 := n0_
                  have HO448 := n1_
                  have HO451 := n2_
                  have HO457 := n3_
                  have BK452 := n4_
                  have BK453 := n5_
                  have BK454 := n6_
                  have HB := n7_
                  clear n0_ n1_ n2_ n3_ n4_ n5_ n6_ n7_
                  (try clear hb)
                  (try clear hb2)
                  (try clear hk)
                  (try clear hi)
                  (try clear ho0)
                  obtain ⟨Ao62, co62, eo62⟩ := Kd.V_slice HO457.out
                  (first | subst eo62 | (injection eo62 with f1_ f2_ f3_; have f4_ := f1_.symm; have f5_ := f3_.symm; clear f1_ f2_ f3_; subst f4_; subst f5_))
                  refine hK.out _ _ ⟨(blk_cell BK452.out 0).trans rfl, (blk_cell BK453.out 0).trans rfl, (blk_cell BK454.out 0).trans rfl⟩ (fun hHeld => ?_)
                  clear hK K
                  refine norm_ (a' := ?_) ?_ ?_
                  rotate_left
                  · show Act.put _ (some 34) _ = _
                    simp only [Act.put, List.setIfInBounds_toArray, List.set_cons_zero, List.set_cons_succ, i64_w, i32_w]
                    rfl
                  refine one_ (i := 4) (N := some 35) #[true, true, true, true, true, true, true, false, true, true, false, false, false, false, false, false, false, false, false, false, false, false, false, false, false, false, false, false, false, false, false, false, false, false, false, false, false, false, false, false, false, false, false, false, false, false, false, false, false, false, false, false, false, false, false, false, false, false, false, false, false, false, false] rfl rfl (one_of HT_.out (by kernel_rfl)) (by decide) (fun K hK => ?_)
                  refine goes_ Tryd.func29 (by kernel_rfl) rfl #[.agg #[.slice Ao50 t443.length co50], .agg #[.slice Ao62 t455.length co62]] (by rfl) rfl rfl (by (try simp only [List.map_toArray, List.map_cons, List.map_nil]); first | done | rfl | (simp only [List.length_drop, List.length_take]; rfl)) ?_
                  with_reducible refine (bitset_Set_Minus.calls kj5 _ _ t443 _ _ t455 t458 _ ?side1 ?side2 ?side3 ?side4 A18.out).mono ?_
                  (case side1 => repeat (first | exact (Kd.V_reads' HO445.out).2.2 | (with_reducible refine Kd.C_alloc ?_ _) | (with_reducible refine Kd.C_drewN ?_ _) | (with_reducible refine Kd.C_drew ?_)))
                  (case side2 => exact (Kd.V_reads' HO445.out).2.1)
                  (case side3 => repeat (first | exact (Kd.V_reads' HO457.out).2.2 | (with_reducible refine Kd.C_alloc ?_ _) | (with_reducible refine Kd.C_drewN ?_ _) | (with_reducible refine Kd.C_drew ?_)))
                  (case side4 => exact (Kd.V_reads' HO457.out).2.1)
                  rintro e w63 ⟨v459, rfl, ho0, hb⟩
                  refine ⟨_, rfl, ?_⟩
                  have n0_ := Aside0.mk (Kd.V_below (by (with_reducible repeat (first | apply Kd.V_alloc | apply Kd.V_drewN | apply Kd.V_drew)); exact HO445.out) hb)
                  have n1_ := Aside0.mk (Kd.V_below (by (with_reducible repeat (first | apply Kd.V_alloc | apply Kd.V_drewN | apply Kd.V_drew)); exact HO448.out) hb)
                  have n2_ := Aside0.mk (Kd.V_below (by (with_reducible repeat (first | apply Kd.V_alloc | apply Kd.V_drewN | apply Kd.V_drew)); exact HO451.out) hb)
                  have n3_ := Aside0.mk (Kd.V_below (by (with_reducible repeat (first | apply Kd.V_alloc | apply Kd.V_drewN | apply Kd.V_drew)); exact HO457.out) hb)
                  have n4_ := Aside0.mk (Kd.V_lower (Kd.V_mono (ok' := fun k_ => k_ ≠ gb452 ∧ k_ ≠ gb453 ∧ k_ ≠ gb454) ho0 (fun k_ hk_ => ⟨(Kd.freshB (g := gb452) (o := .cells #[.slice Ao50 t443.length co50] 27 (0, 0)) (by (with_reducible repeat (first | refine blk_drewN ?_ _ | refine blk_drew ?_ | refine blk_alloc ?_ _)); exact BK452.out) k_ hk_), (Kd.freshB (g := gb453) (o := .cells #[.slice Ao54 t446.length co54] 27 (0, 0)) (by (with_reducible repeat (first | refine blk_drewN ?_ _ | refine blk_drew ?_ | refine blk_alloc ?_ _)); exact BK453.out) k_ hk_), (Kd.freshB (g := gb454) (o := .cells #[.slice Ao57 t449.length co57] 27 (0, 0)) (by (with_reducible repeat (first | refine blk_drewN ?_ _ | refine blk_drew ?_ | refine blk_alloc ?_ _)); exact BK454.out) k_ hk_)⟩)) (below_size (by repeat (first | (with_reducible first | exact HB.out | apply below_alloc | apply pw_below_drewN | apply below_drew1 | refine below_set ?_ GE452.out | refine below_set ?_ GE453.out | refine below_set ?_ GE454.out) | exact HB.out))))
                  have n5_ := Aside0.mk (blk_below (g := gb452) (o := .cells #[.slice Ao50 t443.length co50] 27 (0, 0)) (by (with_reducible repeat (first | refine blk_drewN ?_ _ | refine blk_drew ?_ | refine blk_alloc ?_ _)); exact BK452.out) hb)
                  have n6_ := Aside0.mk (blk_below (g := gb453) (o := .cells #[.slice Ao54 t446.length co54] 27 (0, 0)) (by (with_reducible repeat (first | refine blk_drewN ?_ _ | refine blk_drew ?_ | refine blk_alloc ?_ _)); exact BK453.out) hb)
                  have n7_ := Aside0.mk (blk_below (g := gb454) (o := .cells #[.slice Ao57 t449.length co57] 27 (0, 0)) (by (with_reducible repeat (first | refine blk_drewN ?_ _ | refine blk_drew ?_ | refine blk_alloc ?_ _)); exact BK454.out) hb)
                  have n8_ := Aside0.mk (below_step (by repeat (first | (with_reducible first | exact HB.out | apply below_alloc | apply pw_below_drewN | apply below_drew1 | refine below_set ?_ GE452.out | refine below_set ?_ GE453.out | refine below_set ?_ GE454.out) | exact HB.out)) hb)
                  clear HO445
                  clear HO448
                  clear HO451
                  clear HO457
                  clear BK452
                  clear BK453
                  clear BK454
                  clear HB
                  have HO445 := n0_
                  have HO448 := n1_
                  have HO451 := n2_
                  have HO457 := n3_
                  have HO460 := n4_
                  have BK452 := n5_
                  have BK453 := n6_
                  have BK454 := n7_
                  have HB := n8_
                  clear n0_ n1_ n2_ n3_ n4_ n5_ n6_ n7_ n8_
                  (try clear hb)
                  (try clear hb2)
                  (try clear hk)
                  (try clear hi)
                  (try clear ho0)
                  refine hK.out _ _ ⟨(blk_cell BK452.out 0).trans rfl, (blk_cell BK453.out 0).trans rfl, (blk_cell BK454.out 0).trans rfl⟩ (fun hHeld => ?_)
                  clear hK K
                  refine norm_ (a' := ?_) ?_ ?_
                  rotate_left
                  · show Act.put _ (some 35) _ = _
                    simp only [Act.put, List.setIfInBounds_toArray, List.set_cons_zero, List.set_cons_succ, i64_w, i32_w]
                    rfl
                  refine one_ (i := 7) (N := some 38) #[true, true, true, true, true, true, true, true, true, true, false, false, false, false, false, false, false, false, false, false, false, false, false, false, false, false, false, false, false, false, false, false, false, false, false, false, false, false, false, false, false, false, false, false, false, false, false, false, false, false, false, false, false, false, false, false, false, false, false, false, false, false, false] rfl rfl (one_of HT_.out (by kernel_rfl)) (by decide) (fun K hK => ?_)
                  refine goes_ Tryd.func29 (by kernel_rfl) rfl #[.agg #[.slice Ao50 t443.length co50], .agg #[.slice Ao54 t446.length co54]] (by rfl) rfl rfl (by (try simp only [List.map_toArray, List.map_cons, List.map_nil]); first | done | rfl | (simp only [List.length_drop, List.length_take]; rfl)) ?_
                  with_reducible refine (bitset_Set_Minus.calls kj5 _ _ t443 _ _ t446 t461 _ ?side1 ?side2 ?side3 ?side4 A19.out).mono ?_
                  (case side1 => repeat (first | exact (Kd.V_reads' HO445.out).2.2 | (with_reducible refine Kd.C_alloc ?_ _) | (with_reducible refine Kd.C_drewN ?_ _) | (with_reducible refine Kd.C_drew ?_)))
                  (case side2 => exact (Kd.V_reads' HO445.out).2.1)
                  (case side3 => repeat (first | exact (Kd.V_reads' HO448.out).2.2 | (with_reducible refine Kd.C_alloc ?_ _) | (with_reducible refine Kd.C_drewN ?_ _) | (with_reducible refine Kd.C_drew ?_)))
                  (case side4 => exact (Kd.V_reads' HO448.out).2.1)
                  rintro e w64 ⟨v462, rfl, ho0, hb⟩
                  refine ⟨_, rfl, ?_⟩
                  have n0_ := Aside0.mk (Kd.V_below (by (with_reducible repeat (first | apply Kd.V_alloc | apply Kd.V_drewN | apply Kd.V_drew)); exact HO445.out) hb)
                  have n1_ := Aside0.mk (Kd.V_below (by (with_reducible repeat (first | apply Kd.V_alloc | apply Kd.V_drewN | apply Kd.V_drew)); exact HO448.out) hb)
                  have n2_ := Aside0.mk (Kd.V_below (by (with_reducible repeat (first | apply Kd.V_alloc | apply Kd.V_drewN | apply Kd.V_drew)); exact HO451.out) hb)
                  have n3_ := Aside0.mk (Kd.V_below (by (with_reducible repeat (first | apply Kd.V_alloc | apply Kd.V_drewN | apply Kd.V_drew)); exact HO457.out) hb)
                  have n4_ := Aside0.mk (Kd.V_below (by (with_reducible repeat (first | apply Kd.V_alloc | apply Kd.V_drewN | apply Kd.V_drew)); exact HO460.out) hb)
                  have n5_ := Aside0.mk (Kd.V_lower (Kd.V_mono (ok' := fun k_ => k_ ≠ gb452 ∧ k_ ≠ gb453 ∧ k_ ≠ gb454) ho0 (fun k_ hk_ => ⟨(Kd.freshB (g := gb452) (o := .cells #[.slice Ao50 t443.length co50] 27 (0, 0)) (by (with_reducible repeat (first | refine blk_drewN ?_ _ | refine blk_drew ?_ | refine blk_alloc ?_ _)); exact BK452.out) k_ hk_), (Kd.freshB (g := gb453) (o := .cells #[.slice Ao54 t446.length co54] 27 (0, 0)) (by (with_reducible repeat (first | refine blk_drewN ?_ _ | refine blk_drew ?_ | refine blk_alloc ?_ _)); exact BK453.out) k_ hk_), (Kd.freshB (g := gb454) (o := .cells #[.slice Ao57 t449.length co57] 27 (0, 0)) (by (with_reducible repeat (first | refine blk_drewN ?_ _ | refine blk_drew ?_ | refine blk_alloc ?_ _)); exact BK454.out) k_ hk_)⟩)) (below_size (by repeat (first | (with_reducible first | exact HB.out | apply below_alloc | apply pw_below_drewN | apply below_drew1 | refine below_set ?_ GE452.out | refine below_set ?_ GE453.out | refine below_set ?_ GE454.out) | exact HB.out))))
                  have n6_ := Aside0.mk (blk_below (g := gb452) (o := .cells #[.slice Ao50 t443.length co50] 27 (0, 0)) (by (with_reducible repeat (first | refine blk_drewN ?_ _ | refine blk_drew ?_ | refine blk_alloc ?_ _)); exact BK452.out) hb)
                  have n7_ := Aside0.mk (blk_below (g := gb453) (o := .cells #[.slice Ao54 t446.length co54] 27 (0, 0)) (by (with_reducible repeat (first | refine blk_drewN ?_ _ | refine blk_drew ?_ | refine blk_alloc ?_ _)); exact BK453.out) hb)
                  have n8_ := Aside0.mk (blk_below (g := gb454) (o := .cells #[.slice Ao57 t449.length co57] 27 (0, 0)) (by (with_reducible repeat (first | refine blk_drewN ?_ _ | refine blk_drew ?_ | refine blk_alloc ?_ _)); exact BK454.out) hb)
                  have n9_ := Aside0.mk (below_step (by repeat (first | (with_reducible first | exact HB.out | apply below_alloc | apply pw_below_drewN | apply below_drew1 | refine below_set ?_ GE452.out | refine below_set ?_ GE453.out | refine below_set ?_ GE454.out) | exact HB.out)) hb)
                  clear HO445
                  clear HO448
                  clear HO451
                  clear HO457
                  clear HO460
                  clear BK452
                  clear BK453
                  clear BK454
                  clear HB
                  have HO445 := n0_
                  have HO448 := n1_
                  have HO451 := n2_
                  have HO457 := n3_
                  have HO460 := n4_
                  have HO463 := n5_
                  have BK452 := n6_
                  have BK453 := n7_
                  have BK454 := n8_
                  have HB := n9_
                  clear n0_ n1_ n2_ n3_ n4_ n5_ n6_ n7_ n8_ n9_
                  (try clear hb)
                  (try clear hb2)
                  (try clear hk)
                  (try clear hi)
                  (try clear ho0)
                  refine hK.out _ _ ⟨(blk_cell BK452.out 0).trans rfl, (blk_cell BK453.out 0).trans rfl, (blk_cell BK454.out 0).trans rfl⟩ (fun hHeld => ?_)
                  clear hK K
                  refine norm_ (a' := ?_) ?_ ?_
                  rotate_left
                  · show Act.put _ (some 38) _ = _
                    simp only [Act.put, List.setIfInBounds_toArray, List.set_cons_zero, List.set_cons_succ, i64_w, i32_w]
                    rfl
                  refine one_ (i := 10) (N := some 41) #[true, true, true, true, true, true, true, true, true, true, true, false, false, false, false, false, false, false, false, false, false, false, false, false, false, false, false, false, false, false, false, false, false, false, false, false, false, false, false, false, false, false, false, false, false, false, false, false, false, false, false, false, false, false, false, false, false, false, false, false, false, false, false] rfl rfl (one_of HT_.out (by kernel_rfl)) (by decide) (fun K hK => ?_)
                  refine goes_ Tryd.func29 (by kernel_rfl) rfl #[.agg #[.slice Ao50 t443.length co50], .agg #[.slice Ao57 t449.length co57]] (by rfl) rfl rfl (by (try simp only [List.map_toArray, List.map_cons, List.map_nil]); first | done | rfl | (simp only [List.length_drop, List.length_take]; rfl)) ?_
                  with_reducible refine (bitset_Set_Minus.calls kj5 _ _ t443 _ _ t449 t464 _ ?side1 ?side2 ?side3 ?side4 A20.out).mono ?_
                  (case side1 => repeat (first | exact (Kd.V_reads' HO445.out).2.2 | (with_reducible refine Kd.C_alloc ?_ _) | (with_reducible refine Kd.C_drewN ?_ _) | (with_reducible refine Kd.C_drew ?_)))
                  (case side2 => exact (Kd.V_reads' HO445.out).2.1)
                  (case side3 => repeat (first | exact (Kd.V_reads' HO451.out).2.2 | (with_reducible refine Kd.C_alloc ?_ _) | (with_reducible refine Kd.C_drewN ?_ _) | (with_reducible refine Kd.C_drew ?_)))
                  (case side4 => exact (Kd.V_reads' HO451.out).2.1)
                  rintro e w65 ⟨v465, rfl, ho0, hb⟩
                  refine ⟨_, rfl, ?_⟩
                  have n0_ := Aside0.mk (Kd.V_below (by (with_reducible repeat (first | apply Kd.V_alloc | apply Kd.V_drewN | apply Kd.V_drew)); exact HO445.out) hb)
                  have n1_ := Aside0.mk (Kd.V_below (by (with_reducible repeat (first | apply Kd.V_alloc | apply Kd.V_drewN | apply Kd.V_drew)); exact HO448.out) hb)
                  have n2_ := Aside0.mk (Kd.V_below (by (with_reducible repeat (first | apply Kd.V_alloc | apply Kd.V_drewN | apply Kd.V_drew)); exact HO451.out) hb)
                  have n3_ := Aside0.mk (Kd.V_below (by (with_reducible repeat (first | apply Kd.V_alloc | apply Kd.V_drewN | apply Kd.V_drew)); exact HO457.out) hb)
                  have n4_ := Aside0.mk (Kd.V_below (by (with_reducible repeat (first | apply Kd.V_alloc | apply Kd.V_drewN | apply Kd.V_drew)); exact HO460.out) hb)
                  have n5_ := Aside0.mk (Kd.V_below (by (with_reducible repeat (first | apply Kd.V_alloc | apply Kd.V_drewN | apply Kd.V_drew)); exact HO463.out) hb)
                  have n6_ := Aside0.mk (Kd.V_lower (Kd.V_mono (ok' := fun k_ => k_ ≠ gb452 ∧ k_ ≠ gb453 ∧ k_ ≠ gb454) ho0 (fun k_ hk_ => ⟨(Kd.freshB (g := gb452) (o := .cells #[.slice Ao50 t443.length co50] 27 (0, 0)) (by (with_reducible repeat (first | refine blk_drewN ?_ _ | refine blk_drew ?_ | refine blk_alloc ?_ _)); exact BK452.out) k_ hk_), (Kd.freshB (g := gb453) (o := .cells #[.slice Ao54 t446.length co54] 27 (0, 0)) (by (with_reducible repeat (first | refine blk_drewN ?_ _ | refine blk_drew ?_ | refine blk_alloc ?_ _)); exact BK453.out) k_ hk_), (Kd.freshB (g := gb454) (o := .cells #[.slice Ao57 t449.length co57] 27 (0, 0)) (by (with_reducible repeat (first | refine blk_drewN ?_ _ | refine blk_drew ?_ | refine blk_alloc ?_ _)); exact BK454.out) k_ hk_)⟩)) (below_size (by repeat (first | (with_reducible first | exact HB.out | apply below_alloc | apply pw_below_drewN | apply below_drew1 | refine below_set ?_ GE452.out | refine below_set ?_ GE453.out | refine below_set ?_ GE454.out) | exact HB.out))))
                  have n7_ := Aside0.mk (blk_below (g := gb452) (o := .cells #[.slice Ao50 t443.length co50] 27 (0, 0)) (by (with_reducible repeat (first | refine blk_drewN ?_ _ | refine blk_drew ?_ | refine blk_alloc ?_ _)); exact BK452.out) hb)
                  have n8_ := Aside0.mk (blk_below (g := gb453) (o := .cells #[.slice Ao54 t446.length co54] 27 (0, 0)) (by (with_reducible repeat (first | refine blk_drewN ?_ _ | refine blk_drew ?_ | refine blk_alloc ?_ _)); exact BK453.out) hb)
                  have n9_ := Aside0.mk (blk_below (g := gb454) (o := .cells #[.slice Ao57 t449.length co57] 27 (0, 0)) (by (with_reducible repeat (first | refine blk_drewN ?_ _ | refine blk_drew ?_ | refine blk_alloc ?_ _)); exact BK454.out) hb)
                  have n10_ := Aside0.mk (below_step (by repeat (first | (with_reducible first | exact HB.out | apply below_alloc | apply pw_below_drewN | apply below_drew1 | refine below_set ?_ GE452.out | refine below_set ?_ GE453.out | refine below_set ?_ GE454.out) | exact HB.out)) hb)
                  clear HO445
                  clear HO448
                  clear HO451
                  clear HO457
                  clear HO460
                  clear HO463
                  clear BK452
                  clear BK453
                  clear BK454
                  clear HB
                  have HO445 := n0_
                  have HO448 := n1_
                  have HO451 := n2_
                  have HO457 := n3_
                  have HO460 := n4_
                  have HO463 := n5_
                  have HO466 := n6_
                  have BK452 := n7_
                  have BK453 := n8_
                  have BK454 := n9_
                  have HB := n10_
                  clear n0_ n1_ n2_ n3_ n4_ n5_ n6_ n7_ n8_ n9_ n10_
                  (try clear hb)
                  (try clear hb2)
                  (try clear hk)
                  (try clear hi)
                  (try clear ho0)
                  obtain ⟨Ao66, co66, eo66⟩ := Kd.V_slice HO463.out
                  (first | subst eo66 | (injection eo66 with f1_ f2_ f3_; have f4_ := f1_.symm; have f5_ := f3_.symm; clear f1_ f2_ f3_; subst f4_; subst f5_))
                  obtain ⟨Ao67, co67, eo67⟩ := Kd.V_slice HO466.out
                  (first | subst eo67 | (injection eo67 with f1_ f2_ f3_; have f4_ := f1_.symm; have f5_ := f3_.symm; clear f1_ f2_ f3_; subst f4_; subst f5_))
                  refine hK.out _ _ ⟨(blk_cell BK452.out 0).trans rfl, (blk_cell BK453.out 0).trans rfl, (blk_cell BK454.out 0).trans rfl⟩ (fun hHeld => ?_)
                  clear hK K
                  refine norm_ (a' := ?_) ?_ ?_
                  rotate_left
                  · show Act.put _ (some 41) _ = _
                    simp only [Act.put, List.setIfInBounds_toArray, List.set_cons_zero, List.set_cons_succ, i64_w, i32_w]
                    rfl
                  refine one_ (i := 11) (N := some 42) #[true, true, true, true, true, true, true, true, true, true, true, true, false, false, false, false, false, false, false, false, false, false, false, false, false, false, false, false, false, false, false, false, false, false, false, false, false, false, false, false, false, false, false, false, false, false, false, false, false, false, false, false, false, false, false, false, false, false, false, false, false, false, false] rfl rfl (one_of HT_.out (by kernel_rfl)) (by decide) (fun K hK => ?_)
                  refine goes_ Tryd.func27 (by kernel_rfl) rfl #[.agg #[.slice Ao66 t461.length co66], .agg #[.slice Ao67 t464.length co67]] (by rfl) rfl rfl (by (try simp only [List.map_toArray, List.map_cons, List.map_nil]); first | done | rfl | (simp only [List.length_drop, List.length_take]; rfl)) ?_
                  with_reducible refine (bitset_Set_Intersect.calls kj5 _ _ t461 _ _ t464 t467 _ ?side1 ?side2 ?side3 ?side4 A21.out).mono ?_
                  (case side1 => repeat (first | exact (Kd.V_reads' HO463.out).2.2 | (with_reducible refine Kd.C_alloc ?_ _) | (with_reducible refine Kd.C_drewN ?_ _) | (with_reducible refine Kd.C_drew ?_)))
                  (case side2 => exact (Kd.V_reads' HO463.out).2.1)
                  (case side3 => repeat (first | exact (Kd.V_reads' HO466.out).2.2 | (with_reducible refine Kd.C_alloc ?_ _) | (with_reducible refine Kd.C_drewN ?_ _) | (with_reducible refine Kd.C_drew ?_)))
                  (case side4 => exact (Kd.V_reads' HO466.out).2.1)
                  rintro e w68 ⟨v468, rfl, ho0, hb⟩
                  refine ⟨_, rfl, ?_⟩
                  have n0_ := Aside0.mk (Kd.V_below (by (with_reducible repeat (first | apply Kd.V_alloc | apply Kd.V_drewN | apply Kd.V_drew)); exact HO445.out) hb)
                  have n1_ := Aside0.mk (Kd.V_below (by (with_reducible repeat (first | apply Kd.V_alloc | apply Kd.V_drewN | apply Kd.V_drew)); exact HO448.out) hb)
                  have n2_ := Aside0.mk (Kd.V_below (by (with_reducible repeat (first | apply Kd.V_alloc | apply Kd.V_drewN | apply Kd.V_drew)); exact HO451.out) hb)
                  have n3_ := Aside0.mk (Kd.V_below (by (with_reducible repeat (first | apply Kd.V_alloc | apply Kd.V_drewN | apply Kd.V_drew)); exact HO457.out) hb)
                  have n4_ := Aside0.mk (Kd.V_below (by (with_reducible repeat (first | apply Kd.V_alloc | apply Kd.V_drewN | apply Kd.V_drew)); exact HO460.out) hb)
                  have n5_ := Aside0.mk (Kd.V_below (by (with_reducible repeat (first | apply Kd.V_alloc | apply Kd.V_drewN | apply Kd.V_drew)); exact HO463.out) hb)
                  have n6_ := Aside0.mk (Kd.V_below (by (with_reducible repeat (first | apply Kd.V_alloc | apply Kd.V_drewN | apply Kd.V_drew)); exact HO466.out) hb)
                  have n7_ := Aside0.mk (Kd.V_lower (Kd.V_mono (ok' := fun k_ => k_ ≠ gb452 ∧ k_ ≠ gb453 ∧ k_ ≠ gb454) ho0 (fun k_ hk_ => ⟨(Kd.freshB (g := gb452) (o := .cells #[.slice Ao50 t443.length co50] 27 (0, 0)) (by (with_reducible repeat (first | refine blk_drewN ?_ _ | refine blk_drew ?_ | refine blk_alloc ?_ _)); exact BK452.out) k_ hk_), (Kd.freshB (g := gb453) (o := .cells #[.slice Ao54 t446.length co54] 27 (0, 0)) (by (with_reducible repeat (first | refine blk_drewN ?_ _ | refine blk_drew ?_ | refine blk_alloc ?_ _)); exact BK453.out) k_ hk_), (Kd.freshB (g := gb454) (o := .cells #[.slice Ao57 t449.length co57] 27 (0, 0)) (by (with_reducible repeat (first | refine blk_drewN ?_ _ | refine blk_drew ?_ | refine blk_alloc ?_ _)); exact BK454.out) k_ hk_)⟩)) (below_size (by repeat (first | (with_reducible first | exact HB.out | apply below_alloc | apply pw_below_drewN | apply below_drew1 | refine below_set ?_ GE452.out | refine below_set ?_ GE453.out | refine below_set ?_ GE454.out) | exact HB.out))))
                  have n8_ := Aside0.mk (blk_below (g := gb452) (o := .cells #[.slice Ao50 t443.length co50] 27 (0, 0)) (by (with_reducible repeat (first | refine blk_drewN ?_ _ | refine blk_drew ?_ | refine blk_alloc ?_ _)); exact BK452.out) hb)
                  have n9_ := Aside0.mk (blk_below (g := gb453) (o := .cells #[.slice Ao54 t446.length co54] 27 (0, 0)) (by (with_reducible repeat (first | refine blk_drewN ?_ _ | refine blk_drew ?_ | refine blk_alloc ?_ _)); exact BK453.out) hb)
                  have n10_ := Aside0.mk (blk_below (g := gb454) (o := .cells #[.slice Ao57 t449.length co57] 27 (0, 0)) (by (with_reducible repeat (first | refine blk_drewN ?_ _ | refine blk_drew ?_ | refine blk_alloc ?_ _)); exact BK454.out) hb)
                  have n11_ := Aside0.mk (below_step (by repeat (first | (with_reducible first | exact HB.out | apply below_alloc | apply pw_below_drewN | apply below_drew1 | refine below_set ?_ GE452.out | refine below_set ?_ GE453.out | refine below_set ?_ GE454.out) | exact HB.out)) hb)
                  clear HO445
                  clear HO448
                  clear HO451
                  clear HO457
                  clear HO460
                  clear HO463
                  clear HO466
                  clear BK452
                  clear BK453
                  clear BK454
                  clear HB
                  have HO445 := n0_
                  have HO448 := n1_
                  have HO451 := n2_
                  have HO457 := n3_
                  have HO460 := n4_
                  have HO463 := n5_
                  have HO466 := n6_
                  have HO469 := n7_
                  have BK452 := n8_
                  have BK453 := n9_
                  have BK454 := n10_
                  have HB := n11_
                  clear n0_ n1_ n2_ n3_ n4_ n5_ n6_ n7_ n8_ n9_ n10_ n11_
                  (try clear hb)
                  (try clear hb2)
                  (try clear hk)
                  (try clear hi)
                  (try clear ho0)
                  obtain ⟨Ao69, co69, eo69⟩ := Kd.V_slice HO460.out
                  (first | subst eo69 | (injection eo69 with f1_ f2_ f3_; have f4_ := f1_.symm; have f5_ := f3_.symm; clear f1_ f2_ f3_; subst f4_; subst f5_))
                  obtain ⟨Ao70, co70, eo70⟩ := Kd.V_slice HO469.out
                  (first | subst eo70 | (injection eo70 with f1_ f2_ f3_; have f4_ := f1_.symm; have f5_ := f3_.symm; clear f1_ f2_ f3_; subst f4_; subst f5_))
                  refine hK.out _ _ ⟨(blk_cell BK452.out 0).trans rfl, (blk_cell BK453.out 0).trans rfl, (blk_cell BK454.out 0).trans rfl⟩ (fun hHeld => ?_)
                  clear hK K
                  refine norm_ (a' := ?_) ?_ ?_
                  rotate_left
                  · show Act.put _ (some 42) _ = _
                    simp only [Act.put, List.setIfInBounds_toArray, List.set_cons_zero, List.set_cons_succ, i64_w, i32_w]
                    rfl
                  refine one_ (i := 12) (N := some 43) #[true, true, true, true, true, true, true, true, true, true, true, true, true, false, false, false, false, false, false, false, false, false, false, false, false, false, false, false, false, false, false, false, false, false, false, false, false, false, false, false, false, false, false, false, false, false, false, false, false, false, false, false, false, false, false, false, false, false, false, false, false, false, false] rfl rfl (one_of HT_.out (by kernel_rfl)) (by decide) (fun K hK => ?_)
                  refine goes_ Tryd.func34 (by kernel_rfl) rfl #[.agg #[.slice Ao69 t458.length co69], .agg #[.slice Ao70 t467.length co70]] (by rfl) rfl rfl (by (try simp only [List.map_toArray, List.map_cons, List.map_nil]); first | done | rfl | (simp only [List.length_drop, List.length_take]; rfl)) ?_
                  with_reducible refine (bitset_Set_Equal.calls kj5 _ _ t458 _ _ t467 true _ ?side1 ?side2 ?side3 ?side4 A22.out).mono ?_
                  (case side1 => repeat (first | exact (Kd.V_reads' HO460.out).2.2 | (with_reducible refine Kd.C_alloc ?_ _) | (with_reducible refine Kd.C_drewN ?_ _) | (with_reducible refine Kd.C_drew ?_)))
                  (case side2 => exact (Kd.V_reads' HO460.out).2.1)
                  (case side3 => repeat (first | exact (Kd.V_reads' HO469.out).2.2 | (with_reducible refine Kd.C_alloc ?_ _) | (with_reducible refine Kd.C_drewN ?_ _) | (with_reducible refine Kd.C_drew ?_)))
                  (case side4 => exact (Kd.V_reads' HO469.out).2.1)
                  rintro e w71 ⟨rfl, hb⟩
                  refine ⟨_, rfl, ?_⟩
                  have n0_ := Aside0.mk (Kd.V_below (by (with_reducible repeat (first | apply Kd.V_alloc | apply Kd.V_drewN | apply Kd.V_drew)); exact HO445.out) hb)
                  have n1_ := Aside0.mk (Kd.V_below (by (with_reducible repeat (first | apply Kd.V_alloc | apply Kd.V_drewN | apply Kd.V_drew)); exact HO448.out) hb)
                  have n2_ := Aside0.mk (Kd.V_below (by (with_reducible repeat (first | apply Kd.V_alloc | apply Kd.V_drewN | apply Kd.V_drew)); exact HO451.out) hb)
                  have n3_ := Aside0.mk (Kd.V_below (by (with_reducible repeat (first | apply Kd.V_alloc | apply Kd.V_drewN | apply Kd.V_drew)); exact HO457.out) hb)
                  have n4_ := Aside0.mk (Kd.V_below (by (with_reducible repeat (first | apply Kd.V_alloc | apply Kd.V_drewN | apply Kd.V_drew)); exact HO460.out) hb)
                  have n5_ := Aside0.mk (Kd.V_below (by (with_reducible repeat (first | apply Kd.V_alloc | apply Kd.V_drewN | apply Kd.V_drew)); exact HO463.out) hb)
                  have n6_ := Aside0.mk (Kd.V_below (by (with_reducible repeat (first | apply Kd.V_alloc | apply Kd.V_drewN | apply Kd.V_drew)); exact HO466.out) hb)
                  have n7_ := Aside0.mk (Kd.V_below (by (with_reducible repeat (first | apply Kd.V_alloc | apply Kd.V_drewN | apply Kd.V_drew)); exact HO469.out) hb)
                  have n8_ := Aside0.mk (blk_below (g := gb452) (o := .cells #[.slice Ao50 t443.length co50] 27 (0, 0)) (by (with_reducible repeat (first | refine blk_drewN ?_ _ | refine blk_drew ?_ | refine blk_alloc ?_ _)); exact BK452.out) hb)
                  have n9_ := Aside0.mk (blk_below (g := gb453) (o := .cells #[.slice Ao54 t446.length co54] 27 (0, 0)) (by (with_reducible repeat (first | refine blk_drewN ?_ _ | refine blk_drew ?_ | refine blk_alloc ?_ _)); exact BK453.out) hb)
                  have n10_ := Aside0.mk (blk_below (g := gb454) (o := .cells #[.slice Ao57 t449.length co57] 27 (0, 0)) (by (with_reducible repeat (first | refine blk_drewN ?_ _ | refine blk_drew ?_ | refine blk_alloc ?_ _)); exact BK454.out) hb)
                  have n11_ := Aside0.mk (below_step (by repeat (first | (with_reducible first | exact HB.out | apply below_alloc | apply pw_below_drewN | apply below_drew1 | refine below_set ?_ GE452.out | refine below_set ?_ GE453.out | refine below_set ?_ GE454.out) | exact HB.out)) hb)
                  clear HO445
                  clear HO448
                  clear HO451
                  clear HO457
                  clear HO460
                  clear HO463
                  clear HO466
                  clear HO469
                  clear BK452
                  clear BK453
                  clear BK454
                  clear HB
                  have HO445 := n0_
                  have HO448 := n1_
                  have HO451 := n2_
                  have HO457 := n3_
                  have HO460 := n4_
                  have HO463 := n5_
                  have HO466 := n6_
                  have HO469 := n7_
                  have BK452 := n8_
                  have BK453 := n9_
                  have BK454 := n10_
                  have HB := n11_
                  clear n0_ n1_ n2_ n3_ n4_ n5_ n6_ n7_ n8_ n9_ n10_ n11_
                  (try clear hb)
                  (try clear hb2)
                  (try clear hk)
                  (try clear hi)
                  refine hK.out _ _ ⟨(blk_cell BK452.out 0).trans rfl, (blk_cell BK453.out 0).trans rfl, (blk_cell BK454.out 0).trans rfl⟩ (fun hHeld => ?_)
                  clear hK K
                  refine norm_ (a' := ?_) ?_ ?_
                  rotate_left
                  · show Act.put _ (some 43) _ = _
                    simp only [Act.put, List.setIfInBounds_toArray, List.set_cons_zero, List.set_cons_succ, i64_w, i32_w]
                    rfl
                  refine pure_ (i := 13) (N := some 44) (v := ?_) (a' := ?_) #[true, true, true, true, true, true, true, true, true, true, true, true, true, true, false, false, false, false, false, false, false, false, false, false, false, false, false, false, false, false, false, false, false, false, false, false, false, false, false, false, false, false, false, false, false, false, false, false, false, false, false, false, false, false, false, false, false, false, false, false, false, false, false] rfl rfl (any_of HT_.out (by kernel_rfl)) (fun _ _ _ h => h) (Or.inl ⟨by rfl, ?_⟩) ?_ ?_
                  rotate_left
                  · intro w'
                    go_simp
                    with_reducible rfl
                  rotate_left
                  · simp only [Act.put, List.setIfInBounds_toArray, List.set_cons_zero, List.set_cons_succ, i64_w, i32_w]
                    rfl
                  refine take_ (i := 14) (N := some 45) (v := ?_) (a' := ?_) #[true, true, true, true, true, true, true, true, true, true, true, true, true, true, true, false, false, false, false, false, false, false, false, false, false, false, false, false, false, false, false, false, false, false, false, false, false, false, false, false, false, false, false, false, false, false, false, false, false, false, false, false, false, false, false, false, false, false, false, false, false, false, false] rfl rfl (take_ofW HT_.out HW_.out (by kernel_rfl)) (fun _ _ _ h => h) (Or.inl ⟨by rfl, ?_⟩) hHeld ?_ ?_
                  rotate_left
                  · rintro w' ⟨s0, s1, s2⟩
                    go_simp
                    with_reducible rfl
                  rotate_left
                  · simp only [Act.put, List.setIfInBounds_toArray, List.set_cons_zero, List.set_cons_succ, i64_w, i32_w]
                    rfl
                  refine take_ (i := 15) (N := some 46) (v := ?_) (a' := ?_) #[true, true, true, true, true, true, true, true, true, true, true, true, true, true, true, true, false, false, false, false, false, false, false, false, false, false, false, false, false, false, false, false, false, false, false, false, false, false, false, false, false, false, false, false, false, false, false, false, false, false, false, false, false, false, false, false, false, false, false, false, false, false, false] rfl rfl (take_ofW HT_.out HW_.out (by kernel_rfl)) (fun _ _ _ h => h) (Or.inl ⟨by rfl, ?_⟩) hHeld ?_ ?_
                  rotate_left
                  · rintro w' ⟨s0, s1, s2⟩
                    go_simp
                    with_reducible rfl
                  rotate_left
                  · simp only [Act.put, List.setIfInBounds_toArray, List.set_cons_zero, List.set_cons_succ, i64_w, i32_w]
                    rfl
                  refine take_ (i := 16) (N := some 47) (v := ?_) (a' := ?_) #[true, true, true, true, true, true, true, true, true, true, true, true, true, true, true, true, true, false, false, false, false, false, false, false, false, false, false, false, false, false, false, false, false, false, false, false, false, false, false, false, false, false, false, false, false, false, false, false, false, false, false, false, false, false, false, false, false, false, false, false, false, false, false] rfl rfl (take_ofW HT_.out HW_.out (by kernel_rfl)) (fun _ _ _ h => h) (Or.inl ⟨by rfl, ?_⟩) hHeld ?_ ?_
                  rotate_left
                  · rintro w' ⟨s0, s1, s2⟩
                    go_simp
                    with_reducible rfl
                  rotate_left
                  · simp only [Act.put, List.setIfInBounds_toArray, List.set_cons_zero, List.set_cons_succ, i64_w, i32_w]
                    rfl
                  refine take_ (i := 19) (N := some 50) (v := ?_) (a' := ?_) #[true, true, true, true, true, true, true, true, true, true, true, true, true, true, true, true, true, false, false, true, false, false, false, false, false, false, false, false, false, false, false, false, false, false, false, false, false, false, false, false, false, false, false, false, false, false, false, false, false, false, false, false, false, false, false, false, false, false, false, false, false, false, false] rfl rfl (take_ofW HT_.out HW_.out (by kernel_rfl)) (fun _ _ _ h => h) (Or.inl ⟨by rfl, ?_⟩) hHeld ?_ ?_
                  rotate_left
                  · rintro w' ⟨s0, s1, s2⟩
                    go_simp
                    with_reducible rfl
                  rotate_left
                  · simp only [Act.put, List.setIfInBounds_toArray, List.set_cons_zero, List.set_cons_succ, i64_w, i32_w]
                    rfl
                  refine take_ (i := 20) (N := some 51) (v := ?_) (a' := ?_) #[true, true, true, true, true, true, true, true, true, true, true, true, true, true, true, true, true, false, false, true, true, false, false, false, false, false, false, false, false, false, false, false, false, false, false, false, false, false, false, false, false, false, false, false, false, false, false, false, false, false, false, false, false, false, false, false, false, false, false, false, false, false, false] rfl rfl (take_ofW HT_.out HW_.out (by kernel_rfl)) (fun _ _ _ h => h) (Or.inl ⟨by rfl, ?_⟩) hHeld ?_ ?_
                  rotate_left
                  · rintro w' ⟨s0, s1, s2⟩
                    go_simp
                    with_reducible rfl
                  rotate_left
                  · simp only [Act.put, List.setIfInBounds_toArray, List.set_cons_zero, List.set_cons_succ, i64_w, i32_w]
                    rfl
                  refine take_ (i := 22) (N := some 53) (v := ?_) (a' := ?_) #[true, true, true, true, true, true, true, true, true, true, true, true, true, true, true, true, true, false, false, true, true, false, true, false, false, false, false, false, false, false, false, false, false, false, false, false, false, false, false, false, false, false, false, false, false, false, false, false, false, false, false, false, false, false, false, false, false, false, false, false, false, false, false] rfl rfl (take_ofW HT_.out HW_.out (by kernel_rfl)) (fun _ _ _ h => h) (Or.inl ⟨by rfl, ?_⟩) hHeld ?_ ?_
                  rotate_left
                  · rintro w' ⟨s0, s1, s2⟩
                    go_simp
                    with_reducible rfl
                  rotate_left
                  · simp only [Act.put, List.setIfInBounds_toArray, List.set_cons_zero, List.set_cons_succ, i64_w, i32_w]
                    rfl
                  refine take_ (i := 23) (N := some 54) (v := ?_) (a' := ?_) #[true, true, true, true, true, true, true, true, true, true, true, true, true, true, true, true, true, false, false, true, true, false, true, true, false, false, false, false, false, false, false, false, false, false, false, false, false, false, false, false, false, false, false, false, false, false, false, false, false, false, false, false, false, false, false, false, false, false, false, false, false, false, false] rfl rfl (take_ofW HT_.out HW_.out (by kernel_rfl)) (fun _ _ _ h => h) (Or.inl ⟨by rfl, ?_⟩) hHeld ?_ ?_
                  rotate_left
                  · rintro w' ⟨s0, s1, s2⟩
                    go_simp
                    with_reducible rfl
                  rotate_left
                  · simp only [Act.put, List.setIfInBounds_toArray, List.set_cons_zero, List.set_cons_succ, i64_w, i32_w]
                    rfl
                  refine one_ (i := 17) (N := some 48) #[true, true, true, true, true, true, true, true, true, true, true, true, true, true, true, true, true, true, false, true, true, false, true, true, false, false, false, false, false, false, false, false, false, false, false, false, false, false, false, false, false, false, false, false, false, false, false, false, false, false, false, false, false, false, false, false, false, false, false, false, false, false, false] rfl rfl (one_of HT_.out (by kernel_rfl)) (by decide) (fun K hK => ?_)
                  refine goes_ Tryd.func25 (by kernel_rfl) rfl #[.agg #[.slice Ao54 t446.length co54], .agg #[.slice Ao57 t449.length co57]] (by rfl) rfl rfl (by (try simp only [List.map_toArray, List.map_cons, List.map_nil]); first | done | rfl | (simp only [List.length_drop, List.length_take]; rfl)) ?_
                  with_reducible refine (bitset_Set_Union.calls kj5 _ _ t446 _ _ t449 t471 _ ?side1 ?side2 ?side3 ?side4 A24.out).mono ?_
                  (case side1 => repeat (first | exact (Kd.V_reads' HO448.out).2.2 | (with_reducible refine Kd.C_alloc ?_ _) | (with_reducible refine Kd.C_drewN ?_ _) | (with_reducible refine Kd.C_drew ?_)))
                  (case side2 => exact (Kd.V_reads' HO448.out).2.1)
                  (case side3 => repeat (first | exact (Kd.V_reads' HO451.out).2.2 | (with_reducible refine Kd.C_alloc ?_ _) | (with_reducible refine Kd.C_drewN ?_ _) | (with_reducible refine Kd.C_drew ?_)))
                  (case side4 => exact (Kd.V_reads' HO451.out).2.1)
                  rintro e w72 ⟨v472, rfl, ho0, hb⟩
                  refine ⟨_, rfl, ?_⟩
                  have n0_ := Aside0.mk (Kd.V_below (by (with_reducible repeat (first | apply Kd.V_alloc | apply Kd.V_drewN | apply Kd.V_drew)); exact HO445.out) hb)
                  have n1_ := Aside0.mk (Kd.V_below (by (with_reducible repeat (first | apply Kd.V_alloc | apply Kd.V_drewN | apply Kd.V_drew)); exact HO448.out) hb)
                  have n2_ := Aside0.mk (Kd.V_below (by (with_reducible repeat (first | apply Kd.V_alloc | apply Kd.V_drewN | apply Kd.V_drew)); exact HO451.out) hb)
                  have n3_ := Aside0.mk (Kd.V_below (by (with_reducible repeat (first | apply Kd.V_alloc | apply Kd.V_drewN | apply Kd.V_drew)); exact HO457.out) hb)
                  have n4_ := Aside0.mk (Kd.V_below (by (with_reducible repeat (first | apply Kd.V_alloc | apply Kd.V_drewN | apply Kd.V_drew)); exact HO460.out) hb)
                  have n5_ := Aside0.mk (Kd.V_below (by (with_reducible repeat (first | apply Kd.V_alloc | apply Kd.V_drewN | apply Kd.V_drew)); exact HO463.out) hb)
                  have n6_ := Aside0.mk (Kd.V_below (by (with_reducible repeat (first | apply Kd.V_alloc | apply Kd.V_drewN | apply Kd.V_drew)); exact HO466.out) hb)
                  have n7_ := Aside0.mk (Kd.V_below (by (with_reducible repeat (first | apply Kd.V_alloc | apply Kd.V_drewN | apply Kd.V_drew)); exact HO469.out) hb)
                  have n8_ := Aside0.mk (Kd.V_lower (Kd.V_mono (ok' := fun k_ => k_ ≠ gb452 ∧ k_ ≠ gb453 ∧ k_ ≠ gb454) ho0 (fun k_ hk_ => ⟨(Kd.freshB (g := gb452) (o := .cells #[.slice Ao50 t443.length co50] 27 (0, 0)) (by (with_reducible repeat (first | refine blk_drewN ?_ _ | refine blk_drew ?_ | refine blk_alloc ?_ _)); exact BK452.out) k_ hk_), (Kd.freshB (g := gb453) (o := .cells #[.slice Ao54 t446.length co54] 27 (0, 0)) (by (with_reducible repeat (first | refine blk_drewN ?_ _ | refine blk_drew ?_ | refine blk_alloc ?_ _)); exact BK453.out) k_ hk_), (Kd.freshB (g := gb454) (o := .cells #[.slice Ao57 t449.length co57] 27 (0, 0)) (by (with_reducible repeat (first | refine blk_drewN ?_ _ | refine blk_drew ?_ | refine blk_alloc ?_ _)); exact BK454.out) k_ hk_)⟩)) (below_size (by repeat (first | (with_reducible first | exact HB.out | apply below_alloc | apply pw_below_drewN | apply below_drew1 | refine below_set ?_ GE452.out | refine below_set ?_ GE453.out | refine below_set ?_ GE454.out) | exact HB.out))))
                  have n9_ := Aside0.mk (blk_below (g := gb452) (o := .cells #[.slice Ao50 t443.length co50] 27 (0, 0)) (by (with_reducible repeat (first | refine blk_drewN ?_ _ | refine blk_drew ?_ | refine blk_alloc ?_ _)); exact BK452.out) hb)
                  have n10_ := Aside0.mk (blk_below (g := gb453) (o := .cells #[.slice Ao54 t446.length co54] 27 (0, 0)) (by (with_reducible repeat (first | refine blk_drewN ?_ _ | refine blk_drew ?_ | refine blk_alloc ?_ _)); exact BK453.out) hb)
                  have n11_ := Aside0.mk (blk_below (g := gb454) (o := .cells #[.slice Ao57 t449.length co57] 27 (0, 0)) (by (with_reducible repeat (first | refine blk_drewN ?_ _ | refine blk_drew ?_ | refine blk_alloc ?_ _)); exact BK454.out) hb)
                  have n12_ := Aside0.mk (below_step (by repeat (first | (with_reducible first | exact HB.out | apply below_alloc | apply pw_below_drewN | apply below_drew1 | refine below_set ?_ GE452.out | refine below_set ?_ GE453.out | refine below_set ?_ GE454.out) | exact HB.out)) hb)
                  clear HO445
                  clear HO448
                  clear HO451
                  clear HO457
                  clear HO460
                  clear HO463
                  clear HO466
                  clear HO469
                  clear BK452
                  clear BK453
                  clear BK454
                  clear HB
                  have HO445 := n0_
                  have HO448 := n1_
                  have HO451 := n2_
                  have HO457 := n3_
                  have HO460 := n4_
                  have HO463 := n5_
                  have HO466 := n6_
                  have HO469 := n7_
                  have HO473 := n8_
                  have BK452 := n9_
                  have BK453 := n10_
                  have BK454 := n11_
                  have HB := n12_
                  clear n0_ n1_ n2_ n3_ n4_ n5_ n6_ n7_ n8_ n9_ n10_ n11_ n12_
                  (try clear hb)
                  (try clear hb2)
                  (try clear hk)
                  (try clear hi)
                  (try clear ho0)
                  obtain ⟨Ao73, co73, eo73⟩ := Kd.V_slice HO473.out
                  (first | subst eo73 | (injection eo73 with f1_ f2_ f3_; have f4_ := f1_.symm; have f5_ := f3_.symm; clear f1_ f2_ f3_; subst f4_; subst f5_))
                  refine hK.out _ _ ⟨(blk_cell BK452.out 0).trans rfl, (blk_cell BK453.out 0).trans rfl, (blk_cell BK454.out 0).trans rfl⟩ (fun hHeld => ?_)
                  clear hK K
                  refine norm_ (a' := ?_) ?_ ?_
                  rotate_left
                  · show Act.put _ (some 48) _ = _
                    simp only [Act.put, List.setIfInBounds_toArray, List.set_cons_zero, List.set_cons_succ, i64_w, i32_w]
                    rfl
                  refine one_ (i := 18) (N := some 49) #[true, true, true, true, true, true, true, true, true, true, true, true, true, true, true, true, true, true, true, true, true, false, true, true, false, false, false, false, false, false, false, false, false, false, false, false, false, false, false, false, false, false, false, false, false, false, false, false, false, false, false, false, false, false, false, false, false, false, false, false, false, false, false] rfl rfl (one_of HT_.out (by kernel_rfl)) (by decide) (fun K hK => ?_)
                  refine goes_ Tryd.func27 (by kernel_rfl) rfl #[.agg #[.slice Ao50 t443.length co50], .agg #[.slice Ao73 t471.length co73]] (by rfl) rfl rfl (by (try simp only [List.map_toArray, List.map_cons, List.map_nil]); first | done | rfl | (simp only [List.length_drop, List.length_take]; rfl)) ?_
                  with_reducible refine (bitset_Set_Intersect.calls kj5 _ _ t443 _ _ t471 t474 _ ?side1 ?side2 ?side3 ?side4 A25.out).mono ?_
                  (case side1 => repeat (first | exact (Kd.V_reads' HO445.out).2.2 | (with_reducible refine Kd.C_alloc ?_ _) | (with_reducible refine Kd.C_drewN ?_ _) | (with_reducible refine Kd.C_drew ?_)))
                  (case side2 => exact (Kd.V_reads' HO445.out).2.1)
                  (case side3 => repeat (first | exact (Kd.V_reads' HO473.out).2.2 | (with_reducible refine Kd.C_alloc ?_ _) | (with_reducible refine Kd.C_drewN ?_ _) | (with_reducible refine Kd.C_drew ?_)))
                  (case side4 => exact (Kd.V_reads' HO473.out).2.1)
                  rintro e w74 ⟨v475, rfl, ho0, hb⟩
                  refine ⟨_, rfl, ?_⟩
                  have n0_ := Aside0.mk (Kd.V_below (by (with_reducible repeat (first | apply Kd.V_alloc | apply Kd.V_drewN | apply Kd.V_drew)); exact HO445.out) hb)
                  have n1_ := Aside0.mk (Kd.V_below (by (with_reducible repeat (first | apply Kd.V_alloc | apply Kd.V_drewN | apply Kd.V_drew)); exact HO448.out) hb)
                  have n2_ := Aside0.mk (Kd.V_below (by (with_reducible repeat (first | apply Kd.V_alloc | apply Kd.V_drewN | apply Kd.V_drew)); exact HO451.out) hb)
                  have n3_ := Aside0.mk (Kd.V_below (by (with_reducible repeat (first | apply Kd.V_alloc | apply Kd.V_drewN | apply Kd.V_drew)); exact HO457.out) hb)
                  have n4_ := Aside0.mk (Kd.V_below (by (with_reducible repeat (first | apply Kd.V_alloc | apply Kd.V_drewN | apply Kd.V_drew)); exact HO460.out) hb)
                  have n5_ := Aside0.mk (Kd.V_below (by (with_reducible repeat (first | apply Kd.V_alloc | apply Kd.V_drewN | apply Kd.V_drew)); exact HO463.out) hb)
                  have n6_ := Aside0.mk (Kd.V_below (by (with_reducible repeat (first | apply Kd.V_alloc | apply Kd.V_drewN | apply Kd.V_drew)); exact HO466.out) hb)
                  have n7_ := Aside0.mk (Kd.V_below (by (with_reducible repeat (first | apply Kd.V_alloc | apply Kd.V_drewN | apply Kd.V_drew)); exact HO469.out) hb)
                  have n8_ := Aside0.mk (Kd.V_below (by (with_reducible repeat (first | apply Kd.V_alloc | apply Kd.V_drewN | apply Kd.V_drew)); exact HO473.out) hb)
                  have n9_ := Aside0.mk (Kd.V_lower (Kd.V_mono (ok' := fun k_ => k_ ≠ gb452 ∧ k_ ≠ gb453 ∧ k_ ≠ gb454) ho0 (fun k_ hk_ => ⟨(Kd.freshB (g := gb452) (o := .cells #[.slice Ao50 t443.length co50] 27 (0, 0)) (by (with_reducible repeat (first | refine blk_drewN ?_ _ | refine blk_drew ?_ | refine blk_alloc ?_ _)); exact BK452.out) k_ hk_), (Kd.freshB (g := gb453) (o := .cells #[.slice Ao54 t446.length co54] 27 (0, 0)) (by (with_reducible repeat (first | refine blk_drewN ?_ _ | refine blk_drew ?_ | refine blk_alloc ?_ _)); exact BK453.out) k_ hk_), (Kd.freshB (g := gb454) (o := .cells #[.slice Ao57 t449.length co57] 27 (0, 0)) (by (with_reducible repeat (first | refine blk_drewN ?_ _ | refine blk_drew ?_ | refine blk_alloc ?_ _)); exact BK454.out) k_ hk_)⟩)) (below_size (by repeat (first | (with_reducible first | exact HB.out | apply below_alloc | apply pw_below_drewN | apply below_drew1 | refine below_set ?_ GE452.out | refine below_set ?_ GE453.out | refine below_set ?_ GE454.out) | exact HB.out))))
                  have n10_ := Aside0.mk (blk_below (g := gb452) (o := .cells #[.slice Ao50 t443.length co50] 27 (0, 0)) (by (with_reducible repeat (first | refine blk_drewN ?_ _ | refine blk_drew ?_ | refine blk_alloc ?_ _)); exact BK452.out) hb)
                  have n11_ := Aside0.mk (blk_below (g := gb453) (o := .cells #[.slice Ao54 t446.length co54] 27 (0, 0)) (by (with_reducible repeat (first | refine blk_drewN ?_ _ | refine blk_drew ?_ | refine blk_alloc ?_ _)); exact BK453.out) hb)
                  have n12_ := Aside0.mk (blk_below (g := gb454) (o := .cells #[.slice Ao57 t449.length co57] 27 (0, 0)) (by (with_reducible repeat (first | refine blk_drewN ?_ _ | refine blk_drew ?_ | refine blk_alloc ?_ _)); exact BK454.out) hb)
                  have n13_ := Aside0.mk (below_step (by repeat (first | (with_reducible first | exact HB.out | apply below_alloc | apply pw_below_drewN | apply below_drew1 | refine below_set ?_ GE452.out | refine below_set ?_ GE453.out | refine below_set ?_ GE454.out) | exact HB.out)) hb)
                  clear HO445
                  clear HO448
                  clear HO451
                  clear HO457
                  clear HO460
                  clear HO463
                  clear HO466
                  clear HO469
                  clear HO473
                  clear BK452
                  clear BK453
                  clear BK454
                  clear HB
                  have HO445 := n0_
                  have HO448 := n1_
                  have HO451 := n2_
                  have HO457 := n3_
                  have HO460 := n4_
                  have HO463 := n5_
                  have HO466 := n6_
                  have HO469 := n7_
                  have HO473 := n8_
                  have HO476 := n9_
                  have BK452 := n10_
                  have BK453 := n11_
                  have BK454 := n12_
                  have HB := n13_
                  clear n0_ n1_ n2_ n3_ n4_ n5_ n6_ n7_ n8_ n9_ n10_ n11_ n12_ n13_
                  (try clear hb)
                  (try clear hb2)
                  (try clear hk)
                  (try clear hi)
                  (try clear ho0)
                  refine hK.out _ _ ⟨(blk_cell BK452.out 0).trans rfl, (blk_cell BK453.out 0).trans rfl, (blk_cell BK454.out 0).trans rfl⟩ (fun hHeld => ?_)
                  clear hK K
                  refine norm_ (a' := ?_) ?_ ?_
                  rotate_left
                  · show Act.put _ (some 49) _ = _
                    simp only [Act.put, List.setIfInBounds_toArray, List.set_cons_zero, List.set_cons_succ, i64_w, i32_w]
                    rfl
                  refine one_ (i := 21) (N := some 52) #[true, true, true, true, true, true, true, true, true, true, true, true, true, true, true, true, true, true, true, true, true, true, true, true, false, false, false, false, false, false, false, false, false, false, false, false, false, false, false, false, false, false, false, false, false, false, false, false, false, false, false, false, false, false, false, false, false, false, false, false, false, false, false] rfl rfl (one_of HT_.out (by kernel_rfl)) (by decide) (fun K hK => ?_)
                  refine goes_ Tryd.func27 (by kernel_rfl) rfl #[.agg #[.slice Ao50 t443.length co50], .agg #[.slice Ao54 t446.length co54]] (by rfl) rfl rfl (by (try simp only [List.map_toArray, List.map_cons, List.map_nil]); first | done | rfl | (simp only [List.length_drop, List.length_take]; rfl)) ?_
                  with_reducible refine (bitset_Set_Intersect.calls kj5 _ _ t443 _ _ t446 t477 _ ?side1 ?side2 ?side3 ?side4 A26.out).mono ?_
                  (case side1 => repeat (first | exact (Kd.V_reads' HO445.out).2.2 | (with_reducible refine Kd.C_alloc ?_ _) | (with_reducible refine Kd.C_drewN ?_ _) | (with_reducible refine Kd.C_drew ?_)))
                  (case side2 => exact (Kd.V_reads' HO445.out).2.1)
                  (case side3 => repeat (first | exact (Kd.V_reads' HO448.out).2.2 | (with_reducible refine Kd.C_alloc ?_ _) | (with_reducible refine Kd.C_drewN ?_ _) | (with_reducible refine Kd.C_drew ?_)))
                  (case side4 => exact (Kd.V_reads' HO448.out).2.1)
                  rintro e w75 ⟨v478, rfl, ho0, hb⟩
                  refine ⟨_, rfl, ?_⟩
                  have n0_ := Aside0.mk (Kd.V_below (by (with_reducible repeat (first | apply Kd.V_alloc | apply Kd.V_drewN | apply Kd.V_drew)); exact HO445.out) hb)
                  have n1_ := Aside0.mk (Kd.V_below (by (with_reducible repeat (first | apply Kd.V_alloc | apply Kd.V_drewN | apply Kd.V_drew)); exact HO448.out) hb)
                  have n2_ := Aside0.mk (Kd.V_below (by (with_reducible repeat (first | apply Kd.V_alloc | apply Kd.V_drewN | apply Kd.V_drew)); exact HO451.out) hb)
                  have n3_ := Aside0.mk (Kd.V_below (by (with_reducible repeat (first | apply Kd.V_alloc | apply Kd.V_drewN | apply Kd.V_drew)); exact HO457.out) hb)
                  have n4_ := Aside0.mk (Kd.V_below (by (with_reducible repeat (first | apply Kd.V_alloc | apply Kd.V_drewN | apply Kd.V_drew)); exact HO460.out) hb)
                  have n5_ := Aside0.mk (Kd.V_below (by (with_reducible repeat (first | apply Kd.V_alloc | apply Kd.V_drewN | apply Kd.V_drew)); exact HO463.out) hb)
                  have n6_ := Aside0.mk (Kd.V_below (by (with_reducible repeat (first | apply Kd.V_alloc | apply Kd.V_drewN | apply Kd.V_drew)); exact HO466.out) hb)
                  have n7_ := Aside0.mk (Kd.V_below (by (with_reducible repeat (first | apply Kd.V_alloc | apply Kd.V_drewN | apply Kd.V_drew)); exact HO469.out) hb)
                  have n8_ := Aside0.mk (Kd.V_below (by (with_reducible repeat (first | apply Kd.V_alloc | apply Kd.V_drewN | apply Kd.V_drew)); exact HO473.out) hb)
                  have n9_ := Aside0.mk (Kd.V_below (by (with_reducible repeat (first | apply Kd.V_alloc | apply Kd.V_drewN | apply Kd.V_drew)); exact HO476.out) hb)
                  have n10_ := Aside0.mk (Kd.V_lower (Kd.V_mono (ok' := fun k_ => k_ ≠ gb452 ∧ k_ ≠ gb453 ∧ k_ ≠ gb454) ho0 (fun k_ hk_ => ⟨(Kd.freshB (g := gb452) (o := .cells #[.slice Ao50 t443.length co50] 27 (0, 0)) (by (with_reducible repeat (first | refine blk_drewN ?_ _ | refine blk_drew ?_ | refine blk_alloc ?_ _)); exact BK452.out) k_ hk_), (Kd.freshB (g := gb453) (o := .cells #[.slice Ao54 t446.length co54] 27 (0, 0)) (by (with_reducible repeat (first | refine blk_drewN ?_ _ | refine blk_drew ?_ | refine blk_alloc ?_ _)); exact BK453.out) k_ hk_), (Kd.freshB (g := gb454) (o := .cells #[.slice Ao57 t449.length co57] 27 (0, 0)) (by (with_reducible repeat (first | refine blk_drewN ?_ _ | refine blk_drew ?_ | refine blk_alloc ?_ _)); exact BK454.out) k_ hk_)⟩)) (below_size (by repeat (first | (with_reducible first | exact HB.out | apply below_alloc | apply pw_below_drewN | apply below_drew1 | refine below_set ?_ GE452.out | refine below_set ?_ GE453.out | refine below_set ?_ GE454.out) | exact HB.out))))
                  have n11_ := Aside0.mk (blk_below (g := gb452) (o := .cells #[.slice Ao50 t443.length co50] 27 (0, 0)) (by (with_reducible repeat (first | refine blk_drewN ?_ _ | refine blk_drew ?_ | refine blk_alloc ?_ _)); exact BK452.out) hb)
                  have n12_ := Aside0.mk (blk_below (g := gb453) (o := .cells #[.slice Ao54 t446.length co54] 27 (0, 0)) (by (with_reducible repeat (first | refine blk_drewN ?_ _ | refine blk_drew ?_ | refine blk_alloc ?_ _)); exact BK453.out) hb)
                  have n13_ := Aside0.mk (blk_below (g := gb454) (o := .cells #[.slice Ao57 t449.length co57] 27 (0, 0)) (by (with_reducible repeat (first | refine blk_drewN ?_ _ | refine blk_drew ?_ | refine blk_alloc ?_ _)); exact BK454.out) hb)
                  have n14_ := Aside0.mk (below_step (by repeat (first | (with_reducible first | exact HB.out | apply below_alloc | apply pw_below_drewN | apply below_drew1 | refine below_set ?_ GE452.out | refine below_set ?_ GE453.out | refine below_set ?_ GE454.out) | exact HB.out)) hb)
                  clear HO445
                  clear HO448
                  clear HO451
                  clear HO457
                  clear HO460
                  clear HO463
                  clear HO466
                  clear HO469
                  clear HO473
                  clear HO476
                  clear BK452
                  clear BK453
                  clear BK454
                  clear HB
                  have HO445 := n0_
                  have HO448 := n1_
                  have HO451 := n2_
                  have HO457 := n3_
                  have HO460 := n4_
                  have HO463 := n5_
                  have HO466 := n6_
                  have HO469 := n7_
                  have HO473 := n8_
                  have HO476 := n9_
                  have HO479 := n10_
                  have BK452 := n11_
                  have BK453 := n12_
                  have BK454 := n13_
                  have HB := n14_
                  clear n0_ n1_ n2_ n3_ n4_ n5_ n6_ n7_ n8_ n9_ n10_ n11_ n12_ n13_ n14_
                  (try clear hb)
                  (try clear hb2)
                  (try clear hk)
                  (try clear hi)
                  (try clear ho0)
                  refine hK.out _ _ ⟨(blk_cell BK452.out 0).trans rfl, (blk_cell BK453.out 0).trans rfl, (blk_cell BK454.out 0).trans rfl⟩ (fun hHeld => ?_)
                  clear hK K
                  refine norm_ (a' := ?_) ?_ ?_
                  rotate_left
                  · show Act.put _ (some 52) _ = _
                    simp only [Act.put, List.setIfInBounds_toArray, List.set_cons_zero, List.set_cons_succ, i64_w, i32_w]
                    rfl
                  refine one_ (i := 24) (N := some 55) #[true, true, true, true, true, true, true, true, true, true, true, true, true, true, true, true, true, true, true, true, true, true, true, true, true, false, false, false, false, false, false, false, false, false, false, false, false, false, false, false, false, false, false, false, false, false, false, false, false, false, false, false, false, false, false, false, false, false, false, false, false, false, false] rfl rfl (one_of HT_.out (by kernel_rfl)) (by decide) (fun K hK => ?_)
                  refine goes_ Tryd.func27 (by kernel_rfl) rfl #[.agg #[.slice Ao50 t443.length co50], .agg #[.slice Ao57 t449.length co57]] (by rfl) rfl rfl (by (try simp only [List.map_toArray, List.map_cons, List.map_nil]); first | done | rfl | (simp only [List.length_drop, List.length_take]; rfl)) ?_
                  with_reducible refine (bitset_Set_Intersect.calls kj5 _ _ t443 _ _ t449 t480 _ ?side1 ?side2 ?side3 ?side4 A27.out).mono ?_
                  (case side1 => repeat (first | exact (Kd.V_reads' HO445.out).2.2 | (with_reducible refine Kd.C_alloc ?_ _) | (with_reducible refine Kd.C_drewN ?_ _) | (with_reducible refine Kd.C_drew ?_)))
                  (case side2 => exact (Kd.V_reads' HO445.out).2.1)
                  (case side3 => repeat (first | exact (Kd.V_reads' HO451.out).2.2 | (with_reducible refine Kd.C_alloc ?_ _) | (with_reducible refine Kd.C_drewN ?_ _) | (with_reducible refine Kd.C_drew ?_)))
                  (case side4 => exact (Kd.V_reads' HO451.out).2.1)
                  rintro e w76 ⟨v481, rfl, ho0, hb⟩
                  refine ⟨_, rfl, ?_⟩
                  have n0_ := Aside0.mk (Kd.V_below (by (with_reducible repeat (first | apply Kd.V_alloc | apply Kd.V_drewN | apply Kd.V_drew)); exact HO445.out) hb)
                  have n1_ := Aside0.mk (Kd.V_below (by (with_reducible repeat (first | apply Kd.V_alloc | apply Kd.V_drewN | apply Kd.V_drew)); exact HO448.out) hb)
                  have n2_ := Aside0.mk (Kd.V_below (by (with_reducible repeat (first | apply Kd.V_alloc | apply Kd.V_drewN | apply Kd.V_drew)); exact HO451.out) hb)
                  have n3_ := Aside0.mk (Kd.V_below (by (with_reducible repeat (first | apply Kd.V_alloc | apply Kd.V_drewN | apply Kd.V_drew)); exact HO457.out) hb)
                  have n4_ := Aside0.mk (Kd.V_below (by (with_reducible repeat (first | apply Kd.V_alloc | apply Kd.V_drewN | apply Kd.V_drew)); exact HO460.out) hb)
                  have n5_ := Aside0.mk (Kd.V_below (by (with_reducible repeat (first | apply Kd.V_alloc | apply Kd.V_drewN | apply Kd.V_drew)); exact HO463.out) hb)
                  have n6_ := Aside0.mk (Kd.V_below (by (with_reducible repeat (first | apply Kd.V_alloc | apply Kd.V_drewN | apply Kd.V_drew)); exact HO466.out) hb)
                  have n7_ := Aside0.mk (Kd.V_below (by (with_reducible repeat (first | apply Kd.V_alloc | apply Kd.V_drewN | apply Kd.V_drew)); exact HO469.out) hb)
                  have n8_ := Aside0.mk (Kd.V_below (by (with_reducible repeat (first | apply Kd.V_alloc | apply Kd.V_drewN | apply Kd.V_drew)); exact HO473.out) hb)
                  have n9_ := Aside0.mk (Kd.V_below (by (with_reducible repeat (first | apply Kd.V_alloc | apply Kd.V_drewN | apply Kd.V_drew)); exact HO476.out) hb)
                  have n10_ := Aside0.mk (Kd.V_below (by (with_reducible repeat (first | apply Kd.V_alloc | apply Kd.V_drewN | apply Kd.V_drew)); exact HO479.out) hb)
                  have n11_ := Aside0.mk (Kd.V_lower (Kd.V_mono (ok' := fun k_ => k_ ≠ gb452 ∧ k_ ≠ gb453 ∧ k_ ≠ gb454) ho0 (fun k_ hk_ => ⟨(Kd.freshB (g := gb452) (o := .cells #[.slice Ao50 t443.length co50] 27 (0, 0)) (by (with_reducible repeat (first | refine blk_drewN ?_ _ | refine blk_drew ?_ | refine blk_alloc ?_ _)); exact BK452.out) k_ hk_), (Kd.freshB (g := gb453) (o := .cells #[.slice Ao54 t446.length co54] 27 (0, 0)) (by (with_reducible repeat (first | refine blk_drewN ?_ _ | refine blk_drew ?_ | refine blk_alloc ?_ _)); exact BK453.out) k_ hk_), (Kd.freshB (g := gb454) (o := .cells #[.slice Ao57 t449.length co57] 27 (0, 0)) (by (with_reducible repeat (first | refine blk_drewN ?_ _ | refine blk_drew ?_ | refine blk_alloc ?_ _)); exact BK454.out) k_ hk_)⟩)) (below_size (by repeat (first | (with_reducible first | exact HB.out | apply below_alloc | apply pw_below_drewN | apply below_drew1 | refine below_set ?_ GE452.out | refine below_set ?_ GE453.out | refine below_set ?_ GE454.out) | exact HB.out))))
                  have n12_ := Aside0.mk (blk_below (g := gb452) (o := .cells #[.slice Ao50 t443.length co50] 27 (0, 0)) (by (with_reducible repeat (first | refine blk_drewN ?_ _ | refine blk_drew ?_ | refine blk_alloc ?_ _)); exact BK452.out) hb)
                  have n13_ := Aside0.mk (blk_below (g := gb453) (o := .cells #[.slice Ao54 t446.length co54] 27 (0, 0)) (by (with_reducible repeat (first | refine blk_drewN ?_ _ | refine blk_drew ?_ | refine blk_alloc ?_ _)); exact BK453.out) hb)
                  have n14_ := Aside0.mk (blk_below (g := gb454) (o := .cells #[.slice Ao57 t449.length co57] 27 (0, 0)) (by (with_reducible repeat (first | refine blk_drewN ?_ _ | refine blk_drew ?_ | refine blk_alloc ?_ _)); exact BK454.out) hb)
                  have n15_ := Aside0.mk (below_step (by repeat (first | (with_reducible first | exact HB.out | apply below_alloc | apply pw_below_drewN | apply below_drew1 | refine below_set ?_ GE452.out | refine below_set ?_ GE453.out | refine below_set ?_ GE454.out) | exact HB.out)) hb)
                  clear HO445
                  clear HO448
                  clear HO451
                  clear HO457
                  clear HO460
                  clear HO463
                  clear HO466
                  clear HO469
                  clear HO473
                  clear HO476
                  clear HO479
                  clear BK452
                  clear BK453
                  clear BK454
                  clear HB
                  have HO445 := n0_
                  have HO448 := n1_
                  have HO451 := n2_
                  have HO457 := n3_
                  have HO460 := n4_
                  have HO463 := n5_
                  have HO466 := n6_
                  have HO469 := n7_
                  have HO473 := n8_
                  have HO476 := n9_
                  have HO479 := n10_
                  have HO482 := n11_
                  have BK452 := n12_
                  have BK453 := n13_
                  have BK454 := n14_
                  have HB := n15_
                  clear n0_ n1_ n2_ n3_ n4_ n5_ n6_ n7_ n8_ n9_ n10_ n11_ n12_ n13_ n14_ n15_
                  (try clear hb)
                  (try clear hb2)
                  (try clear hk)
                  (try clear hi)
                  (try clear ho0)
                  obtain ⟨Ao77, co77, eo77⟩ := Kd.V_slice HO479.out
                  (first | subst eo77 | (injection eo77 with f1_ f2_ f3_; have f4_ := f1_.symm; have f5_ := f3_.symm; clear f1_ f2_ f3_; subst f4_; subst f5_))
                  obtain ⟨Ao78, co78, eo78⟩ := Kd.V_slice HO482.out
                  (first | subst eo78 | (injection eo78 with f1_ f2_ f3_; have f4_ := f1_.symm; have f5_ := f3_.symm; clear f1_ f2_ f3_; subst f4_; subst f5_))
                  refine hK.out _ _ ⟨(blk_cell BK452.out 0).trans rfl, (blk_cell BK453.out 0).trans rfl, (blk_cell BK454.out 0).trans rfl⟩ (fun hHeld => ?_)
                  clear hK K
                  refine norm_ (a' := ?_) ?_ ?_
                  rotate_left
                  · show Act.put _ (some 55) _ = _
                    simp only [Act.put, List.setIfInBounds_toArray, List.set_cons_zero, List.set_cons_succ, i64_w, i32_w]
                    rfl
                  refine one_ (i := 25) (N := some 56) #[true, true, true, true, true, true, true, true, true, true, true, true, true, true, true, true, true, true, true, true, true, true, true, true, true, true, false, false, false, false, false, false, false, false, false, false, false, false, false, false, false, false, false, false, false, false, false, false, false, false, false, false, false, false, false, false, false, false, false, false, false, false, false] rfl rfl (one_of HT_.out (by kernel_rfl)) (by decide) (fun K hK => ?_)
                  refine goes_ Tryd.func25 (by kernel_rfl) rfl #[.agg #[.slice Ao77 t477.length co77], .agg #[.slice Ao78 t480.length co78]] (by rfl) rfl rfl (by (try simp only [List.map_toArray, List.map_cons, List.map_nil]); first | done | rfl | (simp only [List.length_drop, List.length_take]; rfl)) ?_
                  with_reducible refine (bitset_Set_Union.calls kj5 _ _ t477 _ _ t480 t483 _ ?side1 ?side2 ?side3 ?side4 A28.out).mono ?_
                  (case side1 => repeat (first | exact (Kd.V_reads' HO479.out).2.2 | (with_reducible refine Kd.C_alloc ?_ _) | (with_reducible refine Kd.C_drewN ?_ _) | (with_reducible refine Kd.C_drew ?_)))
                  (case side2 => exact (Kd.V_reads' HO479.out).2.1)
                  (case side3 => repeat (first | exact (Kd.V_reads' HO482.out).2.2 | (with_reducible refine Kd.C_alloc ?_ _) | (with_reducible refine Kd.C_drewN ?_ _) | (with_reducible refine Kd.C_drew ?_)))
                  (case side4 => exact (Kd.V_reads' HO482.out).2.1)
                  rintro e w79 ⟨v484, rfl, ho0, hb⟩
                  refine ⟨_, rfl, ?_⟩
                  have n0_ := Aside0.mk (Kd.V_below (by (with_reducible repeat (first | apply Kd.V_alloc | apply Kd.V_drewN | apply Kd.V_drew)); exact HO445.out) hb)
                  have n1_ := Aside0.mk (Kd.V_below (by (with_reducible repeat (first | apply Kd.V_alloc | apply Kd.V_drewN | apply Kd.V_drew)); exact HO448.out) hb)
                  have n2_ := Aside0.mk (Kd.V_below (by (with_reducible repeat (first | apply Kd.V_alloc | apply Kd.V_drewN | apply Kd.V_drew)); exact HO451.out) hb)
                  have n3_ := Aside0.mk (Kd.V_below (by (with_reducible repeat (first | apply Kd.V_alloc | apply Kd.V_drewN | apply Kd.V_drew)); exact HO457.out) hb)
                  have n4_ := Aside0.mk (Kd.V_below (by (with_reducible repeat (first | apply Kd.V_alloc | apply Kd.V_drewN | apply Kd.V_drew)); exact HO460.out) hb)
                  have n5_ := Aside0.mk (Kd.V_below (by (with_reducible repeat (first | apply Kd.V_alloc | apply Kd.V_drewN | apply Kd.V_drew)); exact HO463.out) hb)
                  have n6_ := Aside0.mk (Kd.V_below (by (with_reducible repeat (first | apply Kd.V_alloc | apply Kd.V_drewN | apply Kd.V_drew)); exact HO466.out) hb)
                  have n7_ := Aside0.mk (Kd.V_below (by (with_reducible repeat (first | apply Kd.V_alloc | apply Kd.V_drewN | apply Kd.V_drew)); exact HO469.out) hb)
                  have n8_ := Aside0.mk (Kd.V_below (by (with_reducible repeat (first | apply Kd.V_alloc | apply Kd.V_drewN | apply Kd.V_drew)); exact HO473.out) hb)
                  have n9_ := Aside0.mk (Kd.V_below (by (with_reducible repeat (first | apply Kd.V_alloc | apply Kd.V_drewN | apply Kd.V_drew)); exact HO476.out) hb)
                  have n10_ := Aside0.mk (Kd.V_below (by (with_reducible repeat (first | apply Kd.V_alloc | apply Kd.V_drewN | apply Kd.V_drew)); exact HO479.out) hb)
                  have n11_ := Aside0.mk (Kd.V_below (by (with_reducible repeat (first | apply Kd.V_alloc | apply Kd.V_drewN | apply Kd.V_drew)); exact HO482.out) hb)
                  have n12_ := Aside0.mk (Kd.V_lower (Kd.V_mono (ok' := fun k_ => k_ ≠ gb452 ∧ k_ ≠ gb453 ∧ k_ ≠ gb454) ho0 (fun k_ hk_ => ⟨(Kd.freshB (g := gb452) (o := .cells #[.slice Ao50 t443.length co50] 27 (0, 0)) (by (with_reducible repeat (first | refine blk_drewN ?_ _ | refine blk_drew ?_ | refine blk_alloc ?_ _)); exact BK452.out) k_ hk_), (Kd.freshB (g := gb453) (o := .cells #[.slice Ao54 t446.length co54] 27 (0, 0)) (by (with_reducible repeat (first | refine blk_drewN ?_ _ | refine blk_drew ?_ | refine blk_alloc ?_ _)); exact BK453.out) k_ hk_), (Kd.freshB (g := gb454) (o := .cells #[.slice Ao57 t449.length co57] 27 (0, 0)) (by (with_reducible repeat (first | refine blk_drewN ?_ _ | refine blk_drew ?_ | refine blk_alloc ?_ _)); exact BK454.out) k_ hk_)⟩)) (below_size (by repeat (first | (with_reducible first | exact HB.out | apply below_alloc | apply pw_below_drewN | apply below_drew1 | refine below_set ?_ GE452.out | refine below_set ?_ GE453.out | refine below_set ?_ GE454.out) | exact HB.out))))
                  have n13_ := Aside0.mk (blk_below (g := gb452) (o := .cells #[.slice Ao50 t443.length co50] 27 (0, 0)) (by (with_reducible repeat (first | refine blk_drewN ?_ _ | refine blk_drew ?_ | refine blk_alloc ?_ _)); exact BK452.out) hb)
                  have n14_ := Aside0.mk (blk_below (g := gb453) (o := .cells #[.slice Ao54 t446.length co54] 27 (0, 0)) (by (with_reducible repeat (first | refine blk_drewN ?_ _ | refine blk_drew ?_ | refine blk_alloc ?_ _)); exact BK453.out) hb)
                  have n15_ := Aside0.mk (blk_below (g := gb454) (o := .cells #[.slice Ao57 t449.length co57] 27 (0, 0)) (by (with_reducible repeat (first | refine blk_drewN ?_ _ | refine blk_drew ?_ | refine blk_alloc ?_ _)); exact BK454.out) hb)
                  have n16_ := Aside0.mk (below_step (by repeat (first | (with_reducible first | exact HB.out | apply below_alloc | apply pw_below_drewN | apply below_drew1 | refine below_set ?_ GE452.out | refine below_set ?_ GE453.out | refine below_set ?_ GE454.out) | exact HB.out)) hb)
                  clear HO445
                  clear HO448
                  clear HO451
                  clear HO457
                  clear HO460
                  clear HO463
                  clear HO466
                  clear HO469
                  clear HO473
                  clear HO476
                  clear HO479
                  clear HO482
                  clear BK452
                  clear BK453
                  clear BK454
                  clear HB
                  have HO445 := n0_
                  have HO448 := n1_
                  have HO451 := n2_
                  have HO457 := n3_
                  have HO460 := n4_
                  have HO463 := n5_
                  have HO466 := n6_
                  have HO469 := n7_
                  have HO473 := n8_
                  have HO476 := n9_
                  have HO479 := n10_
                  have HO482 := n11_
                  have HO485 := n12_
                  have BK452 := n13_
                  have BK453 := n14_
                  have BK454 := n15_
                  have HB := n16_
                  clear n0_ n1_ n2_ n3_ n4_ n5_ n6_ n7_ n8_ n9_ n10_ n11_ n12_ n13_ n14_ n15_ n16_
                  (try clear hb)
                  (try clear hb2)
                  (try clear hk)
                  (try clear hi)
                  (try clear ho0)
                  obtain ⟨Ao80, co80, eo80⟩ := Kd.V_slice HO476.out
                  (first | subst eo80 | (injection eo80 with f1_ f2_ f3_; have f4_ := f1_.symm; have f5_ := f3_.symm; clear f1_ f2_ f3_; subst f4_; subst f5_))
                  obtain ⟨Ao81, co81, eo81⟩ := Kd.V_slice HO485.out
                  (first | subst eo81 | (injection eo81 with f1_ f2_ f3_; have f4_ := f1_.symm; have f5_ := f3_.symm; clear f1_ f2_ f3_; subst f4_; subst f5_))
                  refine hK.out _ _ ⟨(blk_cell BK452.out 0).trans rfl, (blk_cell BK453.out 0).trans rfl, (blk_cell BK454.out 0).trans rfl⟩ (fun hHeld => ?_)
                  clear hK K
                  refine norm_ (a' := ?_) ?_ ?_
                  rotate_left
                  · show Act.put _ (some 56) _ = _
                    simp only [Act.put, List.setIfInBounds_toArray, List.set_cons_zero, List.set_cons_succ, i64_w, i32_w]
                    rfl
                  refine one_ (i := 26) (N := some 57) #[true, true, true, true, true, true, true, true, true, true, true, true, true, true, true, true, true, true, true, true, true, true, true, true, true, true, true, false, false, false, false, false, false, false, false, false, false, false, false, false, false, false, false, false, false, false, false, false, false, false, false, false, false, false, false, false, false, false, false, false, false, false, false] rfl rfl (one_of HT_.out (by kernel_rfl)) (by decide) (fun K hK => ?_)
                  refine goes_ Tryd.func34 (by kernel_rfl) rfl #[.agg #[.slice Ao80 t474.length co80], .agg #[.slice Ao81 t483.length co81]] (by rfl) rfl rfl (by (try simp only [List.map_toArray, List.map_cons, List.map_nil]); first | done | rfl | (simp only [List.length_drop, List.length_take]; rfl)) ?_
                  with_reducible refine (bitset_Set_Equal.calls kj5 _ _ t474 _ _ t483 true _ ?side1 ?side2 ?side3 ?side4 A29.out).mono ?_
                  (case side1 => repeat (first | exact (Kd.V_reads' HO476.out).2.2 | (with_reducible refine Kd.C_alloc ?_ _) | (with_reducible refine Kd.C_drewN ?_ _) | (with_reducible refine Kd.C_drew ?_)))
                  (case side2 => exact (Kd.V_reads' HO476.out).2.1)
                  (case side3 => repeat (first | exact (Kd.V_reads' HO485.out).2.2 | (with_reducible refine Kd.C_alloc ?_ _) | (with_reducible refine Kd.C_drewN ?_ _) | (with_reducible refine Kd.C_drew ?_)))
                  (case side4 => exact (Kd.V_reads' HO485.out).2.1)
                  rintro e w82 ⟨rfl, hb⟩
                  refine ⟨_, rfl, ?_⟩
                  have n0_ := Aside0.mk (Kd.V_below (by (with_reducible repeat (first | apply Kd.V_alloc | apply Kd.V_drewN | apply Kd.V_drew)); exact HO445.out) hb)
                  have n1_ := Aside0.mk (Kd.V_below (by (with_reducible repeat (first | apply Kd.V_alloc | apply Kd.V_drewN | apply Kd.V_drew)); exact HO448.out) hb)
                  have n2_ := Aside0.mk (Kd.V_below (by (with_reducible repeat (first | apply Kd.V_alloc | apply Kd.V_drewN | apply Kd.V_drew)); exact HO451.out) hb)
                  have n3_ := Aside0.mk (Kd.V_below (by (with_reducible repeat (first | apply Kd.V_alloc | apply Kd.V_drewN | apply Kd.V_drew)); exact HO457.out) hb)
                  have n4_ := Aside0.mk (Kd.V_below (by (with_reducible repeat (first | apply Kd.V_alloc | apply Kd.V_drewN | apply Kd.V_drew)); exact HO460.out) hb)
                  have n5_ := Aside0.mk (Kd.V_below (by (with_reducible repeat (first | apply Kd.V_alloc | apply Kd.V_drewN | apply Kd.V_drew)); exact HO463.out) hb)
                  have n6_ := Aside0.mk (Kd.V_below (by (with_reducible repeat (first | apply Kd.V_alloc | apply Kd.V_drewN | apply Kd.V_drew)); exact HO466.out) hb)
                  have n7_ := Aside0.mk (Kd.V_below (by (with_reducible repeat (first | apply Kd.V_alloc | apply Kd.V_drewN | apply Kd.V_drew)); exact HO469.out) hb)
                  have n8_ := Aside0.mk (Kd.V_below (by (with_reducible repeat (first | apply Kd.V_alloc | apply Kd.V_drewN | apply Kd.V_drew)); exact HO473.out) hb)
                  have n9_ := Aside0.mk (Kd.V_below (by (with_reducible repeat (first | apply Kd.V_alloc | apply Kd.V_drewN | apply Kd.V_drew)); exact HO476.out) hb)
                  have n10_ := Aside0.mk (Kd.V_below (by (with_reducible repeat (first | apply Kd.V_alloc | apply Kd.V_drewN | apply Kd.V_drew)); exact HO479.out) hb)
                  have n11_ := Aside0.mk (Kd.V_below (by (with_reducible repeat (first | apply Kd.V_alloc | apply Kd.V_drewN | apply Kd.V_drew)); exact HO482.out) hb)
                  have n12_ := Aside0.mk (Kd.V_below (by (with_reducible repeat (first | apply Kd.V_alloc | apply Kd.V_drewN | apply Kd.V_drew)); exact HO485.out) hb)
                  have n13_ := Aside0.mk (blk_below (g := gb452) (o := .cells #[.slice Ao50 t443.length co50] 27 (0, 0)) (by (with_reducible repeat (first | refine blk_drewN ?_ _ | refine blk_drew ?_ | refine blk_alloc ?_ _)); exact BK452.out) hb)
                  have n14_ := Aside0.mk (blk_below (g := gb453) (o := .cells #[.slice Ao54 t446.length co54] 27 (0, 0)) (by (with_reducible repeat (first | refine blk_drewN ?_ _ | refine blk_drew ?_ | refine blk_alloc ?_ _)); exact BK453.out) hb)
                  have n15_ := Aside0.mk (blk_below (g := gb454) (o := .cells #[.slice Ao57 t449.length co57] 27 (0, 0)) (by (with_reducible repeat (first | refine blk_drewN ?_ _ | refine blk_drew ?_ | refine blk_alloc ?_ _)); exact BK454.out) hb)
                  have n16_ := Aside0.mk (below_step (by repeat (first | (with_reducible first | exact HB.out | apply below_alloc | apply pw_below_drewN | apply below_drew1 | refine below_set ?_ GE452.out | refine below_set ?_ GE453.out | refine below_set ?_ GE454.out) | exact HB.out)) hb)
                  clear HO445
                  clear HO448
                  clear HO451
                  clear HO457
                  clear HO460
                  clear HO463
                  clear HO466
                  clear HO469
                  clear HO473
                  clear HO476
                  clear HO479
                  clear HO482
                  clear HO485
                  clear BK452
                  clear BK453
                  clear BK454
                  clear HB
                  have HO445 := n0_
                  have HO448 := n1_
                  have HO451 := n2_
                  have HO457 := n3_
                  have HO460 := n4_
                  have HO463 := n5_
                  have HO466 := n6_
                  have HO469 := n7_
                  have HO473 := n8_
                  have HO476 := n9_
                  have HO479 := n10_
                  have HO482 := n11_
                  have HO485 := n12_
                  have BK452 := n13_
                  have BK453 := n14_
                  have BK454 := n15_
                  have HB := n16_
                  clear n0_ n1_ n2_ n3_ n4_ n5_ n6_ n7_ n8_ n9_ n10_ n11_ n12_ n13_ n14_ n15_ n16_
                  (try clear hb)
                  (try clear hb2)
                  (try clear hk)
                  (try clear hi)
                  refine hK.out _ _ ⟨(blk_cell BK452.out 0).trans rfl, (blk_cell BK453.out 0).trans rfl, (blk_cell BK454.out 0).trans rfl⟩ (fun hHeld => ?_)
                  clear hK K
                  refine norm_ (a' := ?_) ?_ ?_
                  rotate_left
                  · show Act.put _ (some 57) _ = _
                    simp only [Act.put, List.setIfInBounds_toArray, List.set_cons_zero, List.set_cons_succ, i64_w, i32_w]
                    rfl
                  refine pure_ (i := 27) (N := some 58) (v := ?_) (a' := ?_) #[true, true, true, true, true, true, true, true, true, true, true, true, true, true, true, true, true, true, true, true, true, true, true, true, true, true, true, true, false, false, false, false, false, false, false, false, false, false, false, false, false, false, false, false, false, false, false, false, false, false, false, false, false, false, false, false, false, false, false, false, false, false, false] rfl rfl (any_of HT_.out (by kernel_rfl)) (fun _ _ _ h => h) (Or.inl ⟨by rfl, ?_⟩) ?_ ?_
                  rotate_left
                  · intro w'
                    go_simp
                    with_reducible rfl
                  rotate_left
                  · simp only [Act.put, List.setIfInBounds_toArray, List.set_cons_zero, List.set_cons_succ, i64_w, i32_w]
                    rfl
                  refine pure_ (i := 28) (N := some 59) (v := ?_) (a' := ?_) #[true, true, true, true, true, true, true, true, true, true, true, true, true, true, true, true, true, true, true, true, true, true, true, true, true, true, true, true, true, false, false, false, false, false, false, false, false, false, false, false, false, false, false, false, false, false, false, false, false, false, false, false, false, false, false, false, false, false, false, false, false, false, false] rfl rfl (any_of HT_.out (by kernel_rfl)) (fun _ _ _ h => h) (Or.inl ⟨by rfl, ?_⟩) ?_ ?_
                  rotate_left
                  · intro w'
                    go_simp
                    with_reducible rfl
                  rotate_left
                  · simp only [Act.put, List.setIfInBounds_toArray, List.set_cons_zero, List.set_cons_succ, i64_w, i32_w]
                    rfl
                  refine take_ (i := 29) (N := some 60) (v := ?_) (a' := ?_) #[true, true, true, true, true, true, true, true, true, true, true, true, true, true, true, true, true, true, true, true, true, true, true, true, true, true, true, true, true, true, false, false, false, false, false, false, false, false, false, false, false, false, false, false, false, false, false, false, false, false, false, false, false, false, false, false, false, false, false, false, false, false, false] rfl rfl (take_ofW HT_.out HW_.out (by kernel_rfl)) (fun _ _ _ h => h) (Or.inl ⟨by rfl, ?_⟩) hHeld ?_ ?_
                  rotate_left
                  · rintro w' ⟨s0, s1, s2⟩
                    go_simp
                    with_reducible rfl
                  rotate_left
                  · simp only [Act.put, List.setIfInBounds_toArray, List.set_cons_zero, List.set_cons_succ, i64_w, i32_w]
                    rfl
                  refine take_ (i := 30) (N := some 61) (v := ?_) (a' := ?_) #[true, true, true, true, true, true, true, true, true, true, true, true, true, true, true, true, true, true, true, true, true, true, true, true, true, true, true, true, true, true, true, false, false, false, false, false, false, false, false, false, false, false, false, false, false, false, false, false, false, false, false, false, false, false, false, false, false, false, false, false, false, false, false] rfl rfl (take_ofW HT_.out HW_.out (by kernel_rfl)) (fun _ _ _ h => h) (Or.inl ⟨by rfl, ?_⟩) hHeld ?_ ?_
                  rotate_left
                  · rintro w' ⟨s0, s1, s2⟩
                    go_simp
                    with_reducible rfl
                  rotate_left
                  · simp only [Act.put, List.setIfInBounds_toArray, List.set_cons_zero, List.set_cons_succ, i64_w, i32_w]
                    rfl
                  refine take_ (i := 33) (N := some 64) (v := ?_) (a' := ?_) #[true, true, true, true, true, true, true, true, true, true, true, true, true, true, true, true, true, true, true, true, true, true, true, true, true, true, true, true, true, true, true, false, false, true, false, false, false, false, false, false, false, false, false, false, false, false, false, false, false, false, false, false, false, false, false, false, false, false, false, false, false, false, false] rfl rfl (take_ofW HT_.out HW_.out (by kernel_rfl)) (fun _ _ _ h => h) (Or.inl ⟨by rfl, ?_⟩) hHeld ?_ ?_
                  rotate_left
                  · rintro w' ⟨s0, s1, s2⟩
                    go_simp
                    with_reducible rfl
                  rotate_left
                  · simp only [Act.put, List.setIfInBounds_toArray, List.set_cons_zero, List.set_cons_succ, i64_w, i32_w]
                    rfl
                  refine take_ (i := 34) (N := some 65) (v := ?_) (a' := ?_) #[true, true, true, true, true, true, true, true, true, true, true, true, true, true, true, true, true, true, true, true, true, true, true, true, true, true, true, true, true, true, true, false, false, true, true, false, false, false, false, false, false, false, false, false, false, false, false, false, false, false, false, false, false, false, false, false, false, false, false, false, false, false, false] rfl rfl (take_ofW HT_.out HW_.out (by kernel_rfl)) (fun _ _ _ h => h) (Or.inl ⟨by rfl, ?_⟩) hHeld ?_ ?_
                  rotate_left
                  · rintro w' ⟨s0, s1, s2⟩
                    go_simp
                    with_reducible rfl
                  rotate_left
                  · simp only [Act.put, List.setIfInBounds_toArray, List.set_cons_zero, List.set_cons_succ, i64_w, i32_w]
                    rfl
                  refine take_ (i := 38) (N := some 69) (v := ?_) (a' := ?_) #[true, true, true, true, true, true, true, true, true, true, true, true, true, true, true, true, true, true, true, true, true, true, true, true, true, true, true, true, true, true, true, false, false, true, true, false, false, false, true, false, false, false, false, false, false, false, false, false, false, false, false, false, false, false, false, false, false, false, false, false, false, false, false] rfl rfl (take_ofW HT_.out HW_.out (by kernel_rfl)) (fun _ _ _ h => h) (Or.inl ⟨by rfl, ?_⟩) hHeld ?_ ?_
                  rotate_left
                  · rintro w' ⟨s0, s1, s2⟩
                    go_simp
                    with_reducible rfl
                  rotate_left
                  · simp only [Act.put, List.setIfInBounds_toArray, List.set_cons_zero, List.set_cons_succ, i64_w, i32_w]
                    rfl
                  refine one_ (i := 31) (N := some 62) #[true, true, true, true, true, true, true, true, true, true, true, true, true, true, true, true, true, true, true, true, true, true, true, true, true, true, true, true, true, true, true, true, false, true, true, false, false, false, true, false, false, false, false, false, false, false, false, false, false, false, false, false, false, false, false, false, false, false, false, false, false, false, false] rfl rfl (one_of HT_.out (by kernel_rfl)) (by decide) (fun K hK => ?_)
                  refine goes_ Tryd.func29 (by kernel_rfl) rfl #[.agg #[.slice Ao50 t443.length co50], .agg #[.slice Ao54 t446.length co54]] (by rfl) rfl rfl (by (try simp only [List.map_toArray, List.map_cons, List.map_nil]); first | done | rfl | (simp only [List.length_drop, List.length_take]; rfl)) ?_
                  with_reducible refine (bitset_Set_Minus.calls kj5 _ _ t443 _ _ t446 t487 _ ?side1 ?side2 ?side3 ?side4 A31.out).mono ?_
                  (case side1 => repeat (first | exact (Kd.V_reads' HO445.out).2.2 | (with_reducible refine Kd.C_alloc ?_ _) | (with_reducible refine Kd.C_drewN ?_ _) | (with_reducible refine Kd.C_drew ?_)))
                  (case side2 => exact (Kd.V_reads' HO445.out).2.1)
                  (case side3 => repeat (first | exact (Kd.V_reads' HO448.out).2.2 | (with_reducible refine Kd.C_alloc ?_ _) | (with_reducible refine Kd.C_drewN ?_ _) | (with_reducible refine Kd.C_drew ?_)))
                  (case side4 => exact (Kd.V_reads' HO448.out).2.1)
                  rintro e w83 ⟨v488, rfl, ho0, hb⟩
                  refine ⟨_, rfl, ?_⟩
                  have n0_ := Aside0.mk (Kd.V_below (by (with_reducible repeat (first | apply Kd.V_alloc | apply Kd.V_drewN | apply Kd.V_drew)); exact HO445.out) hb)
                  have n1_ := Aside0.mk (Kd.V_below (by (with_reducible repeat (first | apply Kd.V_alloc | apply Kd.V_drewN | apply Kd.V_drew)); exact HO448.out) hb)
                  have n2_ := Aside0.mk (Kd.V_below (by (with_reducible repeat (first | apply Kd.V_alloc | apply Kd.V_drewN | apply Kd.V_drew)); exact HO451.out) hb)
                  have n3_ := Aside0.mk (Kd.V_below (by (with_reducible repeat (first | apply Kd.V_alloc | apply Kd.V_drewN | apply Kd.V_drew)); exact HO457.out) hb)
                  have n4_ := Aside0.mk (Kd.V_below (by (with_reducible repeat (first | apply Kd.V_alloc | apply Kd.V_drewN | apply Kd.V_drew)); exact HO460.out) hb)
                  have n5_ := Aside0.mk (Kd.V_below (by (with_reducible repeat (first | apply Kd.V_alloc | apply Kd.V_drewN | apply Kd.V_drew)); exact HO463.out) hb)
                  have n6_ := Aside0.mk (Kd.V_below (by (with_reducible repeat (first | apply Kd.V_alloc | apply Kd.V_drewN | apply Kd.V_drew)); exact HO466.out) hb)
                  have n7_ := Aside0.mk (Kd.V_below (by (with_reducible repeat (first | apply Kd.V_alloc | apply Kd.V_drewN | apply Kd.V_drew)); exact HO469.out) hb)
                  have n8_ := Aside0.mk (Kd.V_below (by (with_reducible repeat (first | apply Kd.V_alloc | apply Kd.V_drewN | apply Kd.V_drew)); exact HO473.out) hb)
                  have n9_ := Aside0.mk (Kd.V_below (by (with_reducible repeat (first | apply Kd.V_alloc | apply Kd.V_drewN | apply Kd.V_drew)); exact HO476.out) hb)
                  have n10_ := Aside0.mk (Kd.V_below (by (with_reducible repeat (first | apply Kd.V_alloc | apply Kd.V_drewN | apply Kd.V_drew)); exact HO479.out) hb)
                  have n11_ := Aside0.mk (Kd.V_below (by (with_reducible repeat (first | apply Kd.V_alloc | apply Kd.V_drewN | apply Kd.V_drew)); exact HO482.out) hb)
                  have n12_ := Aside0.mk (Kd.V_below (by (with_reducible repeat (first | apply Kd.V_alloc | apply Kd.V_drewN | apply Kd.V_drew)); exact HO485.out) hb)
                  have n13_ := Aside0.mk (Kd.V_lower (Kd.V_mono (ok' := fun k_ => k_ ≠ gb452 ∧ k_ ≠ gb453 ∧ k_ ≠ gb454) ho0 (fun k_ hk_ => ⟨(Kd.freshB (g := gb452) (o := .cells #[.slice Ao50 t443.length co50] 27 (0, 0)) (by (with_reducible repeat (first | refine blk_drewN ?_ _ | refine blk_drew ?_ | refine blk_alloc ?_ _)); exact BK452.out) k_ hk_), (Kd.freshB (g := gb453) (o := .cells #[.slice Ao54 t446.length co54] 27 (0, 0)) (by (with_reducible repeat (first | refine blk_drewN ?_ _ | refine blk_drew ?_ | refine blk_alloc ?_ _)); exact BK453.out) k_ hk_), (Kd.freshB (g := gb454) (o := .cells #[.slice Ao57 t449.length co57] 27 (0, 0)) (by (with_reducible repeat (first | refine blk_drewN ?_ _ | refine blk_drew ?_ | refine blk_alloc ?_ _)); exact BK454.out) k_ hk_)⟩)) (below_size (by repeat (first | (with_reducible first | exact HB.out | apply below_alloc | apply pw_below_drewN | apply below_drew1 | refine below_set ?_ GE452.out | refine below_set ?_ GE453.out | refine below_set ?_ GE454.out) | exact HB.out))))
                  have n14_ := Aside0.mk (blk_below (g := gb452) (o := .cells #[.slice Ao50 t443.length co50] 27 (0, 0)) (by (with_reducible repeat (first | refine blk_drewN ?_ _ | refine blk_drew ?_ | refine blk_alloc ?_ _)); exact BK452.out) hb)
                  have n15_ := Aside0.mk (blk_below (g := gb453) (o := .cells #[.slice Ao54 t446.length co54] 27 (0, 0)) (by (with_reducible repeat (first | refine blk_drewN ?_ _ | refine blk_drew ?_ | refine blk_alloc ?_ _)); exact BK453.out) hb)
                  have n16_ := Aside0.mk (blk_below (g := gb454) (o := .cells #[.slice Ao57 t449.length co57] 27 (0, 0)) (by (with_reducible repeat (first | refine blk_drewN ?_ _ | refine blk_drew ?_ | refine blk_alloc ?_ _)); exact BK454.out) hb)
                  have n17_ := Aside0.mk (below_step (by repeat (first | (with_reducible first | exact HB.out | apply below_alloc | apply pw_below_drewN | apply below_drew1 | refine below_set ?_ GE452.out | refine below_set ?_ GE453.out | refine below_set ?_ GE454.out) | exact HB.out)) hb)
                  clear HO445
                  clear HO448
                  clear HO451
                  clear HO457
                  clear HO460
                  clear HO463
                  clear HO466
                  clear HO469
                  clear HO473
                  clear HO476
                  clear HO479
                  clear HO482
                  clear HO485
                  clear BK452
                  clear BK453
                  clear BK454
                  clear HB
                  have HO445 := n0_
                  have HO448 := n1_
                  have HO451 := n2_
                  have HO457 := n3_
                  have HO460 := n4_
                  have HO463 := n5_
                  have HO466 := n6_
                  have HO469 := n7_
                  have HO473 := n8_
                  have HO476 := n9_
                  have HO479 := n10_
                  have HO482 := n11_
                  have HO485 := n12_
                  have HO489 := n13_
                  have BK452 := n14_
                  have BK453 := n15_
                  have BK454 := n16_
                  have HB := n17_
                  clear n0_ n1_ n2_ n3_ n4_ n5_ n6_ n7_ n8_ n9_ n10_ n11_ n12_ n13_ n14_ n15_ n16_ n17_
                  (try clear hb)
                  (try clear hb2)
                  (try clear hk)
                  (try clear hi)
                  (try clear ho0)
                  obtain ⟨Ao84, co84, eo84⟩ := Kd.V_slice HO489.out
                  (first | subst eo84 | (injection eo84 with f1_ f2_ f3_; have f4_ := f1_.symm; have f5_ := f3_.symm; clear f1_ f2_ f3_; subst f4_; subst f5_))
                  refine hK.out _ _ ⟨(blk_cell BK452.out 0).trans rfl, (blk_cell BK453.out 0).trans rfl, (blk_cell BK454.out 0).trans rfl⟩ (fun hHeld => ?_)
                  clear hK K
                  refine norm_ (a' := ?_) ?_ ?_
                  rotate_left
                  · show Act.put _ (some 62) _ = _
                    simp only [Act.put, List.setIfInBounds_toArray, List.set_cons_zero, List.set_cons_succ, i64_w, i32_w]
                    rfl
                  refine one_ (i := 32) (N := some 63) #[true, true, true, true, true, true, true, true, true, true, true, true, true, true, true, true, true, true, true, true, true, true, true, true, true, true, true, true, true, true, true, true, true, true, true, false, false, false, true, false, false, false, false, false, false, false, false, false, false, false, false, false, false, false, false, false, false, false, false, false, false, false, false] rfl rfl (one_of HT_.out (by kernel_rfl)) (by decide) (fun K hK => ?_)
                  refine goes_ Tryd.func36 (by kernel_rfl) rfl #[.agg #[.slice Ao84 t487.length co84]] (by rfl) rfl rfl (by (try simp only [List.map_toArray, List.map_cons, List.map_nil]); first | done | rfl | (simp only [List.length_drop, List.length_take]; rfl)) ?_
                  with_reducible refine (bitset_Set_Len.calls kj5 _ _ t487 t490 _ ?side1 ?side2 A32.out).mono ?_
                  (case side1 => repeat (first | exact (Kd.V_reads' HO489.out).2.2 | (with_reducible refine Kd.C_alloc ?_ _) | (with_reducible refine Kd.C_drewN ?_ _) | (with_reducible refine Kd.C_drew ?_)))
                  (case side2 => exact (Kd.V_reads' HO489.out).2.1)
                  rintro e w85 ⟨rfl, hb⟩
                  refine ⟨_, rfl, ?_⟩
                  have n0_ := Aside0.mk (Kd.V_below (by (with_reducible repeat (first | apply Kd.V_alloc | apply Kd.V_drewN | apply Kd.V_drew)); exact HO445.out) hb)
                  have n1_ := Aside0.mk (Kd.V_below (by (with_reducible repeat (first | apply Kd.V_alloc | apply Kd.V_drewN | apply Kd.V_drew)); exact HO448.out) hb)
                  have n2_ := Aside0.mk (Kd.V_below (by (with_reducible repeat (first | apply Kd.V_alloc | apply Kd.V_drewN | apply Kd.V_drew)); exact HO451.out) hb)
                  have n3_ := Aside0.mk (Kd.V_below (by (with_reducible repeat (first | apply Kd.V_alloc | apply Kd.V_drewN | apply Kd.V_drew)); exact HO457.out) hb)
                  have n4_ := Aside0.mk (Kd.V_below (by (with_reducible repeat (first | apply Kd.V_alloc | apply Kd.V_drewN | apply Kd.V_drew)); exact HO460.out) hb)
                  have n5_ := Aside0.mk (Kd.V_below (by (with_reducible repeat (first | apply Kd.V_alloc | apply Kd.V_drewN | apply Kd.V_drew)); exact HO463.out) hb)
                  have n6_ := Aside0.mk (Kd.V_below (by (with_reducible repeat (first | apply Kd.V_alloc | apply Kd.V_drewN | apply Kd.V_drew)); exact HO466.out) hb)
                  have n7_ := Aside0.mk (Kd.V_below (by (with_reducible repeat (first | apply Kd.V_alloc | apply Kd.V_drewN | apply Kd.V_drew)); exact HO469.out) hb)
                  have n8_ := Aside0.mk (Kd.V_below (by (with_reducible repeat (first | apply Kd.V_alloc | apply Kd.V_drewN | apply Kd.V_drew)); exact HO473.out) hb)
                  have n9_ := Aside0.mk (Kd.V_below (by (with_reducible repeat (first | apply Kd.V_alloc | apply Kd.V_drewN | apply Kd.V_drew)); exact HO476.out) hb)
                  have n10_ := Aside0.mk (Kd.V_below (by (with_reducible repeat (first | apply Kd.V_alloc | apply Kd.V_drewN | apply Kd.V_drew)); exact HO479.out) hb)
                  have n11_ := Aside0.mk (Kd.V_below (by (with_reducible repeat (first | apply Kd.V_alloc | apply Kd.V_drewN | apply Kd.V_drew)); exact HO482.out) hb)
                  have n12_ := Aside0.mk (Kd.V_below (by (with_reducible repeat (first | apply Kd.V_alloc | apply Kd.V_drewN | apply Kd.V_drew)); exact HO485.out) hb)
                  have n13_ := Aside0.mk (Kd.V_below (by (with_reducible repeat (first | apply Kd.V_alloc | apply Kd.V_drewN | apply Kd.V_drew)); exact HO489.out) hb)
                  have n14_ := Aside0.mk (blk_below (g := gb452) (o := .cells #[.slice Ao50 t443.length co50] 27 (0, 0)) (by (with_reducible repeat (first | refine blk_drewN ?_ _ | refine blk_drew ?_ | refine blk_alloc ?_ _)); exact BK452.out) hb)
                  have n15_ := Aside0.mk (blk_below (g := gb453) (o := .cells #[.slice Ao54 t446.length co54] 27 (0, 0)) (by (with_reducible repeat (first | refine blk_drewN ?_ _ | refine blk_drew ?_ | refine blk_alloc ?_ _)); exact BK453.out) hb)
                  have n16_ := Aside0.mk (blk_below (g := gb454) (o := .cells #[.slice Ao57 t449.length co57] 27 (0, 0)) (by (with_reducible repeat (first | refine blk_drewN ?_ _ | refine blk_drew ?_ | refine blk_alloc ?_ _)); exact BK454.out) hb)
                  have n17_ := Aside0.mk (below_step (by repeat (first | (with_reducible first | exact HB.out | apply below_alloc | apply pw_below_drewN | apply below_drew1 | refine below_set ?_ GE452.out | refine below_set ?_ GE453.out | refine below_set ?_ GE454.out) | exact HB.out)) hb)
                  clear HO445
                  clear HO448
                  clear HO451
                  clear HO457
                  clear HO460
                  clear HO463
                  clear HO466
                  clear HO469
                  clear HO473
                  clear HO476
                  clear HO479
                  clear HO482
                  clear HO485
                  clear HO489
                  clear BK452
                  clear BK453
                  clear BK454
                  clear HB
                  have HO445 := n0_
                  have HO448 := n1_
                  have HO451 := n2_
                  have HO457 := n3_
                  have HO460 := n4_
                  have HO463 := n5_
                  have HO466 := n6_
                  have HO469 := n7_
                  have HO473 := n8_
                  have HO476 := n9_
                  have HO479 := n10_
                  have HO482 := n11_
                  have HO485 := n12_
                  have HO489 := n13_
                  have BK452 := n14_
                  have BK453 := n15_
                  have BK454 := n16_
                  have HB := n17_
                  clear n0_ n1_ n2_ n3_ n4_ n5_ n6_ n7_ n8_ n9_ n10_ n11_ n12_ n13_ n14_ n15_ n16_ n17_
                  (try clear hb)
                  (try clear hb2)
                  (try clear hk)
                  (try clear hi)
                  refine hK.out _ _ ⟨(blk_cell BK452.out 0).trans rfl, (blk_cell BK453.out 0).trans rfl, (blk_cell BK454.out 0).trans rfl⟩ (fun hHeld => ?_)
                  clear hK K
                  refine norm_ (a' := ?_) ?_ ?_
                  rotate_left
                  · show Act.put _ (some 63) _ = _
                    simp only [Act.put, List.setIfInBounds_toArray, List.set_cons_zero, List.set_cons_succ, i64_w, i32_w]
                    rfl
                  refine one_ (i := 35) (N := some 66) #[true, true, true, true, true, true, true, true, true, true, true, true, true, true, true, true, true, true, true, true, true, true, true, true, true, true, true, true, true, true, true, true, true, true, true, true, false, false, true, false, false, false, false, false, false, false, false, false, false, false, false, false, false, false, false, false, false, false, false, false, false, false, false] rfl rfl (one_of HT_.out (by kernel_rfl)) (by decide) (fun K hK => ?_)
                  refine goes_ Tryd.func27 (by kernel_rfl) rfl #[.agg #[.slice Ao50 t443.length co50], .agg #[.slice Ao54 t446.length co54]] (by rfl) rfl rfl (by (try simp only [List.map_toArray, List.map_cons, List.map_nil]); first | done | rfl | (simp only [List.length_drop, List.length_take]; rfl)) ?_
                  with_reducible refine (bitset_Set_Intersect.calls kj5 _ _ t443 _ _ t446 t491 _ ?side1 ?side2 ?side3 ?side4 A33.out).mono ?_
                  (case side1 => repeat (first | exact (Kd.V_reads' HO445.out).2.2 | (with_reducible refine Kd.C_alloc ?_ _) | (with_reducible refine Kd.C_drewN ?_ _) | (with_reducible refine Kd.C_drew ?_)))
                  (case side2 => exact (Kd.V_reads' HO445.out).2.1)
                  (case side3 => repeat (first | exact (Kd.V_reads' HO448.out).2.2 | (with_reducible refine Kd.C_alloc ?_ _) | (with_reducible refine Kd.C_drewN ?_ _) | (with_reducible refine Kd.C_drew ?_)))
                  (case side4 => exact (Kd.V_reads' HO448.out).2.1)
                  rintro e w86 ⟨v492, rfl, ho0, hb⟩
                  refine ⟨_, rfl, ?_⟩
                  have n0_ := Aside0.mk (Kd.V_below (by (with_reducible repeat (first | apply Kd.V_alloc | apply Kd.V_drewN | apply Kd.V_drew)); exact HO445.out) hb)
                  have n1_ := Aside0.mk (Kd.V_below (by (with_reducible repeat (first | apply Kd.V_alloc | apply Kd.V_drewN | apply Kd.V_drew)); exact HO448.out) hb)
                  have n2_ := Aside0.mk (Kd.V_below (by (with_reducible repeat (first | apply Kd.V_alloc | apply Kd.V_drewN | apply Kd.V_drew)); exact HO451.out) hb)
                  have n3_ := Aside0.mk (Kd.V_below (by (with_reducible repeat (first | apply Kd.V_alloc | apply Kd.V_drewN | apply Kd.V_drew)); exact HO457.out) hb)
                  have n4_ := Aside0.mk (Kd.V_below (by (with_reducible repeat (first | apply Kd.V_alloc | apply Kd.V_drewN | apply Kd.V_drew)); exact HO460.out) hb)
                  have n5_ := Aside0.mk (Kd.V_below (by (with_reducible repeat (first | apply Kd.V_alloc | apply Kd.V_drewN | apply Kd.V_drew)); exact HO463.out) hb)
                  have n6_ := Aside0.mk (Kd.V_below (by (with_reducible repeat (first | apply Kd.V_alloc | apply Kd.V_drewN | apply Kd.V_drew)); exact HO466.out) hb)
                  have n7_ := Aside0.mk (Kd.V_below (by (with_reducible repeat (first | apply Kd.V_alloc | apply Kd.V_drewN | apply Kd.V_drew)); exact HO469.out) hb)
                  have n8_ := Aside0.mk (Kd.V_below (by (with_reducible repeat (first | apply Kd.V_alloc | apply Kd.V_drewN | apply Kd.V_drew)); exact HO473.out) hb)
                  have n9_ := Aside0.mk (Kd.V_below (by (with_reducible repeat (first | apply Kd.V_alloc | apply Kd.V_drewN | apply Kd.V_drew)); exact HO476.out) hb)
                  have n10_ := Aside0.mk (Kd.V_below (by (with_reducible repeat (first | apply Kd.V_alloc | apply Kd.V_drewN | apply Kd.V_drew)); exact HO479.out) hb)
                  have n11_ := Aside0.mk (Kd.V_below (by (with_reducible repeat (first | apply Kd.V_alloc | apply Kd.V_drewN | apply Kd.V_drew)); exact HO482.out) hb)
                  have n12_ := Aside0.mk (Kd.V_below (by (with_reducible repeat (first | apply Kd.V_alloc | apply Kd.V_drewN | apply Kd.V_drew)); exact HO485.out) hb)
                  have n13_ := Aside0.mk (Kd.V_below (by (with_reducible repeat (first | apply Kd.V_alloc | apply Kd.V_drewN | apply Kd.V_drew)); exact HO489.out) hb)
                  have n14_ := Aside0.mk (Kd.V_lower (Kd.V_mono (ok' := fun k_ => k_ ≠ gb452 ∧ k_ ≠ gb453 ∧ k_ ≠ gb454) ho0 (fun k_ hk_ => ⟨(Kd.freshB (g := gb452) (o := .cells #[.slice Ao50 t443.length co50] 27 (0, 0)) (by (with_reducible repeat (first | refine blk_drewN ?_ _ | refine blk_drew ?_ | refine blk_alloc ?_ _)); exact BK452.out) k_ hk_), (Kd.freshB (g := gb453) (o := .cells #[.slice Ao54 t446.length co54] 27 (0, 0)) (by (with_reducible repeat (first | refine blk_drewN ?_ _ | refine blk_drew ?_ | refine blk_alloc ?_ _)); exact BK453.out) k_ hk_), (Kd.freshB (g := gb454) (o := .cells #[.slice Ao57 t449.length co57] 27 (0, 0)) (by (with_reducible repeat (first | refine blk_drewN ?_ _ | refine blk_drew ?_ | refine blk_alloc ?_ _)); exact BK454.out) k_ hk_)⟩)) (below_size (by repeat (first | (with_reducible first | exact HB.out | apply below_alloc | apply pw_below_drewN | apply below_drew1 | refine below_set ?_ GE452.out | refine below_set ?_ GE453.out | refine below_set ?_ GE454.out) | exact HB.out))))
                  have n15_ := Aside0.mk (blk_below (g := gb452) (o := .cells #[.slice Ao50 t443.length co50] 27 (0, 0)) (by (with_reducible repeat (first | refine blk_drewN ?_ _ | refine blk_drew ?_ | refine blk_alloc ?_ _)); exact BK452.out) hb)
                  have n16_ := Aside0.mk (blk_below (g := gb453) (o := .cells #[.slice Ao54 t446.length co54] 27 (0, 0)) (by (with_reducible repeat (first | refine blk_drewN ?_ _ | refine blk_drew ?_ | refine blk_alloc ?_ _)); exact BK453.out) hb)
                  have n17_ := Aside0.mk (blk_below (g := gb454) (o := .cells #[.slice Ao57 t449.length co57] 27 (0, 0)) (by (with_reducible repeat (first | refine blk_drewN ?_ _ | refine blk_drew ?_ | refine blk_alloc ?_ _)); exact BK454.out) hb)
                  have n18_ := Aside0.mk (below_step (by repeat (first | (with_reducible first | exact HB.out | apply below_alloc | apply pw_below_drewN | apply below_drew1 | refine below_set ?_ GE452.out | refine below_set ?_ GE453.out | refine below_set ?_ GE454.out) | exact HB.out)) hb)
                  clear HO445
                  clear HO448
                  clear HO451
                  clear HO457
                  clear HO460
                  clear HO463
                  clear HO466
                  clear HO469
                  clear HO473
                  clear HO476
                  clear HO479
                  clear HO482
                  clear HO485
                  clear HO489
                  clear BK452
                  clear BK453
                  clear BK454
                  clear HB
                  have HO445 := n0_
                  have HO448 := n1_
                  have HO451 := n2_
                  have HO457 := n3_
                  have HO460 := n4_
                  have HO463 := n5_
                  have HO466 := n6_
                  have HO469 := n7_
                  have HO473 := n8_
                  have HO476 := n9_
                  have HO479 := n10_
                  have HO482 := n11_
                  have HO485 := n12_
                  have HO489 := n13_
                  have HO493 := n14_
                  have BK452 := n15_
                  have BK453 := n16_
                  have BK454 := n17_
                  have HB := n18_
                  clear n0_ n1_ n2_ n3_ n4_ n5_ n6_ n7_ n8_ n9_ n10_ n11_ n12_ n13_ n14_ n15_ n16_ n17_ n18_
                  (try clear hb)
                  (try clear hb2)
                  (try clear hk)
                  (try clear hi)
                  (try clear ho0)
                  obtain ⟨Ao87, co87, eo87⟩ := Kd.V_slice HO493.out
                  (first | subst eo87 | (injection eo87 with f1_ f2_ f3_; have f4_ := f1_.symm; have f5_ := f3_.symm; clear f1_ f2_ f3_; subst f4_; subst f5_))
                  refine hK.out _ _ ⟨(blk_cell BK452.out 0).trans rfl, (blk_cell BK453.out 0).trans rfl, (blk_cell BK454.out 0).trans rfl⟩ (fun hHeld => ?_)
                  clear hK K
                  refine norm_ (a' := ?_) ?_ ?_
                  rotate_left
                  · show Act.put _ (some 66) _ = _
                    simp only [Act.put, List.setIfInBounds_toArray, List.set_cons_zero, List.set_cons_succ, i64_w, i32_w]
                    rfl
                  refine one_ (i := 36) (N := some 67) #[true, true, true, true, true, true, true, true, true, true, true, true, true, true, true, true, true, true, true, true, true, true, true, true, true, true, true, true, true, true, true, true, true, true, true, true, true, false, true, false, false, false, false, false, false, false, false, false, false, false, false, false, false, false, false, false, false, false, false, false, false, false, false] rfl rfl (one_of HT_.out (by kernel_rfl)) (by decide) (fun K hK => ?_)
                  refine goes_ Tryd.func36 (by kernel_rfl) rfl #[.agg #[.slice Ao87 t491.length co87]] (by rfl) rfl rfl (by (try simp only [List.map_toArray, List.map_cons, List.map_nil]); first | done | rfl | (simp only [List.length_drop, List.length_take]; rfl)) ?_
                  with_reducible refine (bitset_Set_Len.calls kj5 _ _ t491 t494 _ ?side1 ?side2 A34.out).mono ?_
                  (case side1 => repeat (first | exact (Kd.V_reads' HO493.out).2.2 | (with_reducible refine Kd.C_alloc ?_ _) | (with_reducible refine Kd.C_drewN ?_ _) | (with_reducible refine Kd.C_drew ?_)))
                  (case side2 => exact (Kd.V_reads' HO493.out).2.1)
                  rintro e w88 ⟨rfl, hb⟩
                  refine ⟨_, rfl, ?_⟩
                  have n0_ := Aside0.mk (Kd.V_below (by (with_reducible repeat (first | apply Kd.V_alloc | apply Kd.V_drewN | apply Kd.V_drew)); exact HO445.out) hb)
                  have n1_ := Aside0.mk (Kd.V_below (by (with_reducible repeat (first | apply Kd.V_alloc | apply Kd.V_drewN | apply Kd.V_drew)); exact HO448.out) hb)
                  have n2_ := Aside0.mk (Kd.V_below (by (with_reducible repeat (first | apply Kd.V_alloc | apply Kd.V_drewN | apply Kd.V_drew)); exact HO451.out) hb)
                  have n3_ := Aside0.mk (Kd.V_below (by (with_reducible repeat (first | apply Kd.V_alloc | apply Kd.V_drewN | apply Kd.V_drew)); exact HO457.out) hb)
                  have n4_ := Aside0.mk (Kd.V_below (by (with_reducible repeat (first | apply Kd.V_alloc | apply Kd.V_drewN | apply Kd.V_drew)); exact HO460.out) hb)
                  have n5_ := Aside0.mk (Kd.V_below (by (with_reducible repeat (first | apply Kd.V_alloc | apply Kd.V_drewN | apply Kd.V_drew)); exact HO463.out) hb)
                  have n6_ := Aside0.mk (Kd.V_below (by (with_reducible repeat (first | apply Kd.V_alloc | apply Kd.V_drewN | apply Kd.V_drew)); exact HO466.out) hb)
                  have n7_ := Aside0.mk (Kd.V_below (by (with_reducible repeat (first | apply Kd.V_alloc | apply Kd.V_drewN | apply Kd.V_drew)); exact HO469.out) hb)
                  have n8_ := Aside0.mk (Kd.V_below (by (with_reducible repeat (first | apply Kd.V_alloc | apply Kd.V_drewN | apply Kd.V_drew)); exact HO473.out) hb)
                  have n9_ := Aside0.mk (Kd.V_below (by (with_reducible repeat (first | apply Kd.V_alloc | apply Kd.V_drewN | apply Kd.V_drew)); exact HO476.out) hb)
                  have n10_ := Aside0.mk (Kd.V_below (by (with_reducible repeat (first | apply Kd.V_alloc | apply Kd.V_drewN | apply Kd.V_drew)); exact HO479.out) hb)
                  have n11_ := Aside0.mk (Kd.V_below (by (with_reducible repeat (first | apply Kd.V_alloc | apply Kd.V_drewN | apply Kd.V_drew)); exact HO482.out) hb)
                  have n12_ := Aside0.mk (Kd.V_below (by (with_reducible repeat (first | apply Kd.V_alloc | apply Kd.V_drewN | apply Kd.V_drew)); exact HO485.out) hb)
                  have n13_ := Aside0.mk (Kd.V_below (by (with_reducible repeat (first | apply Kd.V_alloc | apply Kd.V_drewN | apply Kd.V_drew)); exact HO489.out) hb)
                  have n14_ := Aside0.mk (Kd.V_below (by (with_reducible repeat (first | apply Kd.V_alloc | apply Kd.V_drewN | apply Kd.V_drew)); exact HO493.out) hb)
                  have n15_ := Aside0.mk (blk_below (g := gb452) (o := .cells #[.slice Ao50 t443.length co50] 27 (0, 0)) (by (with_reducible repeat (first | refine blk_drewN ?_ _ | refine blk_drew ?_ | refine blk_alloc ?_ _)); exact BK452.out) hb)
                  have n16_ := Aside0.mk (blk_below (g := gb453) (o := .cells #[.slice Ao54 t446.length co54] 27 (0, 0)) (by (with_reducible repeat (first | refine blk_drewN ?_ _ | refine blk_drew ?_ | refine blk_alloc ?_ _)); exact BK453.out) hb)
                  have n17_ := Aside0.mk (blk_below (g := gb454) (o := .cells #[.slice Ao57 t449.length co57] 27 (0, 0)) (by (with_reducible repeat (first | refine blk_drewN ?_ _ | refine blk_drew ?_ | refine blk_alloc ?_ _)); exact BK454.out) hb)
                  have n18_ := Aside0.mk (below_step (by repeat (first | (with_reducible first | exact HB.out | apply below_alloc | apply pw_below_drewN | apply below_drew1 | refine below_set ?_ GE452.out | refine below_set ?_ GE453.out | refine below_set ?_ GE454.out) | exact HB.out)) hb)
                  clear HO445
                  clear HO448
                  clear HO451
                  clear HO457
                  clear HO460
                  clear HO463
                  clear HO466
                  clear HO469
                  clear HO473
                  clear HO476
                  clear HO479
                  clear HO482
                  clear HO485
                  clear HO489
                  clear HO493
                  clear BK452
                  clear BK453
                  clear BK454
                  clear HB
                  have HO445 := n0_
                  have HO448 := n1_
                  have HO451 := n2_
                  have HO457 := n3_
                  have HO460 := n4_
                  have HO463 := n5_
                  have HO466 := n6_
                  have HO469 := n7_
                  have HO473 := n8_
                  have HO476 := n9_
                  have HO479 := n10_
                  have HO482 := n11_
                  have HO485 := n12_
                  have HO489 := n13_
                  have HO493 := n14_
                  have BK452 := n15_
                  have BK453 := n16_
                  have BK454 := n17_
                  have HB := n18_
                  clear n0_ n1_ n2_ n3_ n4_ n5_ n6_ n7_ n8_ n9_ n10_ n11_ n12_ n13_ n14_ n15_ n16_ n17_ n18_
                  (try clear hb)
                  (try clear hb2)
                  (try clear hk)
                  (try clear hi)
                  refine hK.out _ _ ⟨(blk_cell BK452.out 0).trans rfl, (blk_cell BK453.out 0).trans rfl, (blk_cell BK454.out 0).trans rfl⟩ (fun hHeld => ?_)
                  clear hK K
                  refine norm_ (a' := ?_) ?_ ?_
                  rotate_left
                  · show Act.put _ (some 67) _ = _
                    simp only [Act.put, List.setIfInBounds_toArray, List.set_cons_zero, List.set_cons_succ, i64_w, i32_w]
                    rfl
                  refine pure_ (i := 37) (N := some 68) (v := ?_) (a' := ?_) #[true, true, true, true, true, true, true, true, true, true, true, true, true, true, true, true, true, true, true, true, true, true, true, true, true, true, true, true, true, true, true, true, true, true, true, true, true, true, true, false, false, false, false, false, false, false, false, false, false, false, false, false, false, false, false, false, false, false, false, false, false, false, false] rfl rfl (any_of HT_.out (by kernel_rfl)) (fun _ _ _ h => h) (Or.inl ⟨by rfl, ?_⟩) ?_ ?_
                  rotate_left
                  · intro w'
                    go_simp
                    with_reducible rfl
                  rotate_left
                  · simp only [Act.put, List.setIfInBounds_toArray, List.set_cons_zero, List.set_cons_succ, i64_w, i32_w]
                    rfl
                  refine one_ (i := 39) (N := some 70) #[true, true, true, true, true, true, true, true, true, true, true, true, true, true, true, true, true, true, true, true, true, true, true, true, true, true, true, true, true, true, true, true, true, true, true, true, true, true, true, true, false, false, false, false, false, false, false, false, false, false, false, false, false, false, false, false, false, false, false, false, false, false, false] rfl rfl (one_of HT_.out (by kernel_rfl)) (by decide) (fun K hK => ?_)
                  refine goes_ Tryd.func36 (by kernel_rfl) rfl #[.agg #[.slice Ao50 t443.length co50]] (by rfl) rfl rfl (by (try simp only [List.map_toArray, List.map_cons, List.map_nil]); first | done | rfl | (simp only [List.length_drop, List.length_take]; rfl)) ?_
                  with_reducible refine (bitset_Set_Len.calls kj5 _ _ t443 t495 _ ?side1 ?side2 A35.out).mono ?_
                  (case side1 => repeat (first | exact (Kd.V_reads' HO445.out).2.2 | (with_reducible refine Kd.C_alloc ?_ _) | (with_reducible refine Kd.C_drewN ?_ _) | (with_reducible refine Kd.C_drew ?_)))
                  (case side2 => exact (Kd.V_reads' HO445.out).2.1)
                  rintro e w89 ⟨rfl, hb⟩
                  refine ⟨_, rfl, ?_⟩
                  have n0_ := Aside0.mk (Kd.V_below (by (with_reducible repeat (first | apply Kd.V_alloc | apply Kd.V_drewN | apply Kd.V_drew)); exact HO445.out) hb)
                  have n1_ := Aside0.mk (Kd.V_below (by (with_reducible repeat (first | apply Kd.V_alloc | apply Kd.V_drewN | apply Kd.V_drew)); exact HO448.out) hb)
                  have n2_ := Aside0.mk (Kd.V_below (by (with_reducible repeat (first | apply Kd.V_alloc | apply Kd.V_drewN | apply Kd.V_drew)); exact HO451.out) hb)
                  have n3_ := Aside0.mk (Kd.V_below (by (with_reducible repeat (first | apply Kd.V_alloc | apply Kd.V_drewN | apply Kd.V_drew)); exact HO457.out) hb)
                  have n4_ := Aside0.mk (Kd.V_below (by (with_reducible repeat (first | apply Kd.V_alloc | apply Kd.V_drewN | apply Kd.V_drew)); exact HO460.out) hb)
                  have n5_ := Aside0.mk (Kd.V_below (by (with_reducible repeat (first | apply Kd.V_alloc | apply Kd.V_drewN | apply Kd.V_drew)); exact HO463.out) hb)
                  have n6_ := Aside0.mk (Kd.V_below (by (with_reducible repeat (first | apply Kd.V_alloc | apply Kd.V_drewN | apply Kd.V_drew)); exact HO466.out) hb)
                  have n7_ := Aside0.mk (Kd.V_below (by (with_reducible repeat (first | apply Kd.V_alloc | apply Kd.V_drewN | apply Kd.V_drew)); exact HO469.out) hb)
                  have n8_ := Aside0.mk (Kd.V_below (by (with_reducible repeat (first | apply Kd.V_alloc | apply Kd.V_drewN | apply Kd.V_drew)); exact HO473.out) hb)
                  have n9_ := Aside0.mk (Kd.V_below (by (with_reducible repeat (first | apply Kd.V_alloc | apply Kd.V_drewN | apply Kd.V_drew)); exact HO476.out) hb)
                  have n10_ := Aside0.mk (Kd.V_below (by (with_reducible repeat (first | apply Kd.V_alloc | apply Kd.V_drewN | apply Kd.V_drew)); exact HO479.out) hb)
                  have n11_ := Aside0.mk (Kd.V_below (by (with_reducible repeat (first | apply Kd.V_alloc | apply Kd.V_drewN | apply Kd.V_drew)); exact HO482.out) hb)
                  have n12_ := Aside0.mk (Kd.V_below (by (with_reducible repeat (first | apply Kd.V_alloc | apply Kd.V_drewN | apply Kd.V_drew)); exact HO485.out) hb)
                  have n13_ := Aside0.mk (Kd.V_below (by (with_reducible repeat (first | apply Kd.V_alloc | apply Kd.V_drewN | apply Kd.V_drew)); exact HO489.out) hb)
                  have n14_ := Aside0.mk (Kd.V_below (by (with_reducible repeat (first | apply Kd.V_alloc | apply Kd.V_drewN | apply Kd.V_drew)); exact HO493.out) hb)
                  have n15_ := Aside0.mk (blk_below (g := gb452) (o := .cells #[.slice Ao50 t443.length co50] 27 (0, 0)) (by (with_reducible repeat (first | refine blk_drewN ?_ _ | refine blk_drew ?_ | refine blk_alloc ?_ _)); exact BK452.out) hb)
                  have n16_ := Aside0.mk (blk_below (g := gb453) (o := .cells #[.slice Ao54 t446.length co54] 27 (0, 0)) (by (with_reducible repeat (first | refine blk_drewN ?_ _ | refine blk_drew ?_ | refine blk_alloc ?_ _)); exact BK453.out) hb)
                  have n17_ := Aside0.mk (blk_below (g := gb454) (o := .cells #[.slice Ao57 t449.length co57] 27 (0, 0)) (by (with_reducible repeat (first | refine blk_drewN ?_ _ | refine blk_drew ?_ | refine blk_alloc ?_ _)); exact BK454.out) hb)
                  have n18_ := Aside0.mk (below_step (by repeat (first | (with_reducible first | exact HB.out | apply below_alloc | apply pw_below_drewN | apply below_drew1 | refine below_set ?_ GE452.out | refine below_set ?_ GE453.out | refine below_set ?_ GE454.out) | exact HB.out)) hb)
                  clear HO445
                  clear HO448
                  clear HO451
                  clear HO457
                  clear HO460
                  clear HO463
                  clear HO466
                  clear HO469
                  clear HO473
                  clear HO476
                  clear HO479
                  clear HO482
                  clear HO485
                  clear HO489
                  clear HO493
                  clear BK452
                  clear BK453
                  clear BK454
                  clear HB
                  have HO445 := n0_
                  have HO448 := n1_
                  have HO451 := n2_
                  have HO457 := n3_
                  have HO460 := n4_
                  have HO463 := n5_
                  have HO466 := n6_
                  have HO469 := n7_
                  have HO473 := n8_
                  have HO476 := n9_
                  have HO479 := n10_
                  have HO482 := n11_
                  have HO485 := n12_
                  have HO489 := n13_
                  have HO493 := n14_
                  have BK452 := n15_
                  have BK453 := n16_
                  have BK454 := n17_
                  have HB := n18_
                  clear n0_ n1_ n2_ n3_ n4_ n5_ n6_ n7_ n8_ n9_ n10_ n11_ n12_ n13_ n14_ n15_ n16_ n17_ n18_
                  (try clear hb)
                  (try clear hb2)
                  (try clear hk)
                  (try clear hi)
                  refine hK.out _ _ ⟨(blk_cell BK452.out 0).trans rfl, (blk_cell BK453.out 0).trans rfl, (blk_cell BK454.out 0).trans rfl⟩ (fun hHeld => ?_)
                  clear hK K
                  refine norm_ (a' := ?_) ?_ ?_
                  rotate_left
                  · show Act.put _ (some 70) _ = _
                    simp only [Act.put, List.setIfInBounds_toArray, List.set_cons_zero, List.set_cons_succ, i64_w, i32_w]
                    rfl
                  refine pure_ (i := 40) (N := some 71) (v := ?_) (a' := ?_) #[true, true, true, true, true, true, true, true, true, true, true, true, true, true, true, true, true, true, true, true, true, true, true, true, true, true, true, true, true, true, true, true, true, true, true, true, true, true, true, true, true, false, false, false, false, false, false, false, false, false, false, false, false, false, false, false, false, false, false, false, false, false, false] rfl rfl (any_of HT_.out (by kernel_rfl)) (fun _ _ _ h => h) (Or.inl ⟨by rfl, ?_⟩) ?_ ?_
                  rotate_left
                  · intro w'
                    go_simp
                    with_reducible rfl
                  rotate_left
                  · simp only [Act.put, List.setIfInBounds_toArray, List.set_cons_zero, List.set_cons_succ, i64_w, i32_w]
                    rfl
                  refine pure_ (i := 41) (N := some 72) (v := ?_) (a' := ?_) #[true, true, true, true, true, true, true, true, true, true, true, true, true, true, true, true, true, true, true, true, true, true, true, true, true, true, true, true, true, true, true, true, true, true, true, true, true, true, true, true, true, true, false, false, false, false, false, false, false, false, false, false, false, false, false, false, false, false, false, false, false, false, false] rfl rfl (any_of HT_.out (by kernel_rfl)) (fun _ _ _ h => h) (Or.inl ⟨by rfl, ?_⟩) ?_ ?_
                  rotate_left
                  · intro w'
                    go_simp
                    with_reducible rfl
                  rotate_left
                  · simp only [Act.put, List.setIfInBounds_toArray, List.set_cons_zero, List.set_cons_succ, i64_w, i32_w]
                    rfl
                  refine pure_ (i := 42) (N := some 73) (v := ?_) (a' := ?_) #[true, true, true, true, true, true, true, true, true, true, true, true, true, true, true, true, true, true, true, true, true, true, true, true, true, true, true, true, true, true, true, true, true, true, true, true, true, true, true, true, true, true, true, false, false, false, false, false, false, false, false, false, false, false, false, false, false, false, false, false, false, false, false] rfl rfl (any_of HT_.out (by kernel_rfl)) (fun _ _ _ h => h) (Or.inl ⟨by rfl, ?_⟩) ?_ ?_
                  rotate_left
                  · intro w'
                    go_simp
                    with_reducible rfl
                  rotate_left
                  · simp only [Act.put, List.setIfInBounds_toArray, List.set_cons_zero, List.set_cons_succ, i64_w, i32_w]
                    rfl
                  refine take_ (i := 43) (N := some 74) (v := ?_) (a' := ?_) #[true, true, true, true, true, true, true, true, true, true, true, true, true, true, true, true, true, true, true, true, true, true, true, true, true, true, true, true, true, true, true, true, true, true, true, true, true, true, true, true, true, true, true, true, false, false, false, false, false, false, false, false, false, false, false, false, false, false, false, false, false, false, false] rfl rfl (take_ofW HT_.out HW_.out (by kernel_rfl)) (fun _ _ _ h => h) (Or.inl ⟨by rfl, ?_⟩) hHeld ?_ ?_
                  rotate_left
                  · rintro w' ⟨s0, s1, s2⟩
                    go_simp
                    with_reducible rfl
                  rotate_left
                  · simp only [Act.put, List.setIfInBounds_toArray, List.set_cons_zero, List.set_cons_succ, i64_w, i32_w]
                    rfl
                  refine take_ (i := 44) (N := some 75) (v := ?_) (a' := ?_) #[true, true, true, true, true, true, true, true, true, true, true, true, true, true, true, true, true, true, true, true, true, true, true, true, true, true, true, true, true, true, true, true, true, true, true, true, true, true, true, true, true, true, true, true, true, false, false, false, false, false, false, false, false, false, false, false, false, false, false, false, false, false, false] rfl rfl (take_ofW HT_.out HW_.out (by kernel_rfl)) (fun _ _ _ h => h) (Or.inl ⟨by rfl, ?_⟩) hHeld ?_ ?_
                  rotate_left
                  · rintro w' ⟨s0, s1, s2⟩
                    go_simp
                    with_reducible rfl
                  rotate_left
                  · simp only [Act.put, List.setIfInBounds_toArray, List.set_cons_zero, List.set_cons_succ, i64_w, i32_w]
                    rfl
                  refine take_ (i := 46) (N := some 77) (v := ?_) (a' := ?_) #[true, true, true, true, true, true, true, true, true, true, true, true, true, true, true, true, true, true, true, true, true, true, true, true, true, true, true, true, true, true, true, true, true, true, true, true, true, true, true, true, true, true, true, true, true, false, true, false, false, false, false, false, false, false, false, false, false, false, false, false, false, false, false] rfl rfl (take_ofW HT_.out HW_.out (by kernel_rfl)) (fun _ _ _ h => h) (Or.inl ⟨by rfl, ?_⟩) hHeld ?_ ?_
                  rotate_left
                  · rintro w' ⟨s0, s1, s2⟩
                    go_simp
                    with_reducible rfl
                  rotate_left
                  · simp only [Act.put, List.setIfInBounds_toArray, List.set_cons_zero, List.set_cons_succ, i64_w, i32_w]
                    rfl
                  refine take_ (i := 47) (N := some 78) (v := ?_) (a' := ?_) #[true, true, true, true, true, true, true, true, true, true, true, true, true, true, true, true, true, true, true, true, true, true, true, true, true, true, true, true, true, true, true, true, true, true, true, true, true, true, true, true, true, true, true, true, true, false, true, true, false, false, false, false, false, false, false, false, false, false, false, false, false, false, false] rfl rfl (take_ofW HT_.out HW_.out (by kernel_rfl)) (fun _ _ _ h => h) (Or.inl ⟨by rfl, ?_⟩) hHeld ?_ ?_
                  rotate_left
                  · rintro w' ⟨s0, s1, s2⟩
                    go_simp
                    with_reducible rfl
                  rotate_left
                  · simp only [Act.put, List.setIfInBounds_toArray, List.set_cons_zero, List.set_cons_succ, i64_w, i32_w]
                    rfl
                  refine one_ (i := 45) (N := some 76) #[true, true, true, true, true, true, true, true, true, true, true, true, true, true, true, true, true, true, true, true, true, true, true, true, true, true, true, true, true, true, true, true, true, true, true, true, true, true, true, true, true, true, true, true, true, true, true, true, false, false, false, false, false, false, false, false, false, false, false, false, false, false, false] rfl rfl (one_of HT_.out (by kernel_rfl)) (by decide) (fun K hK => ?_)
                  refine goes_ Tryd.func35 (by kernel_rfl) rfl #[.agg #[.slice Ao50 t443.length co50], .agg #[.slice Ao54 t446.length co54]] (by rfl) rfl rfl (by (try simp only [List.map_toArray, List.map_cons, List.map_nil]); first | done | rfl | (simp only [List.length_drop, List.length_take]; rfl)) ?_
                  with_reducible refine (bitset_Set_Subset.calls kj5 _ _ t443 _ _ t446 t496 _ ?side1 ?side2 ?side3 ?side4 A37.out).mono ?_
                  (case side1 => repeat (first | exact (Kd.V_reads' HO445.out).2.2 | (with_reducible refine Kd.C_alloc ?_ _) | (with_reducible refine Kd.C_drewN ?_ _) | (with_reducible refine Kd.C_drew ?_)))
                  (case side2 => exact (Kd.V_reads' HO445.out).2.1)
                  (case side3 => repeat (first | exact (Kd.V_reads' HO448.out).2.2 | (with_reducible refine Kd.C_alloc ?_ _) | (with_reducible refine Kd.C_drewN ?_ _) | (with_reducible refine Kd.C_drew ?_)))
                  (case side4 => exact (Kd.V_reads' HO448.out).2.1)
                  rintro e w90 ⟨rfl, hb⟩
                  refine ⟨_, rfl, ?_⟩
                  have n0_ := Aside0.mk (Kd.V_below (by (with_reducible repeat (first | apply Kd.V_alloc | apply Kd.V_drewN | apply Kd.V_drew)); exact HO445.out) hb)
                  have n1_ := Aside0.mk (Kd.V_below (by (with_reducible repeat (first | apply Kd.V_alloc | apply Kd.V_drewN | apply Kd.V_drew)); exact HO448.out) hb)
                  have n2_ := Aside0.mk (Kd.V_below (by (with_reducible repeat (first | apply Kd.V_alloc | apply Kd.V_drewN | apply Kd.V_drew)); exact HO451.out) hb)
                  have n3_ := Aside0.mk (Kd.V_below (by (with_reducible repeat (first | apply Kd.V_alloc | apply Kd.V_drewN | apply Kd.V_drew)); exact HO457.out) hb)
                  have n4_ := Aside0.mk (Kd.V_below (by (with_reducible repeat (first | apply Kd.V_alloc | apply Kd.V_drewN | apply Kd.V_drew)); exact HO460.out) hb)
                  have n5_ := Aside0.mk (Kd.V_below (by (with_reducible repeat (first | apply Kd.V_alloc | apply Kd.V_drewN | apply Kd.V_drew)); exact HO463.out) hb)
                  have n6_ := Aside0.mk (Kd.V_below (by (with_reducible repeat (first | apply Kd.V_alloc | apply Kd.V_drewN | apply Kd.V_drew)); exact HO466.out) hb)
                  have n7_ := Aside0.mk (Kd.V_below (by (with_reducible repeat (first | apply Kd.V_alloc | apply Kd.V_drewN | apply Kd.V_drew)); exact HO469.out) hb)
                  have n8_ := Aside0.mk (Kd.V_below (by (with_reducible repeat (first | apply Kd.V_alloc | apply Kd.V_drewN | apply Kd.V_drew)); exact HO473.out) hb)
                  have n9_ := Aside0.mk (Kd.V_below (by (with_reducible repeat (first | apply Kd.V_alloc | apply Kd.V_drewN | apply Kd.V_drew)); exact HO476.out) hb)
                  have n10_ := Aside0.mk (Kd.V_below (by (with_reducible repeat (first | apply Kd.V_alloc | apply Kd.V_drewN | apply Kd.V_drew)); exact HO479.out) hb)
                  have n11_ := Aside0.mk (Kd.V_below (by (with_reducible repeat (first | apply Kd.V_alloc | apply Kd.V_drewN | apply Kd.V_drew)); exact HO482.out) hb)
                  have n12_ := Aside0.mk (Kd.V_below (by (with_reducible repeat (first | apply Kd.V_alloc | apply Kd.V_drewN | apply Kd.V_drew)); exact HO485.out) hb)
                  have n13_ := Aside0.mk (Kd.V_below (by (with_reducible repeat (first | apply Kd.V_alloc | apply Kd.V_drewN | apply Kd.V_drew)); exact HO489.out) hb)
                  have n14_ := Aside0.mk (Kd.V_below (by (with_reducible repeat (first | apply Kd.V_alloc | apply Kd.V_drewN | apply Kd.V_drew)); exact HO493.out) hb)
                  have n15_ := Aside0.mk (blk_below (g := gb452) (o := .cells #[.slice Ao50 t443.length co50] 27 (0, 0)) (by (with_reducible repeat (first | refine blk_drewN ?_ _ | refine blk_drew ?_ | refine blk_alloc ?_ _)); exact BK452.out) hb)
                  have n16_ := Aside0.mk (blk_below (g := gb453) (o := .cells #[.slice Ao54 t446.length co54] 27 (0, 0)) (by (with_reducible repeat (first | refine blk_drewN ?_ _ | refine blk_drew ?_ | refine blk_alloc ?_ _)); exact BK453.out) hb)
                  have n17_ := Aside0.mk (blk_below (g := gb454) (o := .cells #[.slice Ao57 t449.length co57] 27 (0, 0)) (by (with_reducible repeat (first | refine blk_drewN ?_ _ | refine blk_drew ?_ | refine blk_alloc ?_ _)); exact BK454.out) hb)
                  have n18_ := Aside0.mk (below_step (by repeat (first | (with_reducible first | exact HB.out | apply below_alloc | apply pw_below_drewN | apply below_drew1 | refine below_set ?_ GE452.out | refine below_set ?_ GE453.out | refine below_set ?_ GE454.out) | exact HB.out)) hb)
                  clear HO445
                  clear HO448
                  clear HO451
                  clear HO457
                  clear HO460
                  clear HO463
                  clear HO466
                  clear HO469
                  clear HO473
                  clear HO476
                  clear HO479
                  clear HO482
                  clear HO485
                  clear HO489
                  clear HO493
                  clear BK452
                  clear BK453
                  clear BK454
                  clear HB
                  have HO445 := n0_
                  have HO448 := n1_
                  have HO451 := n2_
                  have HO457 := n3_
                  have HO460 := n4_
                  have HO463 := n5_
                  have HO466 := n6_
                  have HO469 := n7_
                  have HO473 := n8_
                  have HO476 := n9_
                  have HO479 := n10_
                  have HO482 := n11_
                  have HO485 := n12_
                  have HO489 := n13_
                  have HO493 := n14_
                  have BK452 := n15_
                  have BK453 := n16_
                  have BK454 := n17_
                  have HB := n18_
                  clear n0_ n1_ n2_ n3_ n4_ n5_ n6_ n7_ n8_ n9_ n10_ n11_ n12_ n13_ n14_ n15_ n16_ n17_ n18_
                  (try clear hb)
                  (try clear hb2)
                  (try clear hk)
                  (try clear hi)
                  refine hK.out _ _ ⟨(blk_cell BK452.out 0).trans rfl, (blk_cell BK453.out 0).trans rfl, (blk_cell BK454.out 0).trans rfl⟩ (fun hHeld => ?_)
                  clear hK K
                  refine norm_ (a' := ?_) ?_ ?_
                  rotate_left
                  · show Act.put _ (some 76) _ = _
                    simp only [Act.put, List.setIfInBounds_toArray, List.set_cons_zero, List.set_cons_succ, i64_w, i32_w]
                    rfl
                  refine one_ (i := 48) (N := some 79) #[true, true, true, true, true, true, true, true, true, true, true, true, true, true, true, true, true, true, true, true, true, true, true, true, true, true, true, true, true, true, true, true, true, true, true, true, true, true, true, true, true, true, true, true, true, true, true, true, true, false, false, false, false, false, false, false, false, false, false, false, false, false, false] rfl rfl (one_of HT_.out (by kernel_rfl)) (by decide) (fun K hK => ?_)
                  refine goes_ Tryd.func29 (by kernel_rfl) rfl #[.agg #[.slice Ao50 t443.length co50], .agg #[.slice Ao54 t446.length co54]] (by rfl) rfl rfl (by (try simp only [List.map_toArray, List.map_cons, List.map_nil]); first | done | rfl | (simp only [List.length_drop, List.length_take]; rfl)) ?_
                  with_reducible refine (bitset_Set_Minus.calls kj5 _ _ t443 _ _ t446 t497 _ ?side1 ?side2 ?side3 ?side4 A38.out).mono ?_
                  (case side1 => repeat (first | exact (Kd.V_reads' HO445.out).2.2 | (with_reducible refine Kd.C_alloc ?_ _) | (with_reducible refine Kd.C_drewN ?_ _) | (with_reducible refine Kd.C_drew ?_)))
                  (case side2 => exact (Kd.V_reads' HO445.out).2.1)
                  (case side3 => repeat (first | exact (Kd.V_reads' HO448.out).2.2 | (with_reducible refine Kd.C_alloc ?_ _) | (with_reducible refine Kd.C_drewN ?_ _) | (with_reducible refine Kd.C_drew ?_)))
                  (case side4 => exact (Kd.V_reads' HO448.out).2.1)
                  rintro e w91 ⟨v498, rfl, ho0, hb⟩
                  refine ⟨_, rfl, ?_⟩
                  have n0_ := Aside0.mk (Kd.V_below (by (with_reducible repeat (first | apply Kd.V_alloc | apply Kd.V_drewN | apply Kd.V_drew)); exact HO445.out) hb)
                  have n1_ := Aside0.mk (Kd.V_below (by (with_reducible repeat (first | apply Kd.V_alloc | apply Kd.V_drewN | apply Kd.V_drew)); exact HO448.out) hb)
                  have n2_ := Aside0.mk (Kd.V_below (by (with_reducible repeat (first | apply Kd.V_alloc | apply Kd.V_drewN | apply Kd.V_drew)); exact HO451.out) hb)
                  have n3_ := Aside0.mk (Kd.V_below (by (with_reducible repeat (first | apply Kd.V_alloc | apply Kd.V_drewN | apply Kd.V_drew)); exact HO457.out) hb)
                  have n4_ := Aside0.mk (Kd.V_below (by (with_reducible repeat (first | apply Kd.V_alloc | apply Kd.V_drewN | apply Kd.V_drew)); exact HO460.out) hb)
                  have n5_ := Aside0.mk (Kd.V_below (by (with_reducible repeat (first | apply Kd.V_alloc | apply Kd.V_drewN | apply Kd.V_drew)); exact HO463.out) hb)
                  have n6_ := Aside0.mk (Kd.V_below (by (with_reducible repeat (first | apply Kd.V_alloc | apply Kd.V_drewN | apply Kd.V_drew)); exact HO466.out) hb)
                  have n7_ := Aside0.mk (Kd.V_below (by (with_reducible repeat (first | apply Kd.V_alloc | apply Kd.V_drewN | apply Kd.V_drew)); exact HO469.out) hb)
                  have n8_ := Aside0.mk (Kd.V_below (by (with_reducible repeat (first | apply Kd.V_alloc | apply Kd.V_drewN | apply Kd.V_drew)); exact HO473.out) hb)
                  have n9_ := Aside0.mk (Kd.V_below (by (with_reducible repeat (first | apply Kd.V_alloc | apply Kd.V_drewN | apply Kd.V_drew)); exact HO476.out) hb)
                  have n10_ := Aside0.mk (Kd.V_below (by (with_reducible repeat (first | apply Kd.V_alloc | apply Kd.V_drewN | apply Kd.V_drew)); exact HO479.out) hb)
                  have n11_ := Aside0.mk (Kd.V_below (by (with_reducible repeat (first | apply Kd.V_alloc | apply Kd.V_drewN | apply Kd.V_drew)); exact HO482.out) hb)
                  have n12_ := Aside0.mk (Kd.V_below (by (with_reducible repeat (first | apply Kd.V_alloc | apply Kd.V_drewN | apply Kd.V_drew)); exact HO485.out) hb)
                  have n13_ := Aside0.mk (Kd.V_below (by (with_reducible repeat (first | apply Kd.V_alloc | apply Kd.V_drewN | apply Kd.V_drew)); exact HO489.out) hb)
                  have n14_ := Aside0.mk (Kd.V_below (by (with_reducible repeat (first | apply Kd.V_alloc | apply Kd.V_drewN | apply Kd.V_drew)); exact HO493.out) hb)
                  have n15_ := Aside0.mk (Kd.V_lower (Kd.V_mono (ok' := fun k_ => k_ ≠ gb452 ∧ k_ ≠ gb453 ∧ k_ ≠ gb454) ho0 (fun k_ hk_ => ⟨(Kd.freshB (g := gb452) (o := .cells #[.slice Ao50 t443.length co50] 27 (0, 0)) (by (with_reducible repeat (first | refine blk_drewN ?_ _ | refine blk_drew ?_ | refine blk_alloc ?_ _)); exact BK452.out) k_ hk_), (Kd.freshB (g := gb453) (o := .cells #[.slice Ao54 t446.length co54] 27 (0, 0)) (by (with_reducible repeat (first | refine blk_drewN ?_ _ | refine blk_drew ?_ | refine blk_alloc ?_ _)); exact BK453.out) k_ hk_), (Kd.freshB (g := gb454) (o := .cells #[.slice Ao57 t449.length co57] 27 (0, 0)) (by (with_reducible repeat (first | refine blk_drewN ?_ _ | refine blk_drew ?_ | refine blk_alloc ?_ _)); exact BK454.out) k_ hk_)⟩)) (below_size (by repeat (first | (with_reducible first | exact HB.out | apply below_alloc | apply pw_below_drewN | apply below_drew1 | refine below_set ?_ GE452.out | refine below_set ?_ GE453.out | refine below_set ?_ GE454.out) | exact HB.out))))
                  have n16_ := Aside0.mk (blk_below (g := gb452) (o := .cells #[.slice Ao50 t443.length co50] 27 (0, 0)) (by (with_reducible repeat (first | refine blk_drewN ?_ _ | refine blk_drew ?_ | refine blk_alloc ?_ _)); exact BK452.out) hb)
                  have n17_ := Aside0.mk (blk_below (g := gb453) (o := .cells #[.slice Ao54 t446.length co54] 27 (0, 0)) (by (with_reducible repeat (first | refine blk_drewN ?_ _ | refine blk_drew ?_ | refine blk_alloc ?_ _)); exact BK453.out) hb)
                  have n18_ := Aside0.mk (blk_below (g := gb454) (o := .cells #[.slice Ao57 t449.length co57] 27 (0, 0)) (by (with_reducible repeat (first | refine blk_drewN ?_ _ | refine blk_drew ?_ | refine blk_alloc ?_ _)); exact BK454.out) hb)
                  have n19_ := Aside0.mk (below_step (by repeat (first | (with_reducible first | exact HB.out | apply below_alloc | apply pw_below_drewN | apply below_drew1 | refine below_set ?_ GE452.out | refine below_set ?_ GE453.out | refine below_set ?_ GE454.out) | exact HB.out)) hb)
                  clear HO445
                  clear HO448
                  clear HO451
                  clear HO457
                  clear HO460
                  clear HO463
                  clear HO466
                  clear HO469
                  clear HO473
                  clear HO476
                  clear HO479
                  clear HO482
                  clear HO485
                  clear HO489
                  clear HO493
                  clear BK452
                  clear BK453
                  clear BK454
                  clear HB
                  have HO445 := n0_
                  have HO448 := n1_
                  have HO451 := n2_
                  have HO457 := n3_
                  have HO460 := n4_
                  have HO463 := n5_
                  have HO466 := n6_
                  have HO469 := n7_
                  have HO473 := n8_
                  have HO476 := n9_
                  have HO479 := n10_
                  have HO482 := n11_
                  have HO485 := n12_
                  have HO489 := n13_
                  have HO493 := n14_
                  have HO499 := n15_
                  have BK452 := n16_
                  have BK453 := n17_
                  have BK454 := n18_
                  have HB := n19_
                  clear n0_ n1_ n2_ n3_ n4_ n5_ n6_ n7_ n8_ n9_ n10_ n11_ n12_ n13_ n14_ n15_ n16_ n17_ n18_ n19_
                  (try clear hb)
                  (try clear hb2)
                  (try clear hk)
                  (try clear hi)
                  (try clear ho0)
                  obtain ⟨Ao92, co92, eo92⟩ := Kd.V_slice HO499.out
                  (first | subst eo92 | (injection eo92 with f1_ f2_ f3_; have f4_ := f1_.symm; have f5_ := f3_.symm; clear f1_ f2_ f3_; subst f4_; subst f5_))
                  refine hK.out _ _ ⟨(blk_cell BK452.out 0).trans rfl, (blk_cell BK453.out 0).trans rfl, (blk_cell BK454.out 0).trans rfl⟩ (fun hHeld => ?_)
                  clear hK K
                  refine norm_ (a' := ?_) ?_ ?_
                  rotate_left
                  · show Act.put _ (some 79) _ = _
                    simp only [Act.put, List.setIfInBounds_toArray, List.set_cons_zero, List.set_cons_succ, i64_w, i32_w]
                    rfl
                  refine one_ (i := 49) (N := some 80) #[true, true, true, true, true, true, true, true, true, true, true, true, true, true, true, true, true, true, true, true, true, true, true, true, true, true, true, true, true, true, true, true, true, true, true, true, true, true, true, true, true, true, true, true, true, true, true, true, true, true, false, false, false, false, false, false, false, false, false, false, false, false, false] rfl rfl (one_of HT_.out (by kernel_rfl)) (by decide) (fun K hK => ?_)
                  refine goes_ Tryd.func36 (by kernel_rfl) rfl #[.agg #[.slice Ao92 t497.length co92]] (by rfl) rfl rfl (by (try simp only [List.map_toArray, List.map_cons, List.map_nil]); first | done | rfl | (simp only [List.length_drop, List.length_take]; rfl)) ?_
                  with_reducible refine (bitset_Set_Len.calls kj5 _ _ t497 t500 _ ?side1 ?side2 A39.out).mono ?_
                  (case side1 => repeat (first | exact (Kd.V_reads' HO499.out).2.2 | (with_reducible refine Kd.C_alloc ?_ _) | (with_reducible refine Kd.C_drewN ?_ _) | (with_reducible refine Kd.C_drew ?_)))
                  (case side2 => exact (Kd.V_reads' HO499.out).2.1)
                  rintro e w93 ⟨rfl, hb⟩
                  refine ⟨_, rfl, ?_⟩
                  have n0_ := Aside0.mk (Kd.V_below (by (with_reducible repeat (first | apply Kd.V_alloc | apply Kd.V_drewN | apply Kd.V_drew)); exact HO445.out) hb)
                  have n1_ := Aside0.mk (Kd.V_below (by (with_reducible repeat (first | apply Kd.V_alloc | apply Kd.V_drewN | apply Kd.V_drew)); exact HO448.out) hb)
                  have n2_ := Aside0.mk (Kd.V_below (by (with_reducible repeat (first | apply Kd.V_alloc | apply Kd.V_drewN | apply Kd.V_drew)); exact HO451.out) hb)
                  have n3_ := Aside0.mk (Kd.V_below (by (with_reducible repeat (first | apply Kd.V_alloc | apply Kd.V_drewN | apply Kd.V_drew)); exact HO457.out) hb)
                  have n4_ := Aside0.mk (Kd.V_below (by (with_reducible repeat (first | apply Kd.V_alloc | apply Kd.V_drewN | apply Kd.V_drew)); exact HO460.out) hb)
                  have n5_ := Aside0.mk (Kd.V_below (by (with_reducible repeat (first | apply Kd.V_alloc | apply Kd.V_drewN | apply Kd.V_drew)); exact HO463.out) hb)
                  have n6_ := Aside0.mk (Kd.V_below (by (with_reducible repeat (first | apply Kd.V_alloc | apply Kd.V_drewN | apply Kd.V_drew)); exact HO466.out) hb)
                  have n7_ := Aside0.mk (Kd.V_below (by (with_reducible repeat (first | apply Kd.V_alloc | apply Kd.V_drewN | apply Kd.V_drew)); exact HO469.out) hb)
                  have n8_ := Aside0.mk (Kd.V_below (by (with_reducible repeat (first | apply Kd.V_alloc | apply Kd.V_drewN | apply Kd.V_drew)); exact HO473.out) hb)
                  have n9_ := Aside0.mk (Kd.V_below (by (with_reducible repeat (first | apply Kd.V_alloc | apply Kd.V_drewN | apply Kd.V_drew)); exact HO476.out) hb)
                  have n10_ := Aside0.mk (Kd.V_below (by (with_reducible repeat (first | apply Kd.V_alloc | apply Kd.V_drewN | apply Kd.V_drew)); exact HO479.out) hb)
                  have n11_ := Aside0.mk (Kd.V_below (by (with_reducible repeat (first | apply Kd.V_alloc | apply Kd.V_drewN | apply Kd.V_drew)); exact HO482.out) hb)
                  have n12_ := Aside0.mk (Kd.V_below (by (with_reducible repeat (first | apply Kd.V_alloc | apply Kd.V_drewN | apply Kd.V_drew)); exact HO485.out) hb)
                  have n13_ := Aside0.mk (Kd.V_below (by (with_reducible repeat (first | apply Kd.V_alloc | apply Kd.V_drewN | apply Kd.V_drew)); exact HO489.out) hb)
                  have n14_ := Aside0.mk (Kd.V_below (by (with_reducible repeat (first | apply Kd.V_alloc | apply Kd.V_drewN | apply Kd.V_drew)); exact HO493.out) hb)
                  have n15_ := Aside0.mk (Kd.V_below (by (with_reducible repeat (first | apply Kd.V_alloc | apply Kd.V_drewN | apply Kd.V_drew)); exact HO499.out) hb)
                  have n16_ := Aside0.mk (blk_below (g := gb452) (o := .cells #[.slice Ao50 t443.length co50] 27 (0, 0)) (by (with_reducible repeat (first | refine blk_drewN ?_ _ | refine blk_drew ?_ | refine blk_alloc ?_ _)); exact BK452.out) hb)
                  have n17_ := Aside0.mk (blk_below (g := gb453) (o := .cells #[.slice Ao54 t446.length co54] 27 (0, 0)) (by (with_reducible repeat (first | refine blk_drewN ?_ _ | refine blk_drew ?_ | refine blk_alloc ?_ _)); exact BK453.out) hb)
                  have n18_ := Aside0.mk (blk_below (g := gb454) (o := .cells #[.slice Ao57 t449.length co57] 27 (0, 0)) (by (with_reducible repeat (first | refine blk_drewN ?_ _ | refine blk_drew ?_ | refine blk_alloc ?_ _)); exact BK454.out) hb)
                  have n19_ := Aside0.mk (below_step (by repeat (first | (with_reducible first | exact HB.out | apply below_alloc | apply pw_below_drewN | apply below_drew1 | refine below_set ?_ GE452.out | refine below_set ?_ GE453.out | refine below_set ?_ GE454.out) | exact HB.out)) hb)
                  clear HO445
                  clear HO448
                  clear HO451
                  clear HO457
                  clear HO460
                  clear HO463
                  clear HO466
                  clear HO469
                  clear HO473
                  clear HO476
                  clear HO479
                  clear HO482
                  clear HO485
                  clear HO489
                  clear HO493
                  clear HO499
                  clear BK452
                  clear BK453
                  clear BK454
                  clear HB
                  have HO445 := n0_
                  have HO448 := n1_
                  have HO451 := n2_
                  have HO457 := n3_
                  have HO460 := n4_
                  have HO463 := n5_
                  have HO466 := n6_
                  have HO469 := n7_
                  have HO473 := n8_
                  have HO476 := n9_
                  have HO479 := n10_
                  have HO482 := n11_
                  have HO485 := n12_
                  have HO489 := n13_
                  have HO493 := n14_
                  have HO499 := n15_
                  have BK452 := n16_
                  have BK453 := n17_
                  have BK454 := n18_
                  have HB := n19_
                  clear n0_ n1_ n2_ n3_ n4_ n5_ n6_ n7_ n8_ n9_ n10_ n11_ n12_ n13_ n14_ n15_ n16_ n17_ n18_ n19_
                  (try clear hb)
                  (try clear hb2)
                  (try clear hk)
                  (try clear hi)
                  refine hK.out _ _ ⟨(blk_cell BK452.out 0).trans rfl, (blk_cell BK453.out 0).trans rfl, (blk_cell BK454.out 0).trans rfl⟩ (fun hHeld => ?_)
                  clear hK K
                  refine norm_ (a' := ?_) ?_ ?_
                  rotate_left
                  · show Act.put _ (some 80) _ = _
                    simp only [Act.put, List.setIfInBounds_toArray, List.set_cons_zero, List.set_cons_succ, i64_w, i32_w]
                    rfl
                  refine pure_ (i := 50) (N := some 81) (v := ?_) (a' := ?_) #[true, true, true, true, true, true, true, true, true, true, true, true, true, true, true, true, true, true, true, true, true, true, true, true, true, true, true, true, true, true, true, true, true, true, true, true, true, true, true, true, true, true, true, true, true, true, true, true, true, true, true, false, false, false, false, false, false, false, false, false, false, false, false] rfl rfl (any_of HT_.out (by kernel_rfl)) (fun _ _ _ h => h) (Or.inl ⟨by rfl, ?_⟩) ?_ ?_
                  rotate_left
                  · intro w'
                    go_simp
                    with_reducible rfl
                  rotate_left
                  · simp only [Act.put, List.setIfInBounds_toArray, List.set_cons_zero, List.set_cons_succ, i64_w, i32_w]
                    rfl
                  refine pure_ (i := 51) (N := some 82) (v := ?_) (a' := ?_) #[true, true, true, true, true, true, true, true, true, true, true, true, true, true, true, true, true, true, true, true, true, true, true, true, true, true, true, true, true, true, true, true, true, true, true, true, true, true, true, true, true, true, true, true, true, true, true, true, true, true, true, true, false, false, false, false, false, false, false, false, false, false, false] rfl rfl (any_of HT_.out (by kernel_rfl)) (fun _ _ _ h => h) (Or.inl ⟨by rfl, ?_⟩) ?_ ?_
                  rotate_left
                  · intro w'
                    go_simp
                    with_reducible rfl
                  rotate_left
                  · simp only [Act.put, List.setIfInBounds_toArray, List.set_cons_zero, List.set_cons_succ, i64_w, i32_w]
                    rfl
                  refine pure_ (i := 52) (N := some 83) (v := ?_) (a' := ?_) #[true, true, true, true, true, true, true, true, true, true, true, true, true, true, true, true, true, true, true, true, true, true, true, true, true, true, true, true, true, true, true, true, true, true, true, true, true, true, true, true, true, true, true, true, true, true, true, true, true, true, true, true, true, false, false, false, false, false, false, false, false, false, false] rfl rfl (any_of HT_.out (by kernel_rfl)) (fun _ _ _ h => h) (Or.inl ⟨by rfl, ?_⟩) ?_ ?_
                  rotate_left
                  · intro w'
                    go_simp
                    with_reducible rfl
                  rotate_left
                  · simp only [Act.put, List.setIfInBounds_toArray, List.set_cons_zero, List.set_cons_succ, i64_w, i32_w]
                    rfl
                  refine pure_ (i := 53) (N := some 84) (v := ?_) (a' := ?_) #[true, true, true, true, true, true, true, true, true, true, true, true, true, true, true, true, true, true, true, true, true, true, true, true, true, true, true, true, true, true, true, true, true, true, true, true, true, true, true, true, true, true, true, true, true, true, true, true, true, true, true, true, true, true, false, false, false, false, false, false, false, false, false] rfl rfl (any_of HT_.out (by kernel_rfl)) (fun _ _ _ h => h) (Or.inl ⟨by rfl, ?_⟩) ?_ ?_
                  rotate_left
                  · intro w'
                    go_simp
                    with_reducible rfl
                  rotate_left
                  · simp only [Act.put, List.setIfInBounds_toArray, List.set_cons_zero, List.set_cons_succ, i64_w, i32_w]
                    rfl
                  refine take_ (i := 54) (N := some 85) (v := ?_) (a' := ?_) #[true, true, true, true, true, true, true, true, true, true, true, true, true, true, true, true, true, true, true, true, true, true, true, true, true, true, true, true, true, true, true, true, true, true, true, true, true, true, true, true, true, true, true, true, true, true, true, true, true, true, true, true, true, true, true, false, false, false, false, false, false, false, false] rfl rfl (take_ofW HT_.out HW_.out (by kernel_rfl)) (fun _ _ _ h => h) (Or.inl ⟨by rfl, ?_⟩) hHeld ?_ ?_
                  rotate_left
                  · rintro w' ⟨s0, s1, s2⟩
                    go_simp
                    with_reducible rfl
                  rotate_left
                  · simp only [Act.put, List.setIfInBounds_toArray, List.set_cons_zero, List.set_cons_succ, i64_w, i32_w]
                    rfl
                  refine take_ (i := 55) (N := some 86) (v := ?_) (a' := ?_) #[true, true, true, true, true, true, true, true, true, true, true, true, true, true, true, true, true, true, true, true, true, true, true, true, true, true, true, true, true, true, true, true, true, true, true, true, true, true, true, true, true, true, true, true, true, true, true, true, true, true, true, true, true, true, true, true, false, false, false, false, false, false, false] rfl rfl (take_ofW HT_.out HW_.out (by kernel_rfl)) (fun _ _ _ h => h) (Or.inl ⟨by rfl, ?_⟩) hHeld ?_ ?_
                  rotate_left
                  · rintro w' ⟨s0, s1, s2⟩
                    go_simp
                    with_reducible rfl
                  rotate_left
                  · simp only [Act.put, List.setIfInBounds_toArray, List.set_cons_zero, List.set_cons_succ, i64_w, i32_w]
                    rfl
                  refine take_ (i := 57) (N := some 88) (v := ?_) (a' := ?_) #[true, true, true, true, true, true, true, true, true, true, true, true, true, true, true, true, true, true, true, true, true, true, true, true, true, true, true, true, true, true, true, true, true, true, true, true, true, true, true, true, true, true, true, true, true, true, true, true, true, true, true, true, true, true, true, true, false, true, false, false, false, false, false] rfl rfl (take_ofW HT_.out HW_.out (by kernel_rfl)) (fun _ _ _ h => h) (Or.inl ⟨by rfl, ?_⟩) hHeld ?_ ?_
                  rotate_left
                  · rintro w' ⟨s0, s1, s2⟩
                    go_simp
                    with_reducible rfl
                  rotate_left
                  · simp only [Act.put, List.setIfInBounds_toArray, List.set_cons_zero, List.set_cons_succ, i64_w, i32_w]
                    rfl
                  refine take_ (i := 58) (N := some 89) (v := ?_) (a' := ?_) #[true, true, true, true, true, true, true, true, true, true, true, true, true, true, true, true, true, true, true, true, true, true, true, true, true, true, true, true, true, true, true, true, true, true, true, true, true, true, true, true, true, true, true, true, true, true, true, true, true, true, true, true, true, true, true, true, false, true, true, false, false, false, false] rfl rfl (take_ofW HT_.out HW_.out (by kernel_rfl)) (fun _ _ _ h => h) (Or.inl ⟨by rfl, ?_⟩) hHeld ?_ ?_
                  rotate_left
                  · rintro w' ⟨s0, s1, s2⟩
                    go_simp
                    with_reducible rfl
                  rotate_left
                  · simp only [Act.put, List.setIfInBounds_toArray, List.set_cons_zero, List.set_cons_succ, i64_w, i32_w]
                    rfl
                  refine one_ (i := 56) (N := some 87) #[true, true, true, true, true, true, true, true, true, true, true, true, true, true, true, true, true, true, true, true, true, true, true, true, true, true, true, true, true, true, true, true, true, true, true, true, true, true, true, true, true, true, true, true, true, true, true, true, true, true, true, true, true, true, true, true, true, true, true, false, false, false, false] rfl rfl (one_of HT_.out (by kernel_rfl)) (by decide) (fun K hK => ?_)
                  refine goes_ Tryd.func25 (by kernel_rfl) rfl #[.agg #[.slice Ao50 t443.length co50], .agg #[.slice Ao54 t446.length co54]] (by rfl) rfl rfl (by (try simp only [List.map_toArray, List.map_cons, List.map_nil]); first | done | rfl | (simp only [List.length_drop, List.length_take]; rfl)) ?_
                  with_reducible refine (bitset_Set_Union.calls kj5 _ _ t443 _ _ t446 t501 _ ?side1 ?side2 ?side3 ?side4 A41.out).mono ?_
                  (case side1 => repeat (first | exact (Kd.V_reads' HO445.out).2.2 | (with_reducible refine Kd.C_alloc ?_ _) | (with_reducible refine Kd.C_drewN ?_ _) | (with_reducible refine Kd.C_drew ?_)))
                  (case side2 => exact (Kd.V_reads' HO445.out).2.1)
                  (case side3 => repeat (first | exact (Kd.V_reads' HO448.out).2.2 | (with_reducible refine Kd.C_alloc ?_ _) | (with_reducible refine Kd.C_drewN ?_ _) | (with_reducible refine Kd.C_drew ?_)))
                  (case side4 => exact (Kd.V_reads' HO448.out).2.1)
                  rintro e w94 ⟨v502, rfl, ho0, hb⟩
                  refine ⟨_, rfl, ?_⟩
                  have n0_ := Aside0.mk (Kd.V_below (by (with_reducible repeat (first | apply Kd.V_alloc | apply Kd.V_drewN | apply Kd.V_drew)); exact HO445.out) hb)
                  have n1_ := Aside0.mk (Kd.V_below (by (with_reducible repeat (first | apply Kd.V_alloc | apply Kd.V_drewN | apply Kd.V_drew)); exact HO448.out) hb)
                  have n2_ := Aside0.mk (Kd.V_below (by (with_reducible repeat (first | apply Kd.V_alloc | apply Kd.V_drewN | apply Kd.V_drew)); exact HO451.out) hb)
                  have n3_ := Aside0.mk (Kd.V_below (by (with_reducible repeat (first | apply Kd.V_alloc | apply Kd.V_drewN | apply Kd.V_drew)); exact HO457.out) hb)
                  have n4_ := Aside0.mk (Kd.V_below (by (with_reducible repeat (first | apply Kd.V_alloc | apply Kd.V_drewN | apply Kd.V_drew)); exact HO460.out) hb)
                  have n5_ := Aside0.mk (Kd.V_below (by (with_reducible repeat (first | apply Kd.V_alloc | apply Kd.V_drewN | apply Kd.V_drew)); exact HO463.out) hb)
                  have n6_ := Aside0.mk (Kd.V_below (by (with_reducible repeat (first | apply Kd.V_alloc | apply Kd.V_drewN | apply Kd.V_drew)); exact HO466.out) hb)
                  have n7_ := Aside0.mk (Kd.V_below (by (with_reducible repeat (first | apply Kd.V_alloc | apply Kd.V_drewN | apply Kd.V_drew)); exact HO469.out) hb)
                  have n8_ := Aside0.mk (Kd.V_below (by (with_reducible repeat (first | apply Kd.V_alloc | apply Kd.V_drewN | apply Kd.V_drew)); exact HO473.out) hb)
                  have n9_ := Aside0.mk (Kd.V_below (by (with_reducible repeat (first | apply Kd.V_alloc | apply Kd.V_drewN | apply Kd.V_drew)); exact HO476.out) hb)
                  have n10_ := Aside0.mk (Kd.V_below (by (with_reducible repeat (first | apply Kd.V_alloc | apply Kd.V_drewN | apply Kd.V_drew)); exact HO479.out) hb)
                  have n11_ := Aside0.mk (Kd.V_below (by (with_reducible repeat (first | apply Kd.V_alloc | apply Kd.V_drewN | apply Kd.V_drew)); exact HO482.out) hb)
                  have n12_ := Aside0.mk (Kd.V_below (by (with_reducible repeat (first | apply Kd.V_alloc | apply Kd.V_drewN | apply Kd.V_drew)); exact HO485.out) hb)
                  have n13_ := Aside0.mk (Kd.V_below (by (with_reducible repeat (first | apply Kd.V_alloc | apply Kd.V_drewN | apply Kd.V_drew)); exact HO489.out) hb)
                  have n14_ := Aside0.mk (Kd.V_below (by (with_reducible repeat (first | apply Kd.V_alloc | apply Kd.V_drewN | apply Kd.V_drew)); exact HO493.out) hb)
                  have n15_ := Aside0.mk (Kd.V_below (by (with_reducible repeat (first | apply Kd.V_alloc | apply Kd.V_drewN | apply Kd.V_drew)); exact HO499.out) hb)
                  have n16_ := Aside0.mk (Kd.V_lower (Kd.V_mono (ok' := fun k_ => k_ ≠ gb452 ∧ k_ ≠ gb453 ∧ k_ ≠ gb454) ho0 (fun k_ hk_ => ⟨(Kd.freshB (g := gb452) (o := .cells #[.slice Ao50 t443.length co50] 27 (0, 0)) (by (with_reducible repeat (first | refine blk_drewN ?_ _ | refine blk_drew ?_ | refine blk_alloc ?_ _)); exact BK452.out) k_ hk_), (Kd.freshB (g := gb453) (o := .cells #[.slice Ao54 t446.length co54] 27 (0, 0)) (by (with_reducible repeat (first | refine blk_drewN ?_ _ | refine blk_drew ?_ | refine blk_alloc ?_ _)); exact BK453.out) k_ hk_), (Kd.freshB (g := gb454) (o := .cells #[.slice Ao57 t449.length co57] 27 (0, 0)) (by (with_reducible repeat (first | refine blk_drewN ?_ _ | refine blk_drew ?_ | refine blk_alloc ?_ _)); exact BK454.out) k_ hk_)⟩)) (below_size (by repeat (first | (with_reducible first | exact HB.out | apply below_alloc | apply pw_below_drewN | apply below_drew1 | refine below_set ?_ GE452.out | refine below_set ?_ GE453.out | refine below_set ?_ GE454.out) | exact HB.out))))
                  have n17_ := Aside0.mk (blk_below (g := gb452) (o := .cells #[.slice Ao50 t443.length co50] 27 (0, 0)) (by (with_reducible repeat (first | refine blk_drewN ?_ _ | refine blk_drew ?_ | refine blk_alloc ?_ _)); exact BK452.out) hb)
                  have n18_ := Aside0.mk (blk_below (g := gb453) (o := .cells #[.slice Ao54 t446.length co54] 27 (0, 0)) (by (with_reducible repeat (first | refine blk_drewN ?_ _ | refine blk_drew ?_ | refine blk_alloc ?_ _)); exact BK453.out) hb)
                  have n19_ := Aside0.mk (blk_below (g := gb454) (o := .cells #[.slice Ao57 t449.length co57] 27 (0, 0)) (by (with_reducible repeat (first | refine blk_drewN ?_ _ | refine blk_drew ?_ | refine blk_alloc ?_ _)); exact BK454.out) hb)
                  have n20_ := Aside0.mk (below_step (by repeat (first | (with_reducible first | exact HB.out | apply below_alloc | apply pw_below_drewN | apply below_drew1 | refine below_set ?_ GE452.out | refine below_set ?_ GE453.out | refine below_set ?_ GE454.out) | exact HB.out)) hb)
                  clear HO445
                  clear HO448
                  clear HO451
                  clear HO457
                  clear HO460
                  clear HO463
                  clear HO466
                  clear HO469
                  clear HO473
                  clear HO476
                  clear HO479
                  clear HO482
                  clear HO485
                  clear HO489
                  clear HO493
                  clear HO499
                  clear BK452
                  clear BK453
                  clear BK454
                  clear HB
                  have HO445 := n0_
                  have HO448 := n1_
                  have HO451 := n2_
                  have HO457 := n3_
                  have HO460 := n4_
                  have HO463 := n5_
                  have HO466 := n6_
                  have HO469 := n7_
                  have HO473 := n8_
                  have HO476 := n9_
                  have HO479 := n10_
                  have HO482 := n11_
                  have HO485 := n12_
                  have HO489 := n13_
                  have HO493 := n14_
                  have HO499 := n15_
                  have HO503 := n16_
                  have BK452 := n17_
                  have BK453 := n18_
                  have BK454 := n19_
                  have HB := n20_
                  clear n0_ n1_ n2_ n3_ n4_ n5_ n6_ n7_ n8_ n9_ n10_ n11_ n12_ n13_ n14_ n15_ n16_ n17_ n18_ n19_ n20_
                  (try clear hb)
                  (try clear hb2)
                  (try clear hk)
                  (try clear hi)
                  (try clear ho0)
                  refine hK.out _ _ ⟨(blk_cell BK452.out 0).trans rfl, (blk_cell BK453.out 0).trans rfl, (blk_cell BK454.out 0).trans rfl⟩ (fun hHeld => ?_)
                  clear hK K
                  refine norm_ (a' := ?_) ?_ ?_
                  rotate_left
                  · show Act.put _ (some 87) _ = _
                    simp only [Act.put, List.setIfInBounds_toArray, List.set_cons_zero, List.set_cons_succ, i64_w, i32_w]
                    rfl
                  refine one_ (i := 59) (N := some 90) #[true, true, true, true, true, true, true, true, true, true, true, true, true, true, true, true, true, true, true, true, true, true, true, true, true, true, true, true, true, true, true, true, true, true, true, true, true, true, true, true, true, true, true, true, true, true, true, true, true, true, true, true, true, true, true, true, true, true, true, true, false, false, false] rfl rfl (one_of HT_.out (by kernel_rfl)) (by decide) (fun K hK => ?_)
                  refine goes_ Tryd.func25 (by kernel_rfl) rfl #[.agg #[.slice Ao54 t446.length co54], .agg #[.slice Ao50 t443.length co50]] (by rfl) rfl rfl (by (try simp only [List.map_toArray, List.map_cons, List.map_nil]); first | done | rfl | (simp only [List.length_drop, List.length_take]; rfl)) ?_
                  with_reducible refine (bitset_Set_Union.calls kj5 _ _ t446 _ _ t443 t504 _ ?side1 ?side2 ?side3 ?side4 A42.out).mono ?_
                  (case side1 => repeat (first | exact (Kd.V_reads' HO448.out).2.2 | (with_reducible refine Kd.C_alloc ?_ _) | (with_reducible refine Kd.C_drewN ?_ _) | (with_reducible refine Kd.C_drew ?_)))
                  (case side2 => exact (Kd.V_reads' HO448.out).2.1)
                  (case side3 => repeat (first | exact (Kd.V_reads' HO445.out).2.2 | (with_reducible refine Kd.C_alloc ?_ _) | (with_reducible refine Kd.C_drewN ?_ _) | (with_reducible refine Kd.C_drew ?_)))
                  (case side4 => exact (Kd.V_reads' HO445.out).2.1)
                  rintro e w95 ⟨v505, rfl, ho0, hb⟩
                  refine ⟨_, rfl, ?_⟩
                  have n0_ := Aside0.mk (Kd.V_below (by (with_reducible repeat (first | apply Kd.V_alloc | apply Kd.V_drewN | apply Kd.V_drew)); exact HO445.out) hb)
                  have n1_ := Aside0.mk (Kd.V_below (by (with_reducible repeat (first | apply Kd.V_alloc | apply Kd.V_drewN | apply Kd.V_drew)); exact HO448.out) hb)
                  have n2_ := Aside0.mk (Kd.V_below (by (with_reducible repeat (first | apply Kd.V_alloc | apply Kd.V_drewN | apply Kd.V_drew)); exact HO451.out) hb)
                  have n3_ := Aside0.mk (Kd.V_below (by (with_reducible repeat (first | apply Kd.V_alloc | apply Kd.V_drewN | apply Kd.V_drew)); exact HO457.out) hb)
                  have n4_ := Aside0.mk (Kd.V_below (by (with_reducible repeat (first | apply Kd.V_alloc | apply Kd.V_drewN | apply Kd.V_drew)); exact HO460.out) hb)
                  have n5_ := Aside0.mk (Kd.V_below (by (with_reducible repeat (first | apply Kd.V_alloc | apply Kd.V_drewN | apply Kd.V_drew)); exact HO463.out) hb)
                  have n6_ := Aside0.mk (Kd.V_below (by (with_reducible repeat (first | apply Kd.V_alloc | apply Kd.V_drewN | apply Kd.V_drew)); exact HO466.out) hb)
                  have n7_ := Aside0.mk (Kd.V_below (by (with_reducible repeat (first | apply Kd.V_alloc | apply Kd.V_drewN | apply Kd.V_drew)); exact HO469.out) hb)
                  have n8_ := Aside0.mk (Kd.V_below (by (with_reducible repeat (first | apply Kd.V_alloc | apply Kd.V_drewN | apply Kd.V_drew)); exact HO473.out) hb)
                  have n9_ := Aside0.mk (Kd.V_below (by (with_reducible repeat (first | apply Kd.V_alloc | apply Kd.V_drewN | apply Kd.V_drew)); exact HO476.out) hb)
                  have n10_ := Aside0.mk (Kd.V_below (by (with_reducible repeat (first | apply Kd.V_alloc | apply Kd.V_drewN | apply Kd.V_drew)); exact HO479.out) hb)
                  have n11_ := Aside0.mk (Kd.V_below (by (with_reducible repeat (first | apply Kd.V_alloc | apply Kd.V_drewN | apply Kd.V_drew)); exact HO482.out) hb)
                  have n12_ := Aside0.mk (Kd.V_below (by (with_reducible repeat (first | apply Kd.V_alloc | apply Kd.V_drewN | apply Kd.V_drew)); exact HO485.out) hb)
                  have n13_ := Aside0.mk (Kd.V_below (by (with_reducible repeat (first | apply Kd.V_alloc | apply Kd.V_drewN | apply Kd.V_drew)); exact HO489.out) hb)
                  have n14_ := Aside0.mk (Kd.V_below (by (with_reducible repeat (first | apply Kd.V_alloc | apply Kd.V_drewN | apply Kd.V_drew)); exact HO493.out) hb)
                  have n15_ := Aside0.mk (Kd.V_below (by (with_reducible repeat (first | apply Kd.V_alloc | apply Kd.V_drewN | apply Kd.V_drew)); exact HO499.out) hb)
                  have n16_ := Aside0.mk (Kd.V_below (by (with_reducible repeat (first | apply Kd.V_alloc | apply Kd.V_drewN | apply Kd.V_drew)); exact HO503.out) hb)
                  have n17_ := Aside0.mk (Kd.V_lower (Kd.V_mono (ok' := fun k_ => k_ ≠ gb452 ∧ k_ ≠ gb453 ∧ k_ ≠ gb454) ho0 (fun k_ hk_ => ⟨(Kd.freshB (g := gb452) (o := .cells #[.slice Ao50 t443.length co50] 27 (0, 0)) (by (with_reducible repeat (first | refine blk_drewN ?_ _ | refine blk_drew ?_ | refine blk_alloc ?_ _)); exact BK452.out) k_ hk_), (Kd.freshB (g := gb453) (o := .cells #[.slice Ao54 t446.length co54] 27 (0, 0)) (by (with_reducible repeat (first | refine blk_drewN ?_ _ | refine blk_drew ?_ | refine blk_alloc ?_ _)); exact BK453.out) k_ hk_), (Kd.freshB (g := gb454) (o := .cells #[.slice Ao57 t449.length co57] 27 (0, 0)) (by (with_reducible repeat (first | refine blk_drewN ?_ _ | refine blk_drew ?_ | refine blk_alloc ?_ _)); exact BK454.out) k_ hk_)⟩)) (below_size (by repeat (first | (with_reducible first | exact HB.out | apply below_alloc | apply pw_below_drewN | apply below_drew1 | refine below_set ?_ GE452.out | refine below_set ?_ GE453.out | refine below_set ?_ GE454.out) | exact HB.out))))
                  have n18_ := Aside0.mk (blk_below (g := gb452) (o := .cells #[.slice Ao50 t443.length co50] 27 (0, 0)) (by (with_reducible repeat (first | refine blk_drewN ?_ _ | refine blk_drew ?_ | refine blk_alloc ?_ _)); exact BK452.out) hb)
                  have n19_ := Aside0.mk (blk_below (g := gb453) (o := .cells #[.slice Ao54 t446.length co54] 27 (0, 0)) (by (with_reducible repeat (first | refine blk_drewN ?_ _ | refine blk_drew ?_ | refine blk_alloc ?_ _)); exact BK453.out) hb)
                  have n20_ := Aside0.mk (blk_below (g := gb454) (o := .cells #[.slice Ao57 t449.length co57] 27 (0, 0)) (by (with_reducible repeat (first | refine blk_drewN ?_ _ | refine blk_drew ?_ | refine blk_alloc ?_ _)); exact BK454.out) hb)
                  have n21_ := Aside0.mk (below_step (by repeat (first | (with_reducible first | exact HB.out | apply below_alloc | apply pw_below_drewN | apply below_drew1 | refine below_set ?_ GE452.out | refine below_set ?_ GE453.out | refine below_set ?_ GE454.out) | exact HB.out)) hb)
                  clear HO445
                  clear HO448
                  clear HO451
                  clear HO457
                  clear HO460
                  clear HO463
                  clear HO466
                  clear HO469
                  clear HO473
                  clear HO476
                  clear HO479
                  clear HO482
                  clear HO485
                  clear HO489
                  clear HO493
                  clear HO499
                  clear HO503
                  clear BK452
                  clear BK453
                  clear BK454
                  clear HB
                  have HO445 := n0_
                  have HO448 := n1_
                  have HO451 := n2_
                  have HO457 := n3_
                  have HO460 := n4_
                  have HO463 := n5_
                  have HO466 := n6_
                  have HO469 := n7_
                  have HO473 := n8_
                  have HO476 := n9_
                  have HO479 := n10_
                  have HO482 := n11_
                  have HO485 := n12_
                  have HO489 := n13_
                  have HO493 := n14_
                  have HO499 := n15_
                  have HO503 := n16_
                  have HO506 := n17_
                  have BK452 := n18_
                  have BK453 := n19_
                  have BK454 := n20_
                  have HB := n21_
                  clear n0_ n1_ n2_ n3_ n4_ n5_ n6_ n7_ n8_ n9_ n10_ n11_ n12_ n13_ n14_ n15_ n16_ n17_ n18_ n19_ n20_ n21_
                  (try clear hb)
                  (try clear hb2)
                  (try clear hk)
                  (try clear hi)
                  (try clear ho0)
                  obtain ⟨Ao96, co96, eo96⟩ := Kd.V_slice HO503.out
                  (first | subst eo96 | (injection eo96 with f1_ f2_ f3_; have f4_ := f1_.symm; have f5_ := f3_.symm; clear f1_ f2_ f3_; subst f4_; subst f5_))
                  obtain ⟨Ao97, co97, eo97⟩ := Kd.V_slice HO506.out
                  (first | subst eo97 | (injection eo97 with f1_ f2_ f3_; have f4_ := f1_.symm; have f5_ := f3_.symm; clear f1_ f2_ f3_; subst f4_; subst f5_))
                  refine hK.out _ _ ⟨(blk_cell BK452.out 0).trans rfl, (blk_cell BK453.out 0).trans rfl, (blk_cell BK454.out 0).trans rfl⟩ (fun hHeld => ?_)
                  clear hK K
                  refine norm_ (a' := ?_) ?_ ?_
                  rotate_left
                  · show Act.put _ (some 90) _ = _
                    simp only [Act.put, List.setIfInBounds_toArray, List.set_cons_zero, List.set_cons_succ, i64_w, i32_w]
                    rfl
                  refine one_ (i := 60) (N := some 91) #[true, true, true, true, true, true, true, true, true, true, true, true, true, true, true, true, true, true, true, true, true, true, true, true, true, true, true, true, true, true, true, true, true, true, true, true, true, true, true, true, true, true, true, true, true, true, true, true, true, true, true, true, true, true, true, true, true, true, true, true, true, false, false] rfl rfl (one_of HT_.out (by kernel_rfl)) (by decide) (fun K hK => ?_)
                  refine goes_ Tryd.func34 (by kernel_rfl) rfl #[.agg #[.slice Ao96 t501.length co96], .agg #[.slice Ao97 t504.length co97]] (by rfl) rfl rfl (by (try simp only [List.map_toArray, List.map_cons, List.map_nil]); first | done | rfl | (simp only [List.length_drop, List.length_take]; rfl)) ?_
                  with_reducible refine (bitset_Set_Equal.calls kj5 _ _ t501 _ _ t504 t507 _ ?side1 ?side2 ?side3 ?side4 A43.out).mono ?_
                  (case side1 => repeat (first | exact (Kd.V_reads' HO503.out).2.2 | (with_reducible refine Kd.C_alloc ?_ _) | (with_reducible refine Kd.C_drewN ?_ _) | (with_reducible refine Kd.C_drew ?_)))
                  (case side2 => exact (Kd.V_reads' HO503.out).2.1)
                  (case side3 => repeat (first | exact (Kd.V_reads' HO506.out).2.2 | (with_reducible refine Kd.C_alloc ?_ _) | (with_reducible refine Kd.C_drewN ?_ _) | (with_reducible refine Kd.C_drew ?_)))
                  (case side4 => exact (Kd.V_reads' HO506.out).2.1)
                  rintro e w98 ⟨rfl, hb⟩
                  refine ⟨_, rfl, ?_⟩
                  have n0_ := Aside0.mk (Kd.V_below (by (with_reducible repeat (first | apply Kd.V_alloc | apply Kd.V_drewN | apply Kd.V_drew)); exact HO445.out) hb)
                  have n1_ := Aside0.mk (Kd.V_below (by (with_reducible repeat (first | apply Kd.V_alloc | apply Kd.V_drewN | apply Kd.V_drew)); exact HO448.out) hb)
                  have n2_ := Aside0.mk (Kd.V_below (by (with_reducible repeat (first | apply Kd.V_alloc | apply Kd.V_drewN | apply Kd.V_drew)); exact HO451.out) hb)
                  have n3_ := Aside0.mk (Kd.V_below (by (with_reducible repeat (first | apply Kd.V_alloc | apply Kd.V_drewN | apply Kd.V_drew)); exact HO457.out) hb)
                  have n4_ := Aside0.mk (Kd.V_below (by (with_reducible repeat (first | apply Kd.V_alloc | apply Kd.V_drewN | apply Kd.V_drew)); exact HO460.out) hb)
                  have n5_ := Aside0.mk (Kd.V_below (by (with_reducible repeat (first | apply Kd.V_alloc | apply Kd.V_drewN | apply Kd.V_drew)); exact HO463.out) hb)
                  have n6_ := Aside0.mk (Kd.V_below (by (with_reducible repeat (first | apply Kd.V_alloc | apply Kd.V_drewN | apply Kd.V_drew)); exact HO466.out) hb)
                  have n7_ := Aside0.mk (Kd.V_below (by (with_reducible repeat (first | apply Kd.V_alloc | apply Kd.V_drewN | apply Kd.V_drew)); exact HO469.out) hb)
                  have n8_ := Aside0.mk (Kd.V_below (by (with_reducible repeat (first | apply Kd.V_alloc | apply Kd.V_drewN | apply Kd.V_drew)); exact HO473.out) hb)
                  have n9_ := Aside0.mk (Kd.V_below (by (with_reducible repeat (first | apply Kd.V_alloc | apply Kd.V_drewN | apply Kd.V_drew)); exact HO476.out) hb)
                  have n10_ := Aside0.mk (Kd.V_below (by (with_reducible repeat (first | apply Kd.V_alloc | apply Kd.V_drewN | apply Kd.V_drew)); exact HO479.out) hb)
                  have n11_ := Aside0.mk (Kd.V_below (by (with_reducible repeat (first | apply Kd.V_alloc | apply Kd.V_drewN | apply Kd.V_drew)); exact HO482.out) hb)
                  have n12_ := Aside0.mk (Kd.V_below (by (with_reducible repeat (first | apply Kd.V_alloc | apply Kd.V_drewN | apply Kd.V_drew)); exact HO485.out) hb)
                  have n13_ := Aside0.mk (Kd.V_below (by (with_reducible repeat (first | apply Kd.V_alloc | apply Kd.V_drewN | apply Kd.V_drew)); exact HO489.out) hb)
                  have n14_ := Aside0.mk (Kd.V_below (by (with_reducible repeat (first | apply Kd.V_alloc | apply Kd.V_drewN | apply Kd.V_drew)); exact HO493.out) hb)
                  have n15_ := Aside0.mk (Kd.V_below (by (with_reducible repeat (first | apply Kd.V_alloc | apply Kd.V_drewN | apply Kd.V_drew)); exact HO499.out) hb)
                  have n16_ := Aside0.mk (Kd.V_below (by (with_reducible repeat (first | apply Kd.V_alloc | apply Kd.V_drewN | apply Kd.V_drew)); exact HO503.out) hb)
                  have n17_ := Aside0.mk (Kd.V_below (by (with_reducible repeat (first | apply Kd.V_alloc | apply Kd.V_drewN | apply Kd.V_drew)); exact HO506.out) hb)
                  have n18_ := Aside0.mk (blk_below (g := gb452) (o := .cells #[.slice Ao50 t443.length co50] 27 (0, 0)) (by (with_reducible repeat (first | refine blk_drewN ?_ _ | refine blk_drew ?_ | refine blk_alloc ?_ _)); exact BK452.out) hb)
                  have n19_ := Aside0.mk (blk_below (g := gb453) (o := .cells #[.slice Ao54 t446.length co54] 27 (0, 0)) (by (with_reducible repeat (first | refine blk_drewN ?_ _ | refine blk_drew ?_ | refine blk_alloc ?_ _)); exact BK453.out) hb)
                  have n20_ := Aside0.mk (blk_below (g := gb454) (o := .cells #[.slice Ao57 t449.length co57] 27 (0, 0)) (by (with_reducible repeat (first | refine blk_drewN ?_ _ | refine blk_drew ?_ | refine blk_alloc ?_ _)); exact BK454.out) hb)
                  have n21_ := Aside0.mk (below_step (by repeat (first | (with_reducible first | exact HB.out | apply below_alloc | apply pw_below_drewN | apply below_drew1 | refine below_set ?_ GE452.out | refine below_set ?_ GE453.out | refine below_set ?_ GE454.out) | exact HB.out)) hb)
                  clear HO445
                  clear HO448
                  clear HO451
                  clear HO457
                  clear HO460
                  clear HO463
                  clear HO466
                  clear HO469
                  clear HO473
                  clear HO476
                  clear HO479
                  clear HO482
                  clear HO485
                  clear HO489
                  clear HO493
                  clear HO499
                  clear HO503
                  clear HO506
                  clear BK452
                  clear BK453
                  clear BK454
                  clear HB
                  have HO445 := n0_
                  have HO448 := n1_
                  have HO451 := n2_
                  have HO457 := n3_
                  have HO460 := n4_
                  have HO463 := n5_
                  have HO466 := n6_
                  have HO469 := n7_
                  have HO473 := n8_
                  have HO476 := n9_
                  have HO479 := n10_
                  have HO482 := n11_
                  have HO485 := n12_
                  have HO489 := n13_
                  have HO493 := n14_
                  have HO499 := n15_
                  have HO503 := n16_
                  have HO506 := n17_
                  have BK452 := n18_
                  have BK453 := n19_
                  have BK454 := n20_
                  have HB := n21_
                  clear n0_ n1_ n2_ n3_ n4_ n5_ n6_ n7_ n8_ n9_ n10_ n11_ n12_ n13_ n14_ n15_ n16_ n17_ n18_ n19_ n20_ n21_
                  (try clear hb)
                  (try clear hb2)
                  (try clear hk)
                  (try clear hi)
                  refine hK.out _ _ ⟨(blk_cell BK452.out 0).trans rfl, (blk_cell BK453.out 0).trans rfl, (blk_cell BK454.out 0).trans rfl⟩ (fun hHeld => ?_)
                  clear hK K
                  refine norm_ (a' := ?_) ?_ ?_
                  rotate_left
                  · show Act.put _ (some 91) _ = _
                    simp only [Act.put, List.setIfInBounds_toArray, List.set_cons_zero, List.set_cons_succ, i64_w, i32_w]
                    rfl
                  refine pure_ (i := 61) (N := some 92) (v := ?_) (a' := ?_) #[true, true, true, true, true, true, true, true, true, true, true, true, true, true, true, true, true, true, true, true, true, true, true, true, true, true, true, true, true, true, true, true, true, true, true, true, true, true, true, true, true, true, true, true, true, true, true, true, true, true, true, true, true, true, true, true, true, true, true, true, true, true, false] rfl rfl (any_of HT_.out (by kernel_rfl)) (fun _ _ _ h => h) (Or.inl ⟨by rfl, ?_⟩) ?_ ?_
                  rotate_left
                  · intro w'
                    go_simp
                    with_reducible rfl
                  rotate_left
                  · simp only [Act.put, List.setIfInBounds_toArray, List.set_cons_zero, List.set_cons_succ, i64_w, i32_w]
                    rfl
                  refine pure_ (i := 62) (N := some 6) (v := ?_) (a' := ?_) #[true, true, true, true, true, true, true, true, true, true, true, true, true, true, true, true, true, true, true, true, true, true, true, true, true, true, true, true, true, true, true, true, true, true, true, true, true, true, true, true, true, true, true, true, true, true, true, true, true, true, true, true, true, true, true, true, true, true, true, true, true, true, true] rfl rfl (any_of HT_.out (by kernel_rfl)) (fun _ _ _ h => h) (Or.inl ⟨by rfl, ?_⟩) ?_ ?_
                  rotate_left
                  · intro w'
                    go_simp
                    with_reducible rfl
                  rotate_left
                  · simp only [Act.put, List.setIfInBounds_toArray, List.set_cons_zero, List.set_cons_succ, i64_w, i32_w]
                    rfl
                  refine done_ (done_of HT_.out (by kernel_rfl)) ?_
                  try go_wp2
                  go_ret
                  exact ⟨by first | rfl | (simp [errW_none, errW_some] <;> rfl) | (simp [*, errW_none, errW_some] <;> rfl), by repeat (first | (with_reducible first | exact HB.out | apply below_alloc | apply pw_below_drewN | apply below_drew1 | refine below_set ?_ GE452.out | refine below_set ?_ GE453.out | refine below_set ?_ GE454.out) | exact HB.out)⟩
                · rw [if_neg c40] at H
                  have c40b0 : (t496 == (t500 == 0)) = false := by simpa using c40
                  (try (have c40b1 : decide (t496 = (t500 == 0)) = false := by simpa using c40))
                  (try (have c40b2 : (t496 == (t500 == 0)) = false := by simpa using c40))
                  (try (have c40b3 : ¬ (t496 = (t500 == 0)) := by simpa using c40))
                  clear c40
                  exact absurd ((Option.some.inj H).trans HRT.out) (by decide)
              · rw [if_neg c36] at H
                have c36b0 : ((wrap64 (t490 + t494)) == t495) = false := beq_eq_false_iff_ne.mpr c36
                have c36b1 : ((wrap64 (t490 + t494)) != t495) = true := bne_iff_ne.mpr c36
                exact absurd ((Option.some.inj H).trans HRT.out) (by decide)
            · replace c30 := Bool.eq_false_iff.mpr c30
              subst c30
              have H1 : (some false) = some r := by rw [if_neg (show ¬ (false = true) by decide)] at H; exact H
              cases (Option.some.inj H1).trans HRT.out
          · replace c23 := Bool.eq_false_iff.mpr c23
            subst c23
            have H1 : (some false) = some r := by rw [if_neg (show ¬ (false = true) by decide)] at H; exact H
            cases (Option.some.inj H1).trans HRT.out
  · replace c5 := Bool.eq_false_iff.mpr c5
    subst c5
    have H1 : (some false) = some r := by rw [if_neg (show ¬ (false = true) by decide)] at H; exact H
    cases (Option.some.inj H1).trans HRT.out
end Go.Proofs.YtoobapkccogdhaaDoor.PX
