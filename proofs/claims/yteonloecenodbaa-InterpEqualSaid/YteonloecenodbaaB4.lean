/- Parts of the proof, merged in build order: PXx7, MEval, MFind, MName, MStep, MRead, MEv, MPut, MAsg. -/
import Derived.Test.YteonloecenodbaaB1
import Derived.Test.YteonloecenodbaaB2
import Derived.Test.YteonloecenodbaaB3
import Derived.Shelf.RegionOpen
import Derived.WalkKit
import Derived.OwnWalkIn
import Derived.Deep.RegionHeld3
import Derived.Test.YteonloecenodbaaB0
-- Written by a program of this session (wip/xprint.py, over the kit's print tool). Lean checks it.
namespace Go.Proofs.Yteonloecenodbaa.PX
open Go.RowKit Go.Proofs.YteonloecenodbaaW.PrintWords Go.Proofs.YteonloecenodbaaW.PrintLast Go.Proofs.YteonloecenodbaaW.PrintMore
attribute [local go_sem] max2_int min2_int max_two min_two max_three min_three max_four min_four   -- for this text's walks alone
set_option linter.unusedVariables false
set_option linter.unusedSimpArgs false

-- NOT PRINTED: function 99 (check_table)

-- NOT PRINTED: function 74 (check_Lookup)

-- NOT PRINTED: function 50 (interp_consume)

-- NOT PRINTED: function 87 (interp_machine_find)

-- NOT PRINTED: function 62 (interp_machine_name)

/-! ### word_Index: function 88 -/
def word_Index.f (a0 : Int) (a1 : Int) : Option (Int × Int) := if a1 < 1 then (some (0, 1)) else (if a1 = 0 then (none) else (some (Int.tmod (wrap64 (IntKind.u16.wrap (a0))) a1, 0)))
set_option maxHeartbeats 8000000 in
set_option maxRecDepth 100000 in
theorem word_Index.calls (a0 : Int) (a1 : Int) (r1 : Int) (r2 : Int) (w : World) (h : word_Index.f a0 a1 = some (r1, r2)) :
    Calls Try.prog 88 #[.int .i16 a0, .int .i64 a1] w fun e w' => e = .returned (.tuple #[.int .i64 r1, .int .i64 r2]) ∧ Drawn0 w w' := by
  have H : (if a1 < 1 then (some (0, 1)) else (if a1 = 0 then (none) else (some (Int.tmod (wrap64 (IntKind.u16.wrap (a0))) a1, 0)))) = some (r1, r2) := h
  clear h
  by_cases c3 : a1 < 1
  · rw [if_pos c3] at H
    have c3b0 : decide (a1 < 1) = true := decide_eq_true c3
    clear c3
    simp only [Option.some.injEq, Prod.mk.injEq] at H
    obtain ⟨rfl, rfl⟩ := H
    go_enter Try.func88, Try.ntmps88
    go_wp2
    go_ret2
    exact ⟨by first | rfl | (simp; done) | (simp [*]; done), by repeat (first | exact Drawn0.refl _ | apply Drawn0.step)⟩
  · rw [if_neg c3] at H
    have c3b0 : decide (a1 < 1) = false := decide_eq_false c3
    clear c3
    by_cases c4 : a1 = 0
    · rw [if_pos c4] at H
      exact absurd H (by simp)
    · rw [if_neg c4] at H
      have c4b0 : (a1 == 0) = false := beq_eq_false_iff_ne.mpr c4
      have c4b1 : (a1 != 0) = true := bne_iff_ne.mpr c4
      simp only [Option.some.injEq, Prod.mk.injEq] at H
      obtain ⟨rfl, rfl⟩ := H
      go_enter Try.func88, Try.ntmps88
      go_wp2
      go_ret2
      exact ⟨by first | rfl | (simp; done) | (simp [*]; done), by repeat (first | exact Drawn0.refl _ | apply Drawn0.step)⟩

-- NOT PRINTED: function 63 (interp_machine_element)

-- NOT PRINTED: function 64 (interp_machine_read)

/-! ### word_truth: function 89 -/
def word_truth.f (a0 : Bool) : Option (Int) := if a0 = true then (some 1) else (some 0)
set_option maxHeartbeats 8000000 in
set_option maxRecDepth 100000 in
theorem word_truth.calls (a0 : Bool) (r : Int) (w : World) (h : word_truth.f a0 = some r) :
    Calls Try.prog 89 #[.bool a0] w fun e w' => e = .returned (.int .i16 r) ∧ Drawn0 w w' := by
  have H : (if a0 = true then (some 1) else (some 0)) = some r := h
  clear h
  by_cases c2 : a0 = true
  · subst c2
    have H1 : (some 1) = some r := by rw [if_pos rfl] at H; exact H
    clear H
    have H := H1
    clear H1
    obtain rfl := Option.some.inj H
    go_enter Try.func89, Try.ntmps89
    go_wp2
    go_ret
    exact ⟨by first | rfl | (simp; done) | (simp [*]; done), by repeat (first | exact Drawn0.refl _ | apply Drawn0.step)⟩
  · replace c2 := Bool.eq_false_iff.mpr c2
    subst c2
    have H1 : (some 0) = some r := by rw [if_neg (show ¬ (false = true) by decide)] at H; exact H
    clear H
    have H := H1
    clear H1
    obtain rfl := Option.some.inj H
    go_enter Try.func89, Try.ntmps89
    go_wp2
    go_ret
    exact ⟨by first | rfl | (simp; done) | (simp [*]; done), by repeat (first | exact Drawn0.refl _ | apply Drawn0.step)⟩

/-! ### word_Unary: function 65 -/
def word_Unary.f (a0 : Int) (a1 : Int) : Option (Int × Int) := if a0 = 1 then (some (IntKind.i16.wrap (-a1), 0)) else (if a0 = 2 then ((word_truth.f (a1 == 0)).bind fun t162 => (some (t162, 0))) else (some (0, 1)))
set_option maxHeartbeats 8000000 in
set_option maxRecDepth 100000 in
theorem word_Unary.calls (a0 : Int) (a1 : Int) (r1 : Int) (r2 : Int) (w : World) (h : word_Unary.f a0 a1 = some (r1, r2)) :
    Calls Try.prog 65 #[.int .i64 a0, .int .i16 a1] w fun e w' => e = .returned (.tuple #[.int .i16 r1, .int .i64 r2]) ∧ Drawn0 w w' := by
  have H : (if a0 = 1 then (some (IntKind.i16.wrap (-a1), 0)) else (if a0 = 2 then ((word_truth.f (a1 == 0)).bind fun t162 => (some (t162, 0))) else (some (0, 1)))) = some (r1, r2) := h
  clear h
  by_cases c3 : a0 = 1
  · rw [if_pos c3] at H
    have c3b0 : (a0 == 1) = true := beq_iff_eq.mpr c3
    have c3b1 : (a0 != 1) = false := bne_eq_false_iff_eq.mpr c3
    clear c3
    simp only [Option.some.injEq, Prod.mk.injEq] at H
    obtain ⟨rfl, rfl⟩ := H
    go_enter Try.func65, Try.ntmps65
    go_wp2
    go_ret2
    exact ⟨by first | rfl | (simp; done) | (simp [*]; done), by repeat (first | exact Drawn0.refl _ | apply Drawn0.step)⟩
  · rw [if_neg c3] at H
    have c3b0 : (a0 == 1) = false := beq_eq_false_iff_ne.mpr c3
    have c3b1 : (a0 != 1) = true := bne_iff_ne.mpr c3
    by_cases c4 : a0 = 2
    · rw [if_pos c4] at H
      have c4b0 : (a0 == 2) = true := beq_iff_eq.mpr c4
      have c4b1 : (a0 != 2) = false := bne_eq_false_iff_eq.mpr c4
      clear c4
      replace H := Option.bind_eq_some_iff.mp H
      obtain ⟨t162, A50, H⟩ := H
      replace H : (some (t162, 0)) = some (r1, r2) := H
      have A5 := Aside0.mk A50
      clear A50
      simp only [Option.some.injEq, Prod.mk.injEq] at H
      obtain ⟨rfl, rfl⟩ := H
      go_enter Try.func65, Try.ntmps65
      go_wp2_with (first | ((with_reducible refine gate_callee (f := 89) rfl ?_); refine goesL_ (some 15) rfl rfl Try.func89 (by kernel_rfl) rfl #[.bool (a1 == 0)] rfl (by (try simp only [List.map_toArray, List.map_cons, List.map_nil]); first | done | rfl | (simp only [List.length_drop, List.length_take]; rfl)) ?_; (with_reducible refine (word_truth.calls (a1 == 0) t162 _ A5.out).mono ?_); rintro e w' ⟨rfl, ⟨nd, rfl⟩⟩; refine ⟨_, rfl, ?_⟩))
      go_ret2
      exact ⟨by first | rfl | (simp; done) | (simp [*]; done), by repeat (first | exact Drawn0.refl _ | apply Drawn0.step)⟩
    · rw [if_neg c4] at H
      have c4b0 : (a0 == 2) = false := beq_eq_false_iff_ne.mpr c4
      have c4b1 : (a0 != 2) = true := bne_iff_ne.mpr c4
      simp only [Option.some.injEq, Prod.mk.injEq] at H
      obtain ⟨rfl, rfl⟩ := H
      go_enter Try.func65, Try.ntmps65
      go_wp2
      go_ret2
      exact ⟨by first | rfl | (simp; done) | (simp [*]; done), by repeat (first | exact Drawn0.refl _ | apply Drawn0.step)⟩

/-! ### interp_truth: function 66 -/
def interp_truth.f (a0 : Bool) : Option (Int) := if a0 = true then (some 1) else (some 0)
set_option maxHeartbeats 8000000 in
set_option maxRecDepth 100000 in
theorem interp_truth.calls (a0 : Bool) (r : Int) (w : World) (h : interp_truth.f a0 = some r) :
    Calls Try.prog 66 #[.bool a0] w fun e w' => e = .returned (.int .i16 r) ∧ Drawn0 w w' := by
  have H : (if a0 = true then (some 1) else (some 0)) = some r := h
  clear h
  by_cases c2 : a0 = true
  · subst c2
    have H1 : (some 1) = some r := by rw [if_pos rfl] at H; exact H
    clear H
    have H := H1
    clear H1
    obtain rfl := Option.some.inj H
    go_enter Try.func66, Try.ntmps66
    go_wp2
    go_ret
    exact ⟨by first | rfl | (simp; done) | (simp [*]; done), by repeat (first | exact Drawn0.refl _ | apply Drawn0.step)⟩
  · replace c2 := Bool.eq_false_iff.mpr c2
    subst c2
    have H1 : (some 0) = some r := by rw [if_neg (show ¬ (false = true) by decide)] at H; exact H
    clear H
    have H := H1
    clear H1
    obtain rfl := Option.some.inj H
    go_enter Try.func66, Try.ntmps66
    go_wp2
    go_ret
    exact ⟨by first | rfl | (simp; done) | (simp [*]; done), by repeat (first | exact Drawn0.refl _ | apply Drawn0.step)⟩

/-! ### word_Add: function 90 -/
def word_Add.f (a0 : Int) (a1 : Int) : Option (Int) := some (IntKind.i16.wrap (a0 + a1))
set_option maxHeartbeats 8000000 in
set_option maxRecDepth 100000 in
theorem word_Add.calls (a0 : Int) (a1 : Int) (r : Int) (w : World) (h : word_Add.f a0 a1 = some r) :
    Calls Try.prog 90 #[.int .i16 a0, .int .i16 a1] w fun e w' => e = .returned (.int .i16 r) ∧ Drawn0 w w' := by
  have H : (some (IntKind.i16.wrap (a0 + a1))) = some r := h
  clear h
  obtain rfl := Option.some.inj H
  go_enter Try.func90, Try.ntmps90
  go_wp2
  go_ret
  exact ⟨by first | rfl | (simp; done) | (simp [*]; done), by repeat (first | exact Drawn0.refl _ | apply Drawn0.step)⟩

/-! ### word_Sub: function 91 -/
def word_Sub.f (a0 : Int) (a1 : Int) : Option (Int) := some (IntKind.i16.wrap (a0 - a1))
set_option maxHeartbeats 8000000 in
set_option maxRecDepth 100000 in
theorem word_Sub.calls (a0 : Int) (a1 : Int) (r : Int) (w : World) (h : word_Sub.f a0 a1 = some r) :
    Calls Try.prog 91 #[.int .i16 a0, .int .i16 a1] w fun e w' => e = .returned (.int .i16 r) ∧ Drawn0 w w' := by
  have H : (some (IntKind.i16.wrap (a0 - a1))) = some r := h
  clear h
  obtain rfl := Option.some.inj H
  go_enter Try.func91, Try.ntmps91
  go_wp2
  go_ret
  exact ⟨by first | rfl | (simp; done) | (simp [*]; done), by repeat (first | exact Drawn0.refl _ | apply Drawn0.step)⟩

/-! ### word_Mul: function 92 -/
def word_Mul.f (a0 : Int) (a1 : Int) : Option (Int) := some (IntKind.i16.wrap (a0 * a1))
set_option maxHeartbeats 8000000 in
set_option maxRecDepth 100000 in
theorem word_Mul.calls (a0 : Int) (a1 : Int) (r : Int) (w : World) (h : word_Mul.f a0 a1 = some r) :
    Calls Try.prog 92 #[.int .i16 a0, .int .i16 a1] w fun e w' => e = .returned (.int .i16 r) ∧ Drawn0 w w' := by
  have H : (some (IntKind.i16.wrap (a0 * a1))) = some r := h
  clear h
  obtain rfl := Option.some.inj H
  go_enter Try.func92, Try.ntmps92
  go_wp2
  go_ret
  exact ⟨by first | rfl | (simp; done) | (simp [*]; done), by repeat (first | exact Drawn0.refl _ | apply Drawn0.step)⟩

/-! ### word_Div: function 93 -/
def word_Div.f (a0 : Int) (a1 : Int) : Option (Int) := if a1 = 0 then (some 0) else (some (IntKind.i16.wrap (Int.tdiv a0 a1)))
set_option maxHeartbeats 8000000 in
set_option maxRecDepth 100000 in
theorem word_Div.calls (a0 : Int) (a1 : Int) (r : Int) (w : World) (h : word_Div.f a0 a1 = some r) :
    Calls Try.prog 93 #[.int .i16 a0, .int .i16 a1] w fun e w' => e = .returned (.int .i16 r) ∧ Drawn0 w w' := by
  have H : (if a1 = 0 then (some 0) else (some (IntKind.i16.wrap (Int.tdiv a0 a1)))) = some r := h
  clear h
  by_cases c3 : a1 = 0
  · rw [if_pos c3] at H
    have c3b0 : (a1 == 0) = true := beq_iff_eq.mpr c3
    have c3b1 : (a1 != 0) = false := bne_eq_false_iff_eq.mpr c3
    clear c3
    obtain rfl := Option.some.inj H
    go_enter Try.func93, Try.ntmps93
    go_wp2
    go_ret
    exact ⟨by first | rfl | (simp; done) | (simp [*]; done), by repeat (first | exact Drawn0.refl _ | apply Drawn0.step)⟩
  · rw [if_neg c3] at H
    have c3b0 : (a1 == 0) = false := beq_eq_false_iff_ne.mpr c3
    have c3b1 : (a1 != 0) = true := bne_iff_ne.mpr c3
    obtain rfl := Option.some.inj H
    go_enter Try.func93, Try.ntmps93
    go_wp2
    go_ret
    exact ⟨by first | rfl | (simp; done) | (simp [*]; done), by repeat (first | exact Drawn0.refl _ | apply Drawn0.step)⟩

/-! ### word_Mod: function 94 -/
def word_Mod.f (a0 : Int) (a1 : Int) : Option (Int) := if a1 = 0 then (some 0) else (some (Int.tmod a0 a1))
set_option maxHeartbeats 8000000 in
set_option maxRecDepth 100000 in
theorem word_Mod.calls (a0 : Int) (a1 : Int) (r : Int) (w : World) (h : word_Mod.f a0 a1 = some r) :
    Calls Try.prog 94 #[.int .i16 a0, .int .i16 a1] w fun e w' => e = .returned (.int .i16 r) ∧ Drawn0 w w' := by
  have H : (if a1 = 0 then (some 0) else (some (Int.tmod a0 a1))) = some r := h
  clear h
  by_cases c3 : a1 = 0
  · rw [if_pos c3] at H
    have c3b0 : (a1 == 0) = true := beq_iff_eq.mpr c3
    have c3b1 : (a1 != 0) = false := bne_eq_false_iff_eq.mpr c3
    clear c3
    obtain rfl := Option.some.inj H
    go_enter Try.func94, Try.ntmps94
    go_wp2
    go_ret
    exact ⟨by first | rfl | (simp; done) | (simp [*]; done), by repeat (first | exact Drawn0.refl _ | apply Drawn0.step)⟩
  · rw [if_neg c3] at H
    have c3b0 : (a1 == 0) = false := beq_eq_false_iff_ne.mpr c3
    have c3b1 : (a1 != 0) = true := bne_iff_ne.mpr c3
    obtain rfl := Option.some.inj H
    go_enter Try.func94, Try.ntmps94
    go_wp2
    go_ret
    exact ⟨by first | rfl | (simp; done) | (simp [*]; done), by repeat (first | exact Drawn0.refl _ | apply Drawn0.step)⟩

/-! ### word_Binary: function 67 -/
def word_Binary.f (a0 : Int) (a1 : Int) (a2 : Int) : Option (Int × Int) := if a0 = 3 then ((word_Add.f a1 a2).bind fun t163 => (some (t163, 0))) else (if a0 = 4 then ((word_Sub.f a1 a2).bind fun t164 => (some (t164, 0))) else (if a0 = 5 then ((word_Mul.f a1 a2).bind fun t165 => (some (t165, 0))) else (if a0 = 6 then ((word_Div.f a1 a2).bind fun t166 => (some (t166, 0))) else (if a0 = 7 then ((word_Mod.f a1 a2).bind fun t167 => (some (t167, 0))) else (if a0 = 8 then ((word_truth.f (a1 == a2)).bind fun t168 => (some (t168, 0))) else (if a0 = 9 then ((word_truth.f (a1 != a2)).bind fun t169 => (some (t169, 0))) else (if a0 = 10 then ((word_truth.f (decide (a1 < a2))).bind fun t170 => (some (t170, 0))) else (if a0 = 11 then ((word_truth.f (decide (a1 ≤ a2))).bind fun t171 => (some (t171, 0))) else (if a0 = 12 then ((word_truth.f (decide (a1 > a2))).bind fun t172 => (some (t172, 0))) else (if a0 = 13 then ((word_truth.f (decide (a1 ≥ a2))).bind fun t173 => (some (t173, 0))) else (some (0, 1))))))))))))
set_option maxHeartbeats 8000000 in
set_option maxRecDepth 100000 in
theorem word_Binary.calls (a0 : Int) (a1 : Int) (a2 : Int) (r1 : Int) (r2 : Int) (w : World) (h : word_Binary.f a0 a1 a2 = some (r1, r2)) :
    Calls Try.prog 67 #[.int .i64 a0, .int .i16 a1, .int .i16 a2] w fun e w' => e = .returned (.tuple #[.int .i16 r1, .int .i64 r2]) ∧ Drawn0 w w' := by
  have H : (if a0 = 3 then ((word_Add.f a1 a2).bind fun t163 => (some (t163, 0))) else (if a0 = 4 then ((word_Sub.f a1 a2).bind fun t164 => (some (t164, 0))) else (if a0 = 5 then ((word_Mul.f a1 a2).bind fun t165 => (some (t165, 0))) else (if a0 = 6 then ((word_Div.f a1 a2).bind fun t166 => (some (t166, 0))) else (if a0 = 7 then ((word_Mod.f a1 a2).bind fun t167 => (some (t167, 0))) else (if a0 = 8 then ((word_truth.f (a1 == a2)).bind fun t168 => (some (t168, 0))) else (if a0 = 9 then ((word_truth.f (a1 != a2)).bind fun t169 => (some (t169, 0))) else (if a0 = 10 then ((word_truth.f (decide (a1 < a2))).bind fun t170 => (some (t170, 0))) else (if a0 = 11 then ((word_truth.f (decide (a1 ≤ a2))).bind fun t171 => (some (t171, 0))) else (if a0 = 12 then ((word_truth.f (decide (a1 > a2))).bind fun t172 => (some (t172, 0))) else (if a0 = 13 then ((word_truth.f (decide (a1 ≥ a2))).bind fun t173 => (some (t173, 0))) else (some (0, 1))))))))))))) = some (r1, r2) := h
  clear h
  by_cases c4 : a0 = 3
  · rw [if_pos c4] at H
    have c4b0 : (a0 == 3) = true := beq_iff_eq.mpr c4
    have c4b1 : (a0 != 3) = false := bne_eq_false_iff_eq.mpr c4
    clear c4
    replace H := Option.bind_eq_some_iff.mp H
    obtain ⟨t163, A50, H⟩ := H
    replace H : (some (t163, 0)) = some (r1, r2) := H
    have A5 := Aside0.mk A50
    clear A50
    simp only [Option.some.injEq, Prod.mk.injEq] at H
    obtain ⟨rfl, rfl⟩ := H
    go_enter Try.func67, Try.ntmps67
    go_wp2_with (first | ((with_reducible refine gate_callee (f := 90) rfl ?_); refine goesL_ (some 13) rfl rfl Try.func90 (by kernel_rfl) rfl #[.int .i16 a1, .int .i16 a2] rfl (by (try simp only [List.map_toArray, List.map_cons, List.map_nil]); first | done | rfl | (simp only [List.length_drop, List.length_take]; rfl)) ?_; (with_reducible refine (word_Add.calls a1 a2 t163 _ A5.out).mono ?_); rintro e w' ⟨rfl, ⟨nd, rfl⟩⟩; refine ⟨_, rfl, ?_⟩))
    go_ret2
    exact ⟨by first | rfl | (simp; done) | (simp [*]; done), by repeat (first | exact Drawn0.refl _ | apply Drawn0.step)⟩
  · rw [if_neg c4] at H
    have c4b0 : (a0 == 3) = false := beq_eq_false_iff_ne.mpr c4
    have c4b1 : (a0 != 3) = true := bne_iff_ne.mpr c4
    by_cases c6 : a0 = 4
    · rw [if_pos c6] at H
      have c6b0 : (a0 == 4) = true := beq_iff_eq.mpr c6
      have c6b1 : (a0 != 4) = false := bne_eq_false_iff_eq.mpr c6
      clear c6
      replace H := Option.bind_eq_some_iff.mp H
      obtain ⟨t164, A70, H⟩ := H
      replace H : (some (t164, 0)) = some (r1, r2) := H
      have A7 := Aside0.mk A70
      clear A70
      simp only [Option.some.injEq, Prod.mk.injEq] at H
      obtain ⟨rfl, rfl⟩ := H
      go_enter Try.func67, Try.ntmps67
      go_wp2_with (first | ((with_reducible refine gate_callee (f := 91) rfl ?_); refine goesL_ (some 18) rfl rfl Try.func91 (by kernel_rfl) rfl #[.int .i16 a1, .int .i16 a2] rfl (by (try simp only [List.map_toArray, List.map_cons, List.map_nil]); first | done | rfl | (simp only [List.length_drop, List.length_take]; rfl)) ?_; (with_reducible refine (word_Sub.calls a1 a2 t164 _ A7.out).mono ?_); rintro e w' ⟨rfl, ⟨nd, rfl⟩⟩; refine ⟨_, rfl, ?_⟩))
      go_ret2
      exact ⟨by first | rfl | (simp; done) | (simp [*]; done), by repeat (first | exact Drawn0.refl _ | apply Drawn0.step)⟩
    · rw [if_neg c6] at H
      have c6b0 : (a0 == 4) = false := beq_eq_false_iff_ne.mpr c6
      have c6b1 : (a0 != 4) = true := bne_iff_ne.mpr c6
      by_cases c8 : a0 = 5
      · rw [if_pos c8] at H
        have c8b0 : (a0 == 5) = true := beq_iff_eq.mpr c8
        have c8b1 : (a0 != 5) = false := bne_eq_false_iff_eq.mpr c8
        clear c8
        replace H := Option.bind_eq_some_iff.mp H
        obtain ⟨t165, A90, H⟩ := H
        replace H : (some (t165, 0)) = some (r1, r2) := H
        have A9 := Aside0.mk A90
        clear A90
        simp only [Option.some.injEq, Prod.mk.injEq] at H
        obtain ⟨rfl, rfl⟩ := H
        go_enter Try.func67, Try.ntmps67
        go_wp2_with (first | ((with_reducible refine gate_callee (f := 92) rfl ?_); refine goesL_ (some 23) rfl rfl Try.func92 (by kernel_rfl) rfl #[.int .i16 a1, .int .i16 a2] rfl (by (try simp only [List.map_toArray, List.map_cons, List.map_nil]); first | done | rfl | (simp only [List.length_drop, List.length_take]; rfl)) ?_; (with_reducible refine (word_Mul.calls a1 a2 t165 _ A9.out).mono ?_); rintro e w' ⟨rfl, ⟨nd, rfl⟩⟩; refine ⟨_, rfl, ?_⟩))
        go_ret2
        exact ⟨by first | rfl | (simp; done) | (simp [*]; done), by repeat (first | exact Drawn0.refl _ | apply Drawn0.step)⟩
      · rw [if_neg c8] at H
        have c8b0 : (a0 == 5) = false := beq_eq_false_iff_ne.mpr c8
        have c8b1 : (a0 != 5) = true := bne_iff_ne.mpr c8
        by_cases c10 : a0 = 6
        · rw [if_pos c10] at H
          have c10b0 : (a0 == 6) = true := beq_iff_eq.mpr c10
          have c10b1 : (a0 != 6) = false := bne_eq_false_iff_eq.mpr c10
          clear c10
          replace H := Option.bind_eq_some_iff.mp H
          obtain ⟨t166, A110, H⟩ := H
          replace H : (some (t166, 0)) = some (r1, r2) := H
          have A11 := Aside0.mk A110
          clear A110
          simp only [Option.some.injEq, Prod.mk.injEq] at H
          obtain ⟨rfl, rfl⟩ := H
          go_enter Try.func67, Try.ntmps67
          go_wp2_with (first | ((with_reducible refine gate_callee (f := 93) rfl ?_); refine goesL_ (some 28) rfl rfl Try.func93 (by kernel_rfl) rfl #[.int .i16 a1, .int .i16 a2] rfl (by (try simp only [List.map_toArray, List.map_cons, List.map_nil]); first | done | rfl | (simp only [List.length_drop, List.length_take]; rfl)) ?_; (with_reducible refine (word_Div.calls a1 a2 t166 _ A11.out).mono ?_); rintro e w' ⟨rfl, ⟨nd, rfl⟩⟩; refine ⟨_, rfl, ?_⟩))
          go_ret2
          exact ⟨by first | rfl | (simp; done) | (simp [*]; done), by repeat (first | exact Drawn0.refl _ | apply Drawn0.step)⟩
        · rw [if_neg c10] at H
          have c10b0 : (a0 == 6) = false := beq_eq_false_iff_ne.mpr c10
          have c10b1 : (a0 != 6) = true := bne_iff_ne.mpr c10
          by_cases c12 : a0 = 7
          · rw [if_pos c12] at H
            have c12b0 : (a0 == 7) = true := beq_iff_eq.mpr c12
            have c12b1 : (a0 != 7) = false := bne_eq_false_iff_eq.mpr c12
            clear c12
            replace H := Option.bind_eq_some_iff.mp H
            obtain ⟨t167, A130, H⟩ := H
            replace H : (some (t167, 0)) = some (r1, r2) := H
            have A13 := Aside0.mk A130
            clear A130
            simp only [Option.some.injEq, Prod.mk.injEq] at H
            obtain ⟨rfl, rfl⟩ := H
            go_enter Try.func67, Try.ntmps67
            go_wp2_with (first | ((with_reducible refine gate_callee (f := 94) rfl ?_); refine goesL_ (some 33) rfl rfl Try.func94 (by kernel_rfl) rfl #[.int .i16 a1, .int .i16 a2] rfl (by (try simp only [List.map_toArray, List.map_cons, List.map_nil]); first | done | rfl | (simp only [List.length_drop, List.length_take]; rfl)) ?_; (with_reducible refine (word_Mod.calls a1 a2 t167 _ A13.out).mono ?_); rintro e w' ⟨rfl, ⟨nd, rfl⟩⟩; refine ⟨_, rfl, ?_⟩))
            go_ret2
            exact ⟨by first | rfl | (simp; done) | (simp [*]; done), by repeat (first | exact Drawn0.refl _ | apply Drawn0.step)⟩
          · rw [if_neg c12] at H
            have c12b0 : (a0 == 7) = false := beq_eq_false_iff_ne.mpr c12
            have c12b1 : (a0 != 7) = true := bne_iff_ne.mpr c12
            by_cases c14 : a0 = 8
            · rw [if_pos c14] at H
              have c14b0 : (a0 == 8) = true := beq_iff_eq.mpr c14
              have c14b1 : (a0 != 8) = false := bne_eq_false_iff_eq.mpr c14
              clear c14
              replace H := Option.bind_eq_some_iff.mp H
              obtain ⟨t168, A150, H⟩ := H
              replace H : (some (t168, 0)) = some (r1, r2) := H
              have A15 := Aside0.mk A150
              clear A150
              simp only [Option.some.injEq, Prod.mk.injEq] at H
              obtain ⟨rfl, rfl⟩ := H
              go_enter Try.func67, Try.ntmps67
              go_wp2_with (first | ((with_reducible refine gate_callee (f := 89) rfl ?_); refine goesL_ (some 39) rfl rfl Try.func89 (by kernel_rfl) rfl #[.bool (a1 == a2)] rfl (by (try simp only [List.map_toArray, List.map_cons, List.map_nil]); first | done | rfl | (simp only [List.length_drop, List.length_take]; rfl)) ?_; (with_reducible refine (word_truth.calls (a1 == a2) t168 _ A15.out).mono ?_); rintro e w' ⟨rfl, ⟨nd, rfl⟩⟩; refine ⟨_, rfl, ?_⟩))
              go_ret2
              exact ⟨by first | rfl | (simp; done) | (simp [*]; done), by repeat (first | exact Drawn0.refl _ | apply Drawn0.step)⟩
            · rw [if_neg c14] at H
              have c14b0 : (a0 == 8) = false := beq_eq_false_iff_ne.mpr c14
              have c14b1 : (a0 != 8) = true := bne_iff_ne.mpr c14
              by_cases c16 : a0 = 9
              · rw [if_pos c16] at H
                have c16b0 : (a0 == 9) = true := beq_iff_eq.mpr c16
                have c16b1 : (a0 != 9) = false := bne_eq_false_iff_eq.mpr c16
                clear c16
                replace H := Option.bind_eq_some_iff.mp H
                obtain ⟨t169, A170, H⟩ := H
                replace H : (some (t169, 0)) = some (r1, r2) := H
                have A17 := Aside0.mk A170
                clear A170
                simp only [Option.some.injEq, Prod.mk.injEq] at H
                obtain ⟨rfl, rfl⟩ := H
                go_enter Try.func67, Try.ntmps67
                go_wp2_with (first | ((with_reducible refine gate_callee (f := 89) rfl ?_); refine goesL_ (some 45) rfl rfl Try.func89 (by kernel_rfl) rfl #[.bool (a1 != a2)] rfl (by (try simp only [List.map_toArray, List.map_cons, List.map_nil]); first | done | rfl | (simp only [List.length_drop, List.length_take]; rfl)) ?_; (with_reducible refine (word_truth.calls (a1 != a2) t169 _ A17.out).mono ?_); rintro e w' ⟨rfl, ⟨nd, rfl⟩⟩; refine ⟨_, rfl, ?_⟩))
                go_ret2
                exact ⟨by first | rfl | (simp; done) | (simp [*]; done), by repeat (first | exact Drawn0.refl _ | apply Drawn0.step)⟩
              · rw [if_neg c16] at H
                have c16b0 : (a0 == 9) = false := beq_eq_false_iff_ne.mpr c16
                have c16b1 : (a0 != 9) = true := bne_iff_ne.mpr c16
                by_cases c18 : a0 = 10
                · rw [if_pos c18] at H
                  have c18b0 : (a0 == 10) = true := beq_iff_eq.mpr c18
                  have c18b1 : (a0 != 10) = false := bne_eq_false_iff_eq.mpr c18
                  clear c18
                  replace H := Option.bind_eq_some_iff.mp H
                  obtain ⟨t170, A190, H⟩ := H
                  replace H : (some (t170, 0)) = some (r1, r2) := H
                  have A19 := Aside0.mk A190
                  clear A190
                  simp only [Option.some.injEq, Prod.mk.injEq] at H
                  obtain ⟨rfl, rfl⟩ := H
                  go_enter Try.func67, Try.ntmps67
                  go_wp2_with (first | ((with_reducible refine gate_callee (f := 89) rfl ?_); refine goesL_ (some 51) rfl rfl Try.func89 (by kernel_rfl) rfl #[.bool (decide (a1 < a2))] rfl (by (try simp only [List.map_toArray, List.map_cons, List.map_nil]); first | done | rfl | (simp only [List.length_drop, List.length_take]; rfl)) ?_; (with_reducible refine (word_truth.calls (decide (a1 < a2)) t170 _ A19.out).mono ?_); rintro e w' ⟨rfl, ⟨nd, rfl⟩⟩; refine ⟨_, rfl, ?_⟩))
                  go_ret2
                  exact ⟨by first | rfl | (simp; done) | (simp [*]; done), by repeat (first | exact Drawn0.refl _ | apply Drawn0.step)⟩
                · rw [if_neg c18] at H
                  have c18b0 : (a0 == 10) = false := beq_eq_false_iff_ne.mpr c18
                  have c18b1 : (a0 != 10) = true := bne_iff_ne.mpr c18
                  by_cases c20 : a0 = 11
                  · rw [if_pos c20] at H
                    have c20b0 : (a0 == 11) = true := beq_iff_eq.mpr c20
                    have c20b1 : (a0 != 11) = false := bne_eq_false_iff_eq.mpr c20
                    clear c20
                    replace H := Option.bind_eq_some_iff.mp H
                    obtain ⟨t171, A210, H⟩ := H
                    replace H : (some (t171, 0)) = some (r1, r2) := H
                    have A21 := Aside0.mk A210
                    clear A210
                    simp only [Option.some.injEq, Prod.mk.injEq] at H
                    obtain ⟨rfl, rfl⟩ := H
                    go_enter Try.func67, Try.ntmps67
                    go_wp2_with (first | ((with_reducible refine gate_callee (f := 89) rfl ?_); refine goesL_ (some 57) rfl rfl Try.func89 (by kernel_rfl) rfl #[.bool (decide (a1 ≤ a2))] rfl (by (try simp only [List.map_toArray, List.map_cons, List.map_nil]); first | done | rfl | (simp only [List.length_drop, List.length_take]; rfl)) ?_; (with_reducible refine (word_truth.calls (decide (a1 ≤ a2)) t171 _ A21.out).mono ?_); rintro e w' ⟨rfl, ⟨nd, rfl⟩⟩; refine ⟨_, rfl, ?_⟩))
                    go_ret2
                    exact ⟨by first | rfl | (simp; done) | (simp [*]; done), by repeat (first | exact Drawn0.refl _ | apply Drawn0.step)⟩
                  · rw [if_neg c20] at H
                    have c20b0 : (a0 == 11) = false := beq_eq_false_iff_ne.mpr c20
                    have c20b1 : (a0 != 11) = true := bne_iff_ne.mpr c20
                    by_cases c22 : a0 = 12
                    · rw [if_pos c22] at H
                      have c22b0 : (a0 == 12) = true := beq_iff_eq.mpr c22
                      have c22b1 : (a0 != 12) = false := bne_eq_false_iff_eq.mpr c22
                      clear c22
                      replace H := Option.bind_eq_some_iff.mp H
                      obtain ⟨t172, A230, H⟩ := H
                      replace H : (some (t172, 0)) = some (r1, r2) := H
                      have A23 := Aside0.mk A230
                      clear A230
                      simp only [Option.some.injEq, Prod.mk.injEq] at H
                      obtain ⟨rfl, rfl⟩ := H
                      go_enter Try.func67, Try.ntmps67
                      go_wp2_with (first | ((with_reducible refine gate_callee (f := 89) rfl ?_); refine goesL_ (some 63) rfl rfl Try.func89 (by kernel_rfl) rfl #[.bool (decide (a1 > a2))] rfl (by (try simp only [List.map_toArray, List.map_cons, List.map_nil]); first | done | rfl | (simp only [List.length_drop, List.length_take]; rfl)) ?_; (with_reducible refine (word_truth.calls (decide (a1 > a2)) t172 _ A23.out).mono ?_); rintro e w' ⟨rfl, ⟨nd, rfl⟩⟩; refine ⟨_, rfl, ?_⟩))
                      go_ret2
                      exact ⟨by first | rfl | (simp; done) | (simp [*]; done), by repeat (first | exact Drawn0.refl _ | apply Drawn0.step)⟩
                    · rw [if_neg c22] at H
                      have c22b0 : (a0 == 12) = false := beq_eq_false_iff_ne.mpr c22
                      have c22b1 : (a0 != 12) = true := bne_iff_ne.mpr c22
                      by_cases c24 : a0 = 13
                      · rw [if_pos c24] at H
                        have c24b0 : (a0 == 13) = true := beq_iff_eq.mpr c24
                        have c24b1 : (a0 != 13) = false := bne_eq_false_iff_eq.mpr c24
                        clear c24
                        replace H := Option.bind_eq_some_iff.mp H
                        obtain ⟨t173, A250, H⟩ := H
                        replace H : (some (t173, 0)) = some (r1, r2) := H
                        have A25 := Aside0.mk A250
                        clear A250
                        simp only [Option.some.injEq, Prod.mk.injEq] at H
                        obtain ⟨rfl, rfl⟩ := H
                        go_enter Try.func67, Try.ntmps67
                        go_wp2_with (first | ((with_reducible refine gate_callee (f := 89) rfl ?_); refine goesL_ (some 69) rfl rfl Try.func89 (by kernel_rfl) rfl #[.bool (decide (a1 ≥ a2))] rfl (by (try simp only [List.map_toArray, List.map_cons, List.map_nil]); first | done | rfl | (simp only [List.length_drop, List.length_take]; rfl)) ?_; (with_reducible refine (word_truth.calls (decide (a1 ≥ a2)) t173 _ A25.out).mono ?_); rintro e w' ⟨rfl, ⟨nd, rfl⟩⟩; refine ⟨_, rfl, ?_⟩))
                        go_ret2
                        exact ⟨by first | rfl | (simp; done) | (simp [*]; done), by repeat (first | exact Drawn0.refl _ | apply Drawn0.step)⟩
                      · rw [if_neg c24] at H
                        have c24b0 : (a0 == 13) = false := beq_eq_false_iff_ne.mpr c24
                        have c24b1 : (a0 != 13) = true := bne_iff_ne.mpr c24
                        simp only [Option.some.injEq, Prod.mk.injEq] at H
                        obtain ⟨rfl, rfl⟩ := H
                        go_enter Try.func67, Try.ntmps67
                        go_wp2
                        go_ret2
                        exact ⟨by first | rfl | (simp; done) | (simp [*]; done), by repeat (first | exact Drawn0.refl _ | apply Drawn0.step)⟩

-- NOT PRINTED: function 43 (interp_machine_eval)

-- NOT PRINTED: function 100 (interp_machine_assign)

-- NOT PRINTED: function 101 (interp_machine_while)

-- NOT PRINTED: function 102 (interp_machine_send)

-- NOT PRINTED: function 76 (interp_machine_exec)

-- NOT PRINTED: function 51 (interp_machine_block)

-- NOT PRINTED: function 34 (interp_Run)

-- NOT PRINTED: function 11 (tricklelaw19_wakes)

/-! ### trickleref16_Stmts: function 77 -/
end Go.Proofs.Yteonloecenodbaa.PX
/- What the interpreters compute: one function for both. -/
namespace Go.Proofs.Yteonloecenodbaa.PX
open Go.RowKit Go.Proofs.YteonloecenodbaaW.PrintWords Go.Proofs.YteonloecenodbaaW.PrintMore
set_option linter.unusedVariables false
/-- The program, its declarations, the readings. -/
structure Env where
  l0 : List S144
  l1 : List S85
  l2 : List ByteArray
  l3 : List ByteArray
  l4 : List S131
  l5 : List S61
  ds : List S164
  rd : List Int
def lim : Nat := 100000000
def zL : ByteArray × Int := (⟨#[]⟩, 0)
def findIx (ls : List (ByteArray × Int)) (s : ByteArray) : Nat → Option Nat
  | 0 => none
  | k + 1 => if (ls.getD k zL).1 = s then some k else findIx ls s k
def lookE (E : Env) (s : ByteArray) : Option (Int × Int × Bool) := if s.size ≤ maxLen then some (lookR E.ds s) else none
def nameE (E : Env) (M : St) (s : ByteArray) : Option Int :=
  match findIx M.locals s M.locals.length with
  | some i => some (M.locals.getD i zL).2
  | none => (lookE E s).bind fun r =>
    if r.1 = 1 then (if 0 ≤ r.2.1 ∧ r.2.1 < (E.l0.length : Int) then some (E.l0.getD r.2.1.toNat z144).f1 else none)
    else if r.1 = 2 then (if 0 ≤ r.2.1 ∧ r.2.1 < (M.globals.length : Int) ∧ 0 < (M.globals.getD r.2.1.toNat []).length then some ((M.globals.getD r.2.1.toNat []).getD 0 0) else none)
    else some 0
/-- The place of an element: its variable and its index. -/
def elemE (E : Env) (M : St) (s : ByteArray) (n : Int) : Option (Nat × Nat) :=
  (lookE E s).bind fun r =>
    if r.2.2 = true ∧ 0 ≤ r.2.1 ∧ r.2.1 < (M.globals.length : Int) ∧ 0 < (M.globals.getD r.2.1.toNat []).length then
      (word_Index.f n ((M.globals.getD r.2.1.toNat []).length : Int)).bind fun q =>
        if 0 ≤ q.1 ∧ q.1 < ((M.globals.getD r.2.1.toNat []).length : Int) then some (r.2.1.toNat, q.1.toNat) else none
    else none
def atE (M : St) (p : Nat × Nat) : Int := (M.globals.getD p.1 []).getD p.2 0
def putE (M : St) (p : Nat × Nat) (v : Int) : St := { M with globals := M.globals.set p.1 ((M.globals.getD p.1 []).set p.2 v) }
def readE (E : Env) (M : St) (s : ByteArray) : Option (Int × St) :=
  (lookE E s).bind fun r =>
    if 0 ≤ M.used ∧ M.used < (lim : Int) ∧ M.sensors.length < lim then
      some (if M.used < (E.rd.length : Int) then E.rd.getD M.used.toNat 0 else 0, { M with sensors := M.sensors ++ [r.2.1], used := M.used + 1 })
    else none
def evalE (E : Env) : Nat → St → S56 → Option (Int × St)
  | 0, _, _ => none
  | k + 1, M, x =>
    if x.f0 = 1 then some (x.f2, M)
    else if x.f0 = 2 then (nameE E M x.f1).bind fun v => some (v, M)
    else if x.f0 = 3 then (if 0 < x.f4.length then (evalE E k M (x.f4.getD 0 z56)).bind fun a => (elemE E a.2 x.f1 a.1).bind fun q => some (atE a.2 q, a.2) else none)
    else if x.f0 = 4 then readE E M x.f1
    else if x.f0 = 5 then (if 0 < x.f4.length then (evalE E k M (x.f4.getD 0 z56)).bind fun a => (word_Unary.f x.f3 a.1).bind fun q => some (q.1, a.2) else none)
    else if x.f0 = 6 then (if 1 < x.f4.length then (evalE E k M (x.f4.getD 0 z56)).bind fun a =>
      if x.f3 = 14 then (if a.1 = 0 then some (0, a.2) else (evalE E k a.2 (x.f4.getD 1 z56)).bind fun c => some (if c.1 = 0 then 0 else 1, c.2))
      else if x.f3 = 15 then (if a.1 = 0 then (evalE E k a.2 (x.f4.getD 1 z56)).bind fun c => some (if c.1 = 0 then 0 else 1, c.2) else some (1, a.2))
      else (evalE E k a.2 (x.f4.getD 1 z56)).bind fun c => (word_Binary.f x.f3 a.1 c.1).bind fun q => some (q.1, c.2) else none)
    else none
def assignE (E : Env) (M : St) (s : ByteArray) (v : Int) : Option St :=
  match findIx M.locals s M.locals.length with
  | some i => some { M with locals := M.locals.set i ((M.locals.getD i zL).1, v) }
  | none => (lookE E s).bind fun r =>
    if r.1 = 2 ∧ 0 ≤ r.2.1 ∧ r.2.1 < (M.globals.length : Int) ∧ 0 < (M.globals.getD r.2.1.toNat []).length then some (putE M (r.2.1.toNat, 0) v) else none
def sendE (E : Env) (M : St) (s : ByteArray) (v : Int) : Option St :=
  (lookE E s).bind fun r =>
    if 0 ≤ r.2.1 ∧ r.2.1 < (M.channels.length : Int) ∧ r.2.1 < (E.l4.length : Int) then
      (if ((M.channels.getD r.2.1.toNat []).length : Int) < (E.l4.getD r.2.1.toNat z131).f1 then
        (if (M.channels.getD r.2.1.toNat []).length < lim then some { M with channels := M.channels.set r.2.1.toNat (M.channels.getD r.2.1.toNat [] ++ [v]) } else none)
      else (if 0 ≤ M.dropped ∧ M.dropped < (lim : Int) then some { M with dropped := M.dropped + 1 } else none))
    else none
/-- How a statement ended: 0 on, 1 returned, 2 limited. -/
def blockE (ex : St → S59 → Option (Int × St)) : List S59 → St → Option (Int × St)
  | [], M => some (0, M)
  | s :: r, M => (ex M s).bind fun g => if g.1 = 0 then blockE ex r g.2 else some g
def scopeE (ex : St → S59 → Option (Int × St)) (l : List S59) (M : St) : Option (Int × St) :=
  (blockE ex l M).bind fun g => if M.locals.length ≤ g.2.locals.length then some (g.1, { g.2 with locals := g.2.locals.take M.locals.length }) else none
def whileE (ev bl : St → Option (Int × St)) : Nat → St → Option (Int × St)
  | 0, _ => none
  | n + 1, M => (ev M).bind fun a =>
    if a.1 = 0 then some (0, a.2)
    else if a.2.left = 0 then some (2, a.2)
    else if 0 < a.2.left ∧ a.2.left < (lim : Int) then (bl { a.2 with left := a.2.left - 1 }).bind fun g => if g.1 = 0 then whileE ev bl n g.2 else some g
    else none
def repE (bl : St → Option (Int × St)) : Nat → St → Option (Int × St)
  | 0, M => some (0, M)
  | n + 1, M => (bl M).bind fun g => if g.1 = 0 then repE bl n g.2 else some g
def stmtE (E : Env) : Nat → St → S59 → Option (Int × St)
  | 0, _, _ => none
  | k + 1, M, s =>
    if s.f0 = 1 then (if 0 < s.f3.length then (evalE E k M (s.f3.getD 0 z56)).bind fun a => if a.2.locals.length < lim then some (0, { a.2 with locals := a.2.locals ++ [(s.f1, a.1)] }) else none else none)
    else if s.f0 = 2 then (if 0 < s.f3.length then (evalE E k M (s.f3.getD 0 z56)).bind fun a => (assignE E a.2 s.f1 a.1).bind fun N => some (0, N) else none)
    else if s.f0 = 3 then (if 1 < s.f3.length then (evalE E k M (s.f3.getD 0 z56)).bind fun a => (evalE E k a.2 (s.f3.getD 1 z56)).bind fun c => (elemE E c.2 s.f1 a.1).bind fun q => some (0, putE c.2 q c.1) else none)
    else if s.f0 = 4 then (if 0 < s.f3.length then (evalE E k M (s.f3.getD 0 z56)).bind fun a => if a.1 = 0 then scopeE (stmtE E k) s.f5 a.2 else scopeE (stmtE E k) s.f4 a.2 else none)
    else if s.f0 = 5 then (if s.f2 < (lim : Int) then repE (scopeE (stmtE E k) s.f4) s.f2.toNat M else none)
    else if s.f0 = 6 then (if 0 < s.f3.length then whileE (fun M => evalE E k M (s.f3.getD 0 z56)) (scopeE (stmtE E k) s.f4) k M else none)
    else if s.f0 = 7 then (if 0 < s.f3.length then (evalE E k M (s.f3.getD 0 z56)).bind fun a => (sendE E a.2 s.f1 a.1).bind fun N => some (0, N) else none)
    else if s.f0 = 8 then (if 0 < s.f3.length then (evalE E k M (s.f3.getD 0 z56)).bind fun a => if a.2.emitted.length < lim then some (0, { a.2 with emitted := a.2.emitted ++ [a.1] }) else none else none)
    else if s.f0 = 9 then (if 0 < s.f3.length then (evalE E k M (s.f3.getD 0 z56)).bind fun a => (lookE E s.f1).bind fun r => if a.2.outputs.length < lim then some (0, { a.2 with outputs := a.2.outputs ++ [⟨r.2.1, a.1⟩] }) else none else none)
    else if s.f0 = 10 ∨ s.f0 = 11 then scopeE (stmtE E k) s.f4 M
    else if s.f0 = 12 then some (0, M)
    else if s.f0 = 13 then some (1, M)
    else none
end Go.Proofs.Yteonloecenodbaa.PX
/- (*interp.machine).find. -/
namespace Go.Proofs.Yteonloecenodbaa.PX
open Go.RowKit Go.Shelf Go.Proofs.YteonloecenodbaaW.PrintWords Go.Proofs.YteonloecenodbaaW.PrintLast Go.Proofs.YteonloecenodbaaW.PrintMore
set_option linter.unusedVariables false
theorem loc_at {W : World} {n0 tl : Nat} {A : Option Addr} {n c : Nat} {ls : List (ByteArray × Int)} (h : QQ kLoc tl W n0 (.slice A n c) ls) (i : Int) (h0 : 0 ≤ i) (h1 : i < (n : Int)) :
    ∃ ad, A = some ad ∧ W.cell? (ad.add (i.toNat * 2)) = some (.string (ls.getD i.toNat zL).1) ∧ W.cell? ⟨(ad.add (i.toNat * 2)).block, (ad.add (i.toNat * 2)).off + 1, none⟩ = some (.int .i16 (ls.getD i.toNat zL).2) := by
  obtain ⟨hn, _, hC⟩ := Kd.Q_reads' h.q
  obtain ⟨ad, cs, e, _, hK, hc0⟩ := Kd.C_get hC zL i h0 (by omega)
  have hc : ∀ j u, cs[j]? = some u → W.cell? (ad.add (i.toNat * 2 + j)) = some u := hc0
  obtain ⟨_, _, rfl, rfl, rfl⟩ := hK
  exact ⟨ad, e, hc 0 _ rfl, by rw [← add_field _ _ 1 (by omega)]; exact hc 1 _ rfl⟩
section
variable {tm tl : Nat} {p : PV} {ex : List Value} {W : World} {n0 b : Nat} {V : VV} {M : St}
theorem Mac.cell (h : Mac tm tl p ex W n0 b V M) (i : Nat) {v : Value} (hv : (mcells p V M ex)[i]? = some v) : W.cell? ⟨b, i, none⟩ = some v := by
  simp only [World.cell?, h.blk]
  simpa using hv
theorem Mac.frozen (h : Mac tm tl p ex W n0 b V M) (i : Nat) : W.frozen? ⟨b, i, none⟩ = false := by
  simp only [World.frozen?, h.blk]
  simp
end
/-- What find returns. -/
def FoundAt (L : Value) (ls : List (ByteArray × Int)) (s : ByteArray) (pr : Value) : Prop :=
  match findIx ls s ls.length with
  | none => pr = .pointer none
  | some i => i < ls.length ∧ ∃ ad c, L = .slice (some ad) ls.length c ∧ pr = .pointer (some (ad.add (i * 2)))
theorem ba_inj {a b : ByteArray} (h : a.toList = b.toList) : a = b := bytes_inj (by rw [ByteArray.toList_eq, ByteArray.toList_eq] at h; exact h)
set_option maxRecDepth 100000 in
set_option maxHeartbeats 4000000 in
theorem find_calls {p : PV} {W : World} {n0 b : Nat} {V : VV} {M : St} (h : Mac 103 115 p [] W n0 b V M) (hlen : M.locals.length ≤ lim) (s : ByteArray) :
    Calls Try.prog 87 #[.pointer (some ⟨b, 0, none⟩), .string s] W fun e W' => ∃ pr, e = .returned pr ∧ Below W.heap.size W W' ∧
FoundAt V.L M.locals s pr := by
  obtain ⟨A, c, hV, hc⟩ := Kd.Q_slice h.L.q
  have c14 : W.cell? ⟨b, 14, none⟩ = some (.slice A M.locals.length c) := (h.cell 14 rfl).trans (by rw [hV])
  have HL : Aside0 (QQ kLoc 115 W n0 (.slice A M.locals.length c) M.locals) := ⟨hV ▸ h.L⟩
  have HV := Aside0.mk hV
  clear h hV
  have w1 : wrap64 ((M.locals.length : Int) - 1) = (M.locals.length : Int) - 1 := by unfold wrap64; unfold lim at hlen; omega
  generalize hls : M.locals = ls at *
  go_enter Try.func87, Try.ntmps87
  go_wp2
  go_loopw [5] (fun v5 wr => ∃ k : Nat, v5 = .int .i64 ((k : Int) - 1) ∧ Aside0 (k ≤ ls.length) ∧ Aside0 (findIx ls s k = findIx ls s ls.length) ∧ wr = W) (fun v5 _ => (intOf v5 + 1).toNat)
  case atStart => exact ⟨ls.length, by first | rfl | (rw [w1]), ⟨Nat.le_refl _⟩, ⟨rfl⟩, rfl⟩
  case round =>
    obtain ⟨k, rfl, HK, HE, rfl⟩ := hrel
    cases k with
    | zero =>
      rw [show (((0 : Nat) : Int) - 1) = -1 by omega]
      go_wp2
      go_ret
      refine ⟨_, rfl, Below.refl _ _, ?_⟩
      unfold FoundAt
      rw [← HE.out]
      rfl
    | succ j =>
      rw [show (((j + 1 : Nat) : Int) - 1) = (j : Int) by omega]
      have hlt : j < ls.length := HK.out
      have hge : (0 : Int) ≤ (j : Int) := by omega
      have hlt2 : (j : Int) < (ls.length : Int) := by omega
      obtain ⟨ad, rfl, hx0, hx1⟩ := loc_at HL.out (j : Int) hge hlt2
      simp only [Int.toNat_natCast] at hx0 hx1
      have w2 : wrap64 ((j : Int) - 1) = (j : Int) - 1 := by unfold wrap64; unfold lim at hlen; omega
      have W2 := Aside0.mk w2
      have HLT := Aside0.mk hlt
      clear w2 hlt
      have hfs : findIx ls s (j + 1) = if (ls.getD j zL).1 = s then some j else findIx ls s j := rfl
      generalize ls.getD j zL = x at hx0 hx1 hfs
      by_cases he : x.1 = s
      · have c1 : (x.1.toList == s.toList) = true := by rw [he]; exact beq_self_eq_true _
        have hF : FoundAt V.L ls s (.pointer (some (ad.add (j * 2)))) := by
          unfold FoundAt
          rw [← HE.out]
          rw [hfs, if_pos he]
          exact ⟨HLT.out, ad, c, HV.out, rfl⟩
        have HF := Aside0.mk hF
        clear hF he HE hfs
        go_wp2
        go_ret
        exact ⟨_, rfl, Below.refl _ _, HF.out⟩
      · have c1 : (x.1.toList == s.toList) = false := beq_eq_false_iff_ne.mpr (fun e => he (ba_inj e))
        have HE2 : Aside0 (findIx ls s j = findIx ls s ls.length) := ⟨by rw [← HE.out, hfs, if_neg he]⟩
        clear he HE hfs
        go_wp2
        go_roundw
        case rel => exact ⟨j, by first | rfl | (rw [W2.out]), ⟨Nat.le_of_lt HLT.out⟩, HE2, by first | rfl | trivial⟩
        case measure => have := W2.out; simp only [intOf]; omega
end Go.Proofs.Yteonloecenodbaa.PX
/- (*interp.machine).name, element, read. -/
namespace Go.Proofs.Yteonloecenodbaa.PX
open Go.RowKit Go.Shelf Go.Proofs.YteonloecenodbaaW.PrintWords Go.Proofs.YteonloecenodbaaW.PrintLast Go.Proofs.YteonloecenodbaaW.PrintMore
set_option linter.unusedVariables false
/-- The program as it lies in memory. -/
structure PC (w0 : World) (p : PV) (E : Env) : Prop where
  dec : ∀ W, Below w0.heap.size w0 W → Calls Try.prog 112 #[.agg #[p.v0, p.v1, p.v2, p.v3, p.v4, p.v5]] W fun e w' => ∃ v0_ : Value, e = .returned v0_ ∧ Kd.R k164 164 w' W.heap.size (fun _ => True) v0_ E.ds ∧ Below W.heap.size W w'
  len : E.ds.length ≤ 100000
  sz : ∀ x ∈ bk E.ds E.ds.length, x.2.f0.size ≤ maxLen
  c0 : ∃ A c, p.v0 = .slice A E.l0.length c ∧ Kd.C k144 w0 A E.l0.length E.l0
  c4 : ∃ A c, p.v4 = .slice A E.l4.length c ∧ Kd.C k131 w0 A E.l4.length E.l4
theorem PC.look {w0 W : World} {p : PV} {E : Env} (h : PC w0 p E) (hB : Below w0.heap.size w0 W) {s : ByteArray} {r : Int × Int × Bool} (hr : lookE E s = some r) :
    Calls Try.prog 74 #[.agg #[p.v0, p.v1, p.v2, p.v3, p.v4, p.v5], .string s] W fun e W' => e = .returned (.tuple #[.int .i64 r.1, .int .i64 r.2.1, .bool r.2.2]) ∧ Below W.heap.size W W' := by
  unfold lookE at hr
  split at hr
  · obtain rfl := Option.some.inj hr
    rename_i hs
    exact look_calls p.v0 p.v1 p.v2 p.v3 p.v4 p.v5 E.ds h.len h.sz W (fun W' hW' => h.dec W' (hB.trans (hW'.mono hB.size))) s hs
  · cases hr
theorem aadd0 (a : Addr) : a.add 0 = a := by cases a; simp [Addr.add]
theorem cell_up {w W : World} (h : Below w.heap.size w W) {a : Addr} {v : Value} (hx : w.cell? a = some v) : W.cell? a = some v := (World.cell?_of_block (h.block _ (World.block_lt_of_cell? _ _ hx))).trans hx
theorem row_of {W : World} {n0 : Nat} {ss : List Sl} {xss : List (List Int)} {A : Option Addr} {n c : Nat} (hG : QQ kSl 33 W n0 (.slice A n c) ss) (hr : WRows W n0 ss xss) (i : Int) (h0 : 0 ≤ i) (h1 : i < (xss.length : Int)) :
    ∃ ad, A = some ad ∧ n = xss.length ∧ ∃ A1 c1, ss[i.toNat]? = some ⟨A1, (xss.getD i.toNat []).length, c1⟩ ∧ W.cell? (ad.add i.toNat) = some (.slice A1 (xss.getD i.toNat []).length c1) ∧ QQ kI 29 W n0 (.slice A1 (xss.getD i.toNat []).length c1) (xss.getD i.toNat []) := by
  obtain ⟨hn, _, hC⟩ := Kd.Q_reads' hG.q
  have hl := hr.len
  obtain ⟨ad, cs, e, _, hK, hc0⟩ := Kd.C_get hC ⟨none, 0, 0⟩ i h0 (by omega)
  have hc : ∀ j u, cs[j]? = some u → W.cell? (ad.add (i.toNat * 1 + j)) = some u := hc0
  have hK' : cs = [Sl.v (ss.getD i.toNat ⟨none, 0, 0⟩)] := hK
  subst hK'
  have hi : i.toNat < ss.length := by omega
  have hi2 : i.toNat < xss.length := by omega
  have hs : ss[i.toNat]? = some (ss.getD i.toNat ⟨none, 0, 0⟩) := by rw [List.getD_eq_getElem?_getD, List.getElem?_eq_getElem hi]; rfl
  have hx : xss[i.toNat]? = some (xss.getD i.toNat []) := by rw [List.getD_eq_getElem?_getD, List.getElem?_eq_getElem hi2]; rfl
  have hq := hr.row _ _ _ hs hx
  generalize ss.getD i.toNat ⟨none, 0, 0⟩ = s at *
  obtain ⟨A1, n1, c1⟩ := s
  obtain ⟨hn1, _, _⟩ := Kd.Q_reads' hq.q
  subst hn1
  refine ⟨ad, e, by omega, A1, c1, hs, ?_, hq⟩
  have := hc 0 _ rfl
  rwa [Nat.mul_one, Nat.add_zero] at this
theorem int_at {W : World} {n0 e : Nat} {k : IntKind} {A : Option Addr} {n c : Nat} {xs : List Int} (h : QQ (Kd.int k) e W n0 (.slice A n c) xs) (i : Int) (h0 : 0 ≤ i) (h1 : i < (n : Int)) :
    ∃ ad, A = some ad ∧ W.cell? (ad.add i.toNat) = some (.int k (xs.getD i.toNat 0)) := by
  obtain ⟨hn, _, hC⟩ := Kd.Q_reads' h.q
  obtain ⟨ad, cs, e, _, hK, hc0⟩ := Kd.C_get hC 0 i h0 (by omega)
  have hc : ∀ j u, cs[j]? = some u → W.cell? (ad.add (i.toNat * 1 + j)) = some u := hc0
  have hK' : cs = [.int k (xs.getD i.toNat 0)] := hK
  subst hK'
  refine ⟨ad, e, ?_⟩
  have := hc 0 _ rfl
  rwa [Nat.mul_one, Nat.add_zero] at this
set_option maxRecDepth 100000 in
set_option maxHeartbeats 4000000 in
theorem name_calls {w0 W : World} {p : PV} {E : Env} {b : Nat} {V : VV} {M : St} (hP : PC w0 p E) (h : Mac 103 115 p [] W w0.heap.size b V M) (hB : Below w0.heap.size w0 W) (hlen : M.locals.length ≤ lim) (s : ByteArray) (v : Int) (hv : nameE E M s = some v) :
    Calls Try.prog 62 #[.pointer (some ⟨b, 0, none⟩), .string s] W fun e W' => e = .returned (.int .i16 v) ∧ Below W.heap.size W W' := by
  have HF := Aside0.mk (find_calls h hlen s)
  have HP := Aside0.mk hP
  have HM := Aside0.mk h
  have HB := Aside0.mk hB
  clear hP h hB
  go_enter Try.func62, Try.ntmps62
  unfold nameE at hv
  cases hf : findIx M.locals s M.locals.length with
  | some i =>
    rw [hf] at hv
    obtain rfl := Option.some.inj hv
    go_wp2_with (first
      | (go_at_call 87; refine HF.out.mono ?_; rintro e W1 ⟨pr, rfl, hB1, hFA⟩; unfold FoundAt at hFA; rw [hf] at hFA; obtain ⟨hi, ad, c, hV, rfl⟩ := hFA; have hl := loc_at (hV ▸ (HM.out.below hB1).L) (i : Int) (by omega) (by omega); obtain ⟨ad', e', hx0, hx1⟩ := hl; cases e'; simp only [Int.toNat_natCast] at hx0 hx1; generalize hxx : M.locals.getD i zL = x at hx0 hx1))
    go_ret
    exact ⟨by rw [hxx]; rfl, hB1⟩
  | none =>
    rw [hf] at hv
    obtain ⟨⟨r1, r2, r3⟩, hr, hv⟩ := Option.bind_eq_some_iff.1 hv
    simp only at hv
    by_cases k1 : r1 = 1
    · rw [if_pos k1] at hv
      split at hv
      case isFalse => cases hv
      rename_i hi
      obtain rfl := Option.some.inj hv
      obtain ⟨A0, c0, hp0, hC0⟩ := HP.out.c0
      obtain ⟨v0, v1, v2, v3, v4, v5⟩ := p
      simp only at hp0
      subst hp0
      obtain ⟨ad, e0, hx0, hx1, hx2⟩ := at_T144 hC0 r2 hi.1 hi.2
      have e1 : rd_T144 E.l0 r2 = E.l0.getD r2.toNat z144 := rfl
      rw [e1] at hx0 hx1 hx2
      generalize hxx : E.l0.getD r2.toNat z144 = x at hx0 hx1 hx2
      subst e0 k1
      obtain ⟨hi0, hi1⟩ := hi
      go_wp2_with (first
        | (go_at_call 87; refine HF.out.mono ?_; rintro e W1 ⟨pr, rfl, hB1, hFA⟩; unfold FoundAt at hFA; rw [hf] at hFA; subst hFA; have d0 := (HM.out.below hB1).cell 0 rfl; have d1 := (HM.out.below hB1).cell 1 rfl; have d2 := (HM.out.below hB1).cell 2 rfl; have d3 := (HM.out.below hB1).cell 3 rfl; have d4 := (HM.out.below hB1).cell 4 rfl; have d5 := (HM.out.below hB1).cell 5 rfl)
        | (go_at_call 74; refine (HP.out.look (HB.out.trans (hB1.mono HB.out.size)) hr).mono ?_; rintro e W2 ⟨rfl, hB2⟩; clear d0 d1 d2 d3 d4 d5; have d0 := ((HM.out.below hB1).below hB2).cell 0 rfl; have hBB := HB.out.trans ((hB1.trans (hB2.mono hB1.size)).mono HB.out.size); replace hx1 := cell_up hBB hx1))
      go_ret
      exact ⟨rfl, hB1.trans (hB2.mono hB1.size)⟩
    · rw [if_neg k1] at hv
      have k1b : (r1 == 1) = false := beq_eq_false_iff_ne.mpr k1
      obtain ⟨v0, v1, v2, v3, v4, v5⟩ := p
      by_cases k2 : r1 = 2
      · rw [if_pos k2] at hv
        split at hv
        case isFalse => cases hv
        rename_i hi
        obtain rfl := Option.some.inj hv
        obtain ⟨hi0, hi1, hi2⟩ := hi
        subst k2
        have hi1' := hi1
        obtain ⟨AG, cG, hG, _⟩ := Kd.Q_slice HM.out.G.q
        have hgl := HM.out.gr.len
        go_wp2_with (first
          | (go_at_call 87; refine HF.out.mono ?_; rintro e W1 ⟨pr, rfl, hB1, hFA⟩; unfold FoundAt at hFA; rw [hf] at hFA; subst hFA; have d0 := (HM.out.below hB1).cell 0 rfl; have d1 := (HM.out.below hB1).cell 1 rfl; have d2 := (HM.out.below hB1).cell 2 rfl; have d3 := (HM.out.below hB1).cell 3 rfl; have d4 := (HM.out.below hB1).cell 4 rfl; have d5 := (HM.out.below hB1).cell 5 rfl)
          | (go_at_call 74; refine (HP.out.look (HB.out.trans (hB1.mono HB.out.size)) hr).mono ?_; rintro e W2 ⟨rfl, hB2⟩; clear d0 d1 d2 d3 d4 d5; have hM2 := (HM.out.below hB1).below hB2; have d6 := hM2.cell 6 rfl; rw [hG] at d6; obtain ⟨ad, rfl, hn, A1, c1, hs, hx0, hq⟩ := row_of (hG ▸ hM2.G) hM2.gr r2 hi0 hi1; obtain ⟨ad1, rfl, hy⟩ := int_at hq 0 (by omega) (by omega); rw [show (0 : Int).toNat = 0 from rfl, aadd0] at hy; rw [hgl] at d6; generalize hrow : M.globals.getD r2.toNat [] = row at hx0 hy hi2; generalize hyy : row.getD 0 0 = y at hy; clear hq hs))
        go_ret
        exact ⟨by rw [hrow, hyy]; rfl, hB1.trans (hB2.mono hB1.size)⟩
      · rw [if_neg k2] at hv
        obtain rfl := Option.some.inj hv
        have k2b : (r1 == 2) = false := beq_eq_false_iff_ne.mpr k2
        go_wp2_with (first
          | (go_at_call 87; refine HF.out.mono ?_; rintro e W1 ⟨pr, rfl, hB1, hFA⟩; unfold FoundAt at hFA; rw [hf] at hFA; subst hFA; have d0 := (HM.out.below hB1).cell 0 rfl; have d1 := (HM.out.below hB1).cell 1 rfl; have d2 := (HM.out.below hB1).cell 2 rfl; have d3 := (HM.out.below hB1).cell 3 rfl; have d4 := (HM.out.below hB1).cell 4 rfl; have d5 := (HM.out.below hB1).cell 5 rfl)
          | (go_at_call 74; refine (HP.out.look (HB.out.trans (hB1.mono HB.out.size)) hr).mono ?_; rintro e W2 ⟨rfl, hB2⟩))
        go_ret
        exact ⟨rfl, hB1.trans (hB2.mono hB1.size)⟩
set_option maxRecDepth 100000 in
set_option maxHeartbeats 4000000 in
theorem element_calls {w0 W : World} {p : PV} {E : Env} {b : Nat} {V : VV} {M : St} (hP : PC w0 p E) (h : Mac 103 115 p [] W w0.heap.size b V M) (hB : Below w0.heap.size w0 W) (s : ByteArray) (n : Int) (q : Nat × Nat) (hv : elemE E M s n = some q) :
    Calls Try.prog 63 #[.pointer (some ⟨b, 0, none⟩), .string s, .int .i16 n] W fun e W' => Below W.heap.size W W' ∧ ∃ ad c, e = .returned (.pointer (some (ad.add q.2))) ∧ V.gs[q.1]? = some ⟨some ad, (M.globals.getD q.1 []).length, c⟩ ∧ q.1 < M.globals.length ∧ q.2 < (M.globals.getD q.1 []).length := by
  have HP := Aside0.mk hP
  have HM := Aside0.mk h
  have HB := Aside0.mk hB
  clear hP h hB
  unfold elemE at hv
  obtain ⟨⟨r1, r2, r3⟩, hr, hv⟩ := Option.bind_eq_some_iff.1 hv
  simp only at hv
  split at hv
  case isFalse => cases hv
  rename_i hi
  obtain ⟨rfl, hi0, hi1, hi2⟩ := hi
  obtain ⟨⟨x1, x2⟩, hx, hv⟩ := Option.bind_eq_some_iff.1 hv
  simp only at hv
  split at hv
  case isFalse => cases hv
  rename_i hj
  obtain ⟨hj0, hj1⟩ := hj
  obtain rfl := Option.some.inj hv
  obtain ⟨v0, v1, v2, v3, v4, v5⟩ := p
  obtain ⟨AG, cG, hG, _⟩ := Kd.Q_slice HM.out.G.q
  have hgl := HM.out.gr.len
  have d0 := HM.out.cell 0 rfl
  have d1 := HM.out.cell 1 rfl
  have d2 := HM.out.cell 2 rfl
  have d3 := HM.out.cell 3 rfl
  have d4 := HM.out.cell 4 rfl
  have d5 := HM.out.cell 5 rfl
  go_enter Try.func63, Try.ntmps63
  go_wp2_with (first
    | (go_at_call 74; refine (HP.out.look HB.out hr).mono ?_; rintro e W2 ⟨rfl, hB2⟩; clear d0 d1 d2 d3 d4 d5; have hM2 := HM.out.below hB2; have d6 := hM2.cell 6 rfl; rw [hG] at d6; obtain ⟨ad, rfl, hn, A1, c1, hs, hx0, hq⟩ := row_of (hG ▸ hM2.G) hM2.gr r2 hi0 hi1; obtain ⟨ad1, rfl, hy⟩ := int_at hq x1 hj0 hj1; rw [hgl] at d6; generalize hrow : M.globals.getD r2.toNat [] = row at hx0 hx hs hj1; clear hq hy)
    | (go_at_call 88; refine (word_Index.calls _ _ x1 x2 _ hx).mono ?_; rintro e W3 ⟨rfl, hD⟩))
  go_ret
  refine ⟨hB2.trans (hD.below.mono hB2.size), ad1, c1, rfl, ?_, by omega, ?_⟩
  · rw [hrow]; exact hs
  · rw [hrow]; show x1.toNat < row.length; omega
end Go.Proofs.Yteonloecenodbaa.PX
/- What a call of the interpreter may write: its own block and rows. -/
namespace Go.Proofs.Yteonloecenodbaa.PX
open Go.RowKit Go.Shelf Go.Proofs.YteonloecenodbaaW.PrintWords Go.Proofs.YteonloecenodbaaW.PrintLast Go.Proofs.YteonloecenodbaaW.PrintMore
set_option linter.unusedVariables false
structure Foot (b : Nat) (V : VV) (k : Nat) : Prop where
  o : k = b ∨ V.G.ownBlock = some k ∨ V.C.ownBlock = some k ∨ V.E.ownBlock = some k ∨ V.O.ownBlock = some k ∨ V.S.ownBlock = some k ∨ V.L.ownBlock = some k ∨ ∃ s, s ∈ V.gs ++ V.cs ∧ s.v.ownBlock = some k
structure Step (W W' : World) (b : Nat) (V V' : VV) : Prop where
  size : W.heap.size ≤ W'.heap.size
  keep : ∀ k, k < W.heap.size → ¬ Foot b V k → W'.heap[k]? = W.heap[k]?
  foot : ∀ k, k < W.heap.size → Foot b V' k → Foot b V k
section
variable {W W1 W2 : World} {b : Nat} {V V1 V2 : VV} {tm tl : Nat} {p : PV} {ex : List Value} {n0 : Nat} {M : St}
theorem Step.refl (W : World) (b : Nat) (V : VV) : Step W W b V V := ⟨Nat.le_refl _, fun _ _ _ => rfl, fun _ _ h => h⟩
theorem Step.trans (h : Step W W1 b V V1) (k : Step W1 W2 b V1 V2) : Step W W2 b V V2 :=
  ⟨Nat.le_trans h.size k.size, fun i hi hn => (k.keep i (Nat.lt_of_lt_of_le hi h.size) (fun hf => hn (h.foot i hi hf))).trans (h.keep i hi hn),
    fun i hi hf => h.foot i hi (k.foot i (Nat.lt_of_lt_of_le hi h.size) hf)⟩
theorem Step.of_below (h : Below W.heap.size W W1) (b : Nat) (V : VV) : Step W W1 b V V := ⟨h.size, fun k hk _ => h.block k hk, fun _ _ h => h⟩
theorem Mac.foot_lt (h : Mac tm tl p ex W n0 b V M) {k : Nat} (hf : Foot b V k) : n0 ≤ k ∧ k < W.heap.size := by
  rcases hf.o with rfl | hk | hk | hk | hk | hk | hk | ⟨s, hs, hk⟩
  · exact ⟨h.base, h.lt⟩
  · exact ⟨h.G.base k hk, h.G.lt k hk⟩
  · exact ⟨h.C.base k hk, h.C.lt k hk⟩
  · exact ⟨h.E.base k hk, h.E.lt k hk⟩
  · exact ⟨h.O.base k hk, h.O.lt k hk⟩
  · exact ⟨h.S.base k hk, h.S.lt k hk⟩
  · exact ⟨h.L.base k hk, h.L.lt k hk⟩
  · rcases List.mem_append.1 hs with hs | hs
    · obtain ⟨xs, hq⟩ := h.gr.mem hs
      exact ⟨hq.base k hk, hq.lt k hk⟩
    · obtain ⟨xs, hq⟩ := h.cr.mem hs
      exact ⟨hq.base k hk, hq.lt k hk⟩
/-- A block of the caller's stays. -/
theorem Step.blk (h : Step W W1 b V V1) {g : Nat} {o : Obj} (hg : W.heap[g]? = some o) (hf : ¬ Foot b V g) : W1.heap[g]? = some o := (h.keep g (Array.getElem?_eq_some_iff.1 hg).1 hf).trans hg
theorem Step.nfoot (h : Step W W1 b V V1) {g : Nat} (hg : g < W.heap.size) (hf : ¬ Foot b V g) : ¬ Foot b V1 g := fun hf1 => hf (h.foot g hg hf1)
theorem Step.cell (h : Step W W1 b V V1) {a : Addr} {v : Value} (hg : W.cell? a = some v) (hf : ¬ Foot b V a.block) : W1.cell? a = some v :=
  (World.cell?_of_block (h.keep a.block (World.block_lt_of_cell? _ _ hg) hf)).trans hg
theorem Step.of_turn {S : Nat → Prop} (ht : Turn W W1 S) (hs : W.heap.size ≤ W1.heap.size) (hS : ∀ k, S k → Foot b V k) (hf : ∀ k, k < W.heap.size → Foot b V1 k → Foot b V k) : Step W W1 b V V1 :=
  ⟨hs, fun k hk hn => ht k hk (fun e => hn (hS k e)), hf⟩
theorem foot_S {v1 : Value} (hat : Lies W V.S v1) : ∀ k, k < W.heap.size → Foot b { V with S := v1 } k → Foot b V k := fun k hk hf => by
  rcases hf.o with h | h | h | h | h | h | h | h
  · exact ⟨.inl h⟩
  · exact ⟨.inr (.inl h)⟩
  · exact ⟨.inr (.inr (.inl h))⟩
  · exact ⟨.inr (.inr (.inr (.inl h)))⟩
  · exact ⟨.inr (.inr (.inr (.inr (.inl h))))⟩
  · rcases hat with e | ⟨g, e, hg⟩
    · exact ⟨.inr (.inr (.inr (.inr (.inr (.inl (e ▸ h))))))⟩
    · have h' : v1.ownBlock = some k := h
      rw [e] at h'
      injection h' with h'
      omega
  · exact ⟨.inr (.inr (.inr (.inr (.inr (.inr (.inl h))))))⟩
  · exact ⟨.inr (.inr (.inr (.inr (.inr (.inr (.inr h))))))⟩
theorem foot_E {v1 : Value} (hat : Lies W V.E v1) : ∀ k, k < W.heap.size → Foot b { V with E := v1 } k → Foot b V k := fun k hk hf => by
  rcases hf.o with h | h | h | h | h | h | h | h
  · exact ⟨.inl h⟩
  · exact ⟨.inr (.inl h)⟩
  · exact ⟨.inr (.inr (.inl h))⟩
  · rcases hat with e | ⟨g, e, hg⟩
    · exact ⟨.inr (.inr (.inr (.inl (e ▸ h))))⟩
    · have h' : v1.ownBlock = some k := h
      rw [e] at h'
      injection h' with h'
      omega
  · exact ⟨.inr (.inr (.inr (.inr (.inl h))))⟩
  · exact ⟨.inr (.inr (.inr (.inr (.inr (.inl h)))))⟩
  · exact ⟨.inr (.inr (.inr (.inr (.inr (.inr (.inl h))))))⟩
  · exact ⟨.inr (.inr (.inr (.inr (.inr (.inr (.inr h))))))⟩
theorem foot_O {v1 : Value} (hat : Lies W V.O v1) : ∀ k, k < W.heap.size → Foot b { V with O := v1 } k → Foot b V k := fun k hk hf => by
  rcases hf.o with h | h | h | h | h | h | h | h
  · exact ⟨.inl h⟩
  · exact ⟨.inr (.inl h)⟩
  · exact ⟨.inr (.inr (.inl h))⟩
  · exact ⟨.inr (.inr (.inr (.inl h)))⟩
  · rcases hat with e | ⟨g, e, hg⟩
    · exact ⟨.inr (.inr (.inr (.inr (.inl (e ▸ h)))))⟩
    · have h' : v1.ownBlock = some k := h
      rw [e] at h'
      injection h' with h'
      omega
  · exact ⟨.inr (.inr (.inr (.inr (.inr (.inl h)))))⟩
  · exact ⟨.inr (.inr (.inr (.inr (.inr (.inr (.inl h))))))⟩
  · exact ⟨.inr (.inr (.inr (.inr (.inr (.inr (.inr h))))))⟩
theorem foot_L {v1 : Value} (hat : Lies W V.L v1) : ∀ k, k < W.heap.size → Foot b { V with L := v1 } k → Foot b V k := fun k hk hf => by
  rcases hf.o with h | h | h | h | h | h | h | h
  · exact ⟨.inl h⟩
  · exact ⟨.inr (.inl h)⟩
  · exact ⟨.inr (.inr (.inl h))⟩
  · exact ⟨.inr (.inr (.inr (.inl h)))⟩
  · exact ⟨.inr (.inr (.inr (.inr (.inl h))))⟩
  · exact ⟨.inr (.inr (.inr (.inr (.inr (.inl h)))))⟩
  · rcases hat with e | ⟨g, e, hg⟩
    · exact ⟨.inr (.inr (.inr (.inr (.inr (.inr (.inl (e ▸ h)))))))⟩
    · have h' : v1.ownBlock = some k := h
      rw [e] at h'
      injection h' with h'
      omega
  · exact ⟨.inr (.inr (.inr (.inr (.inr (.inr (.inr h))))))⟩
theorem foot_C {i : Nat} {s s1 : Sl} (hi : V.cs[i]? = some s) (hat : Lies W s.v s1.v) : ∀ k, k < W.heap.size → Foot b { V with cs := V.cs.set i s1 } k → Foot b V k := fun k hk hf => by
  rcases hf.o with h | h | h | h | h | h | h | ⟨u, hu, h⟩
  · exact ⟨.inl h⟩
  · exact ⟨.inr (.inl h)⟩
  · exact ⟨.inr (.inr (.inl h))⟩
  · exact ⟨.inr (.inr (.inr (.inl h)))⟩
  · exact ⟨.inr (.inr (.inr (.inr (.inl h))))⟩
  · exact ⟨.inr (.inr (.inr (.inr (.inr (.inl h)))))⟩
  · exact ⟨.inr (.inr (.inr (.inr (.inr (.inr (.inl h))))))⟩
  · refine ⟨.inr (.inr (.inr (.inr (.inr (.inr (.inr ?_))))))⟩
    rcases List.mem_append.1 hu with hu | hu
    · exact ⟨u, List.mem_append_left _ hu, h⟩
    · rcases List.mem_or_eq_of_mem_set hu with hu | rfl
      · exact ⟨u, List.mem_append_right _ hu, h⟩
      · rcases hat with e | ⟨g, e, hg⟩
        · exact ⟨s, List.mem_append_right _ (List.mem_of_getElem? hi), e ▸ h⟩
        · rw [e] at h
          injection h with h
          omega
theorem Mac.put_E (h : Mac tm tl p ex W n0 b V M) {w3 : World} {v1 : Value} {zs : List Int} (hq : kI.Q 29 w3 n0 (fun _ => True) v1 zs) (hg : W.grownBy w3 V.E.ownBlock) (hat : Lies W V.E v1) :
    Mac tm tl p ex (w3.setCell ⟨b, 8, none⟩ v1) n0 b { V with E := v1 } { M with emitted := zs } ∧ Step W (w3.setCell ⟨b, 8, none⟩ v1) b V { V with E := v1 } := by
  have hb := h.E.neb h.blk (Ne.symm h.tt.1)
  have hbk := (hg.block b h.lt (fun e => hb e.symm)).trans h.blk
  have ht : Turn W (w3.setCell ⟨b, 8, none⟩ v1) (fun k => k = b ∨ V.E.ownBlock = some k) := fun k hk hn => (Below.heap_setCell w3 ⟨b, 8, none⟩ v1 k (fun e => hn (.inl e))).trans (hg.block k hk (fun e => hn (.inr e.symm)))
  have hv : ∀ k, v1.ownBlock = some k → k ≠ b := fun k hk e => by
    rcases hat with e1 | ⟨g, e1, hge⟩
    · exact hb (by rw [← e1, hk, e])
    · rw [e1] at hk
      injection hk with hk
      have := h.lt
      omega
  have hq1 : QQ kI 29 (w3.setCell ⟨b, 8, none⟩ v1) n0 v1 zs := (QQ.mk rfl hq : QQ kI 29 w3 n0 v1 zs).step (fun k hk => Below.heap_setCell w3 ⟨b, 8, none⟩ v1 k (hv k hk))
  refine ⟨h.turn_E ht hq1 hat rfl rfl ((blk_set hbk 8 v1).trans (by simp [mcells])), Step.of_turn ht (Nat.le_trans hg.size (by simp)) (fun k hk => ?_) (foot_E hat)⟩
  rcases hk with rfl | hk
  · exact ⟨.inl rfl⟩
  · exact ⟨.inr (.inr (.inr (.inl hk)))⟩
theorem Mac.put_O (h : Mac tm tl p ex W n0 b V M) {w3 : World} {v1 : Value} {zs : List S110} (hq : k110.Q 110 w3 n0 (fun _ => True) v1 zs) (hg : W.grownBy w3 V.O.ownBlock) (hat : Lies W V.O v1) :
    Mac tm tl p ex (w3.setCell ⟨b, 9, none⟩ v1) n0 b { V with O := v1 } { M with outputs := zs } ∧ Step W (w3.setCell ⟨b, 9, none⟩ v1) b V { V with O := v1 } := by
  have hb := h.O.neb h.blk (Ne.symm h.tt.2.2.1)
  have hbk := (hg.block b h.lt (fun e => hb e.symm)).trans h.blk
  have ht : Turn W (w3.setCell ⟨b, 9, none⟩ v1) (fun k => k = b ∨ V.O.ownBlock = some k) := fun k hk hn => (Below.heap_setCell w3 ⟨b, 9, none⟩ v1 k (fun e => hn (.inl e))).trans (hg.block k hk (fun e => hn (.inr e.symm)))
  have hv : ∀ k, v1.ownBlock = some k → k ≠ b := fun k hk e => by
    rcases hat with e1 | ⟨g, e1, hge⟩
    · exact hb (by rw [← e1, hk, e])
    · rw [e1] at hk
      injection hk with hk
      have := h.lt
      omega
  have hq1 : QQ k110 110 (w3.setCell ⟨b, 9, none⟩ v1) n0 v1 zs := (QQ.mk rfl hq : QQ k110 110 w3 n0 v1 zs).step (fun k hk => Below.heap_setCell w3 ⟨b, 9, none⟩ v1 k (hv k hk))
  refine ⟨h.turn_O ht hq1 rfl rfl ((blk_set hbk 9 v1).trans (by simp [mcells])), Step.of_turn ht (Nat.le_trans hg.size (by simp)) (fun k hk => ?_) (foot_O hat)⟩
  rcases hk with rfl | hk
  · exact ⟨.inl rfl⟩
  · exact ⟨.inr (.inr (.inr (.inr (.inl hk))))⟩
theorem Mac.put_S (h : Mac tm tl p ex W n0 b V M) {w3 : World} {v1 : Value} {zs : List Int} (hq : kN.Q 3 w3 n0 (fun _ => True) v1 zs) (hg : W.grownBy w3 V.S.ownBlock) (hat : Lies W V.S v1) :
    Mac tm tl p ex (w3.setCell ⟨b, 12, none⟩ v1) n0 b { V with S := v1 } { M with sensors := zs } ∧ Step W (w3.setCell ⟨b, 12, none⟩ v1) b V { V with S := v1 } := by
  have hb := h.S.neb h.blk (Ne.symm h.tt.2.2.2.1)
  have hbk := (hg.block b h.lt (fun e => hb e.symm)).trans h.blk
  have ht : Turn W (w3.setCell ⟨b, 12, none⟩ v1) (fun k => k = b ∨ V.S.ownBlock = some k) := fun k hk hn => (Below.heap_setCell w3 ⟨b, 12, none⟩ v1 k (fun e => hn (.inl e))).trans (hg.block k hk (fun e => hn (.inr e.symm)))
  have hv : ∀ k, v1.ownBlock = some k → k ≠ b := fun k hk e => by
    rcases hat with e1 | ⟨g, e1, hge⟩
    · exact hb (by rw [← e1, hk, e])
    · rw [e1] at hk
      injection hk with hk
      have := h.lt
      omega
  have hq1 : QQ kN 3 (w3.setCell ⟨b, 12, none⟩ v1) n0 v1 zs := (QQ.mk rfl hq : QQ kN 3 w3 n0 v1 zs).step (fun k hk => Below.heap_setCell w3 ⟨b, 12, none⟩ v1 k (hv k hk))
  refine ⟨h.turn_S ht hq1 rfl rfl ((blk_set hbk 12 v1).trans (by simp [mcells])), Step.of_turn ht (Nat.le_trans hg.size (by simp)) (fun k hk => ?_) (foot_S hat)⟩
  rcases hk with rfl | hk
  · exact ⟨.inl rfl⟩
  · exact ⟨.inr (.inr (.inr (.inr (.inr (.inl hk)))))⟩
theorem Mac.put_L (h : Mac tm tl p ex W n0 b V M) {w3 : World} {v1 : Value} {zs : List (ByteArray × Int)} (hq : kLoc.Q tl w3 n0 (fun _ => True) v1 zs) (hg : W.grownBy w3 V.L.ownBlock) (hat : Lies W V.L v1) :
    Mac tm tl p ex (w3.setCell ⟨b, 14, none⟩ v1) n0 b { V with L := v1 } { M with locals := zs } ∧ Step W (w3.setCell ⟨b, 14, none⟩ v1) b V { V with L := v1 } := by
  have hb := h.L.neb h.blk (Ne.symm h.tt.2.2.2.2.1)
  have hbk := (hg.block b h.lt (fun e => hb e.symm)).trans h.blk
  have ht : Turn W (w3.setCell ⟨b, 14, none⟩ v1) (fun k => k = b ∨ V.L.ownBlock = some k) := fun k hk hn => (Below.heap_setCell w3 ⟨b, 14, none⟩ v1 k (fun e => hn (.inl e))).trans (hg.block k hk (fun e => hn (.inr e.symm)))
  have hv : ∀ k, v1.ownBlock = some k → k ≠ b := fun k hk e => by
    rcases hat with e1 | ⟨g, e1, hge⟩
    · exact hb (by rw [← e1, hk, e])
    · rw [e1] at hk
      injection hk with hk
      have := h.lt
      omega
  have hq1 : QQ kLoc tl (w3.setCell ⟨b, 14, none⟩ v1) n0 v1 zs := (QQ.mk rfl hq : QQ kLoc tl w3 n0 v1 zs).step (fun k hk => Below.heap_setCell w3 ⟨b, 14, none⟩ v1 k (hv k hk))
  refine ⟨h.turn_L ht hq1 rfl rfl ((blk_set hbk 14 v1).trans (by simp [mcells])), Step.of_turn ht (Nat.le_trans hg.size (by simp)) (fun k hk => ?_) (foot_L hat)⟩
  rcases hk with rfl | hk
  · exact ⟨.inl rfl⟩
  · exact ⟨.inr (.inr (.inr (.inr (.inr (.inr (.inl hk))))))⟩
theorem Mac.put_dropped (h : Mac tm tl p ex W n0 b V M) (n : Int) :
    Mac tm tl p ex (W.setCell ⟨b, 10, none⟩ (.int .i64 n)) n0 b V { M with dropped := n } ∧ Step W (W.setCell ⟨b, 10, none⟩ (.int .i64 n)) b V V := by
  have ht : Turn W (W.setCell ⟨b, 10, none⟩ (.int .i64 n)) (fun k => k = b) := Turn.of_set ⟨b, 10, none⟩ _
  exact ⟨h.turn_n (dr := n) (us := M.used) (le := M.left) ht rfl ((blk_set h.blk 10 _).trans (by simp [mcells])), Step.of_turn ht (by simp) (fun k hk => ⟨.inl hk⟩) (fun _ _ hf => hf)⟩
theorem Mac.put_used (h : Mac tm tl p ex W n0 b V M) (n : Int) :
    Mac tm tl p ex (W.setCell ⟨b, 11, none⟩ (.int .i64 n)) n0 b V { M with used := n } ∧ Step W (W.setCell ⟨b, 11, none⟩ (.int .i64 n)) b V V := by
  have ht : Turn W (W.setCell ⟨b, 11, none⟩ (.int .i64 n)) (fun k => k = b) := Turn.of_set ⟨b, 11, none⟩ _
  exact ⟨h.turn_n (dr := M.dropped) (us := n) (le := M.left) ht rfl ((blk_set h.blk 11 _).trans (by simp [mcells])), Step.of_turn ht (by simp) (fun k hk => ⟨.inl hk⟩) (fun _ _ hf => hf)⟩
theorem Mac.put_left (h : Mac tm tl p ex W n0 b V M) (n : Int) :
    Mac tm tl p ex (W.setCell ⟨b, 15, none⟩ (.int .i64 n)) n0 b V { M with left := n } ∧ Step W (W.setCell ⟨b, 15, none⟩ (.int .i64 n)) b V V := by
  have ht : Turn W (W.setCell ⟨b, 15, none⟩ (.int .i64 n)) (fun k => k = b) := Turn.of_set ⟨b, 15, none⟩ _
  exact ⟨h.turn_n (dr := M.dropped) (us := M.used) (le := n) ht rfl ((blk_set h.blk 15 _).trans (by simp [mcells])), Step.of_turn ht (by simp) (fun k hk => ⟨.inl hk⟩) (fun _ _ hf => hf)⟩
end
end Go.Proofs.Yteonloecenodbaa.PX
/- (*interp.machine).read. -/
namespace Go.Proofs.Yteonloecenodbaa.PX
open Go.RowKit Go.Shelf Go.Proofs.YteonloecenodbaaW.PrintWords Go.Proofs.YteonloecenodbaaW.PrintLast Go.Proofs.YteonloecenodbaaW.PrintMore
set_option linter.unusedVariables false
theorem add_blk (a : Addr) (n : Nat) : (a.add n).block = a.block := by unfold Addr.add; split <;> rfl
theorem cell_far {W : World} {a : Addr} {v : Value} (h : W.cell? a = some v) {p : Addr} (hne : a.block ≠ p.block) (u : Value) : (W.setCell p u).cell? a = some v := (World.cell?_of_block (Below.heap_setCell W p u a.block hne)).trans h
theorem reads_at {W : World} {A : Option Addr} {n : Nat} {xs : List Int} {k : IntKind} (h : Kd.C (Kd.int k) W A n xs) (i : Int) (h0 : 0 ≤ i) (h1 : i < (n : Int)) : ∃ ad, A = some ad ∧ W.cell? (ad.add i.toNat) = some (.int k (xs.getD i.toNat 0)) := by
  obtain ⟨ad, cs, e, _, hK, hc0⟩ := Kd.C_get h 0 i h0 h1
  have hc : ∀ j u, cs[j]? = some u → W.cell? (ad.add (i.toNat * 1 + j)) = some u := hc0
  have hK' : cs = [.int k (xs.getD i.toNat 0)] := hK
  subst hK'
  refine ⟨ad, e, ?_⟩
  have := hc 0 _ rfl
  rwa [Nat.mul_one, Nat.add_zero] at this
set_option maxRecDepth 100000 in
set_option maxHeartbeats 4000000 in
theorem read_calls {w0 W : World} {p : PV} {E : Env} {b : Nat} {V : VV} {M M' : St} (hP : PC w0 p E) (h : Mac 103 115 p [] W w0.heap.size b V M) (hB : Below w0.heap.size w0 W) (s : ByteArray) (v : Int) (AR : Option Addr) (cR : Nat) (hR : V.R = .slice AR E.rd.length cR) (hCR : Kd.C (Kd.int .i16) w0 AR E.rd.length E.rd)
    (hv : readE E M s = some (v, M')) :
    Calls Try.prog 64 #[.pointer (some ⟨b, 0, none⟩), .string s] W fun e W' => e = .returned (.int .i16 v) ∧ Below w0.heap.size w0 W' ∧ ∃ v1, Mac 103 115 p [] W' w0.heap.size b { V with S := v1 } M' ∧ Step W W' b V { V with S := v1 } := by
  have HP := Aside0.mk hP
  have HM := Aside0.mk h
  have HB := Aside0.mk hB
  clear hP h hB
  unfold readE at hv
  obtain ⟨⟨r1, r2, r3⟩, hr, hv⟩ := Option.bind_eq_some_iff.1 hv
  simp only at hv
  split at hv
  case isFalse => cases hv
  rename_i hi
  obtain ⟨hu0, hu1, hs1⟩ := hi
  have HV := Aside0.mk (Prod.mk.inj (Option.some.inj hv))
  clear hv
  obtain ⟨v0, v1, v2, v3, v4, v5⟩ := p
  have d0 := HM.out.cell 0 rfl
  have d1 := HM.out.cell 1 rfl
  have d2 := HM.out.cell 2 rfl
  have d3 := HM.out.cell 3 rfl
  have d4 := HM.out.cell 4 rfl
  have d5 := HM.out.cell 5 rfl
  have hu : wrap64 (M.used + 1) = M.used + 1 := by unfold wrap64; unfold lim at hu1; omega
  have HU := Aside0.mk hu
  clear hu
  have hfin : ∀ (w3 : World) (A1 : Option Addr) (c1 : Nat) (W2 : World), Mac 103 115 ⟨v0, v1, v2, v3, v4, v5⟩ [] W2 w0.heap.size b V M → Below W.heap.size W W2 → kN.Q 3 w3 w0.heap.size (fun _ => True) (.slice A1 (M.sensors.length + 1) c1) (M.sensors ++ [r2]) → W2.grownBy w3 V.S.ownBlock → Lies W2 V.S (.slice A1 (M.sensors.length + 1) c1) → Below w0.heap.size w0 w3 →
      Below w0.heap.size w0 ((w3.setCell ⟨b, 12, none⟩ (.slice A1 (M.sensors.length + 1) c1)).setCell ⟨b, 11, none⟩ (.int .i64 (wrap64 (M.used + 1)))) ∧ ∃ u1, Mac 103 115 ⟨v0, v1, v2, v3, v4, v5⟩ [] ((w3.setCell ⟨b, 12, none⟩ (.slice A1 (M.sensors.length + 1) c1)).setCell ⟨b, 11, none⟩ (.int .i64 (wrap64 (M.used + 1)))) w0.heap.size b { V with S := u1 } M' ∧ Step W ((w3.setCell ⟨b, 12, none⟩ (.slice A1 (M.sensors.length + 1) c1)).setCell ⟨b, 11, none⟩ (.int .i64 (wrap64 (M.used + 1)))) b V { V with S := u1 } := by
    intro w3 A1 c1 W2 h2 hb2 hq hg ha hb3
    obtain ⟨hM3, hS3⟩ := h2.put_S hq hg ha
    obtain ⟨hM4, hS4⟩ := hM3.put_used (wrap64 (M.used + 1))
    refine ⟨(hb3.setCell (p := ⟨b, 12, none⟩) h2.base _).setCell (p := ⟨b, 11, none⟩) h2.base _, _, ?_, (Step.of_below hb2 b V).trans (hS3.trans hS4)⟩
    rw [HU.out] at hM4 ⊢
    rw [← HV.out.2]
    exact hM4
  have HF := Aside0.mk hfin
  clear hfin
  by_cases hru : M.used < (E.rd.length : Int)
  · obtain ⟨ad, rfl, hx0⟩ := reads_at hCR M.used hu0 hru
    generalize hxx : E.rd.getD M.used.toNat 0 = x at hx0
    have hlt0 := World.block_lt_of_cell? _ _ hx0
    have hne : ad.block ≠ b := fun e => by have := HM.out.base; rw [← e] at this; exact absurd (show ad.block < w0.heap.size from (add_blk ad _) ▸ hlt0) (by omega)
    have hne2 : (ad.add M.used.toNat).block ≠ b := by rw [add_blk]; exact hne
    have HX := Aside0.mk hx0
    clear hx0
    go_enter Try.func64, Try.ntmps64
    go_wp2_with (first
      | (go_at_call 74; refine (HP.out.look HB.out hr).mono ?_; rintro e W2 ⟨rfl, hB2⟩; clear d0 d1 d2 d3 d4 d5; have hM2 := HM.out.below hB2; have d12 := hM2.cell 12 rfl; have H2 := Aside0.mk hM2; have HB2 := Aside0.mk hB2; clear hM2 hB2)
      | ((with_reducible refine gate_builtin (b := .append) (xs := #[.tmp 24, .tmp 26]) rfl ?_); at_builtin; refine Kd.Q_append kN (w0 := w0) w0.heap.size rfl (.tmp 24) (.tmp 26) 42 3 (.int .i64 0) 8 rfl Try.underlying42 info3 rfl (by decide) (by decide) V.S M.sensors r2 [.int .i64 r2] (fun _ => True) (fun _ => False) rfl rfl ?aP (fun _ hk => hk.elim) ?aF ?aO ?aB ?aS ?aL ?_; (case aP => exact rfl); (case aF => exact fun _ _ => trivial); (case aO => exact H2.out.S.q); (case aB => exact HB.out.trans (HB2.out.mono HB.out.size)); (case aS => exact Nat.le_trans HB.out.size HB2.out.size); (case aL => unfold lim at hs1; omega); intro u1 w3 ho3 hb3 hg3 ha3; obtain ⟨A1, c1, rfl, _⟩ := Kd.Q_slice ho3; rw [show (M.sensors ++ [r2]).length = M.sensors.length + 1 by simp] at ho3 ha3; have hbk := (hg3.block b H2.out.lt (fun e => H2.out.S.neb H2.out.blk (by decide) e.symm)).trans H2.out.blk; have e11 := blk_cell hbk 11; have e12 := blk_cell hbk 12; have e13 := blk_cell hbk 13; have f11 := blk_frozen hbk 11; have f12 := blk_frozen hbk 12; replace e11 : w3.cell? ⟨b, 11, none⟩ = some (.int .i64 M.used) := e11.trans rfl; replace e12 : w3.cell? ⟨b, 12, none⟩ = some V.S := e12.trans rfl; replace e13 : w3.cell? ⟨b, 13, none⟩ = some (.slice (some ad) E.rd.length cR) := e13.trans (congrArg some hR); have hx3 := cell_up hb3 HX.out; have hx4 := cell_far (cell_far hx3 (p := ⟨b, 12, none⟩) hne2 (.slice A1 (M.sensors.length + 1) c1)) (p := ⟨b, 11, none⟩) hne2 (.int .i64 (wrap64 (M.used + 1))); clear hx3; have HO := Aside0.mk ho3; have HB3 := Aside0.mk hb3; have HG := Aside0.mk hg3; have HA := Aside0.mk ha3; have HBK := Aside0.mk hbk; clear ho3 hb3 hg3 ha3 hbk d12))
    go_ret
    have hf := HF.out _ _ _ _ H2.out HB2.out HO.out HG.out HA.out HB3.out
    exact ⟨by rw [← HV.out.1, if_pos hru, hxx]; rfl, hf.1, hf.2⟩
  · go_enter Try.func64, Try.ntmps64
    go_wp2_with (first
      | (go_at_call 74; refine (HP.out.look HB.out hr).mono ?_; rintro e W2 ⟨rfl, hB2⟩; clear d0 d1 d2 d3 d4 d5; have hM2 := HM.out.below hB2; have d12 := hM2.cell 12 rfl; have H2 := Aside0.mk hM2; have HB2 := Aside0.mk hB2; clear hM2 hB2)
      | ((with_reducible refine gate_builtin (b := .append) (xs := #[.tmp 24, .tmp 26]) rfl ?_); at_builtin; refine Kd.Q_append kN (w0 := w0) w0.heap.size rfl (.tmp 24) (.tmp 26) 42 3 (.int .i64 0) 8 rfl Try.underlying42 info3 rfl (by decide) (by decide) V.S M.sensors r2 [.int .i64 r2] (fun _ => True) (fun _ => False) rfl rfl ?aP (fun _ hk => hk.elim) ?aF ?aO ?aB ?aS ?aL ?_; (case aP => exact rfl); (case aF => exact fun _ _ => trivial); (case aO => exact H2.out.S.q); (case aB => exact HB.out.trans (HB2.out.mono HB.out.size)); (case aS => exact Nat.le_trans HB.out.size HB2.out.size); (case aL => unfold lim at hs1; omega); intro u1 w3 ho3 hb3 hg3 ha3; obtain ⟨A1, c1, rfl, _⟩ := Kd.Q_slice ho3; rw [show (M.sensors ++ [r2]).length = M.sensors.length + 1 by simp] at ho3 ha3; have hbk := (hg3.block b H2.out.lt (fun e => H2.out.S.neb H2.out.blk (by decide) e.symm)).trans H2.out.blk; have e11 := blk_cell hbk 11; have e12 := blk_cell hbk 12; have e13 := blk_cell hbk 13; have f11 := blk_frozen hbk 11; have f12 := blk_frozen hbk 12; replace e11 : w3.cell? ⟨b, 11, none⟩ = some (.int .i64 M.used) := e11.trans rfl; replace e12 : w3.cell? ⟨b, 12, none⟩ = some V.S := e12.trans rfl; replace e13 : w3.cell? ⟨b, 13, none⟩ = some (.slice AR E.rd.length cR) := e13.trans (congrArg some hR); have HO := Aside0.mk ho3; have HB3 := Aside0.mk hb3; have HG := Aside0.mk hg3; have HA := Aside0.mk ha3; have HBK := Aside0.mk hbk; clear ho3 hb3 hg3 ha3 hbk d12))
    go_ret
    have hf := HF.out _ _ _ _ H2.out HB2.out HO.out HG.out HA.out HB3.out
    exact ⟨by rw [← HV.out.1, if_neg (by omega)]; rfl, hf.1, hf.2⟩
end Go.Proofs.Yteonloecenodbaa.PX
/- (*interp.machine).eval. -/
namespace Go.Proofs.Yteonloecenodbaa.PX
open Go.RowKit Go.Shelf Go.Proofs.YteonloecenodbaaW.PrintWords Go.Proofs.YteonloecenodbaaW.PrintLast Go.Proofs.YteonloecenodbaaW.PrintMore
set_option linter.unusedVariables false
/-- The interpreter at work. -/
structure Ok (w0 : World) (p : PV) (E : Env) (AR : Option Addr) (cR : Nat) (W : World) (b : Nat) (V : VV) (M : St) : Prop where
  P : PC w0 p E
  rd : Kd.C (Kd.int .i16) w0 AR E.rd.length E.rd
  m : Mac 103 115 p [] W w0.heap.size b V M
  B : Below w0.heap.size w0 W
  len : M.locals.length ≤ lim
  R : V.R = .slice AR E.rd.length cR
theorem readE_same {E : Env} {M M' : St} {s : ByteArray} {v : Int} (h : readE E M s = some (v, M')) : ∃ se us, M' = { M with sensors := se, used := us } := by
  unfold readE at h
  obtain ⟨r, _, h⟩ := Option.bind_eq_some_iff.1 h
  split at h
  · obtain ⟨_, rfl⟩ := Prod.mk.inj (Option.some.inj h)
    exact ⟨_, _, rfl⟩
  · cases h
theorem same_trans {M M1 M2 : St} (h : ∃ se us, M1 = { M with sensors := se, used := us }) (k : ∃ se us, M2 = { M1 with sensors := se, used := us }) : ∃ se us, M2 = { M with sensors := se, used := us } := by
  obtain ⟨_, _, rfl⟩ := h
  obtain ⟨_, _, rfl⟩ := k
  exact ⟨_, _, rfl⟩
theorem evalE_same {E : Env} : ∀ (k : Nat) {M M' : St} {x : S56} {v : Int}, evalE E k M x = some (v, M') → ∃ se us, M' = { M with sensors := se, used := us }
  | 0, _, _, _, _, h => by cases h
  | k + 1, M, M', x, v, h => by
    rw [evalE] at h
    by_cases c1 : x.f0 = 1
    · rw [if_pos c1] at h
      obtain ⟨_, rfl⟩ := Prod.mk.inj (Option.some.inj h); exact ⟨_, _, rfl⟩
    rw [if_neg c1] at h
    by_cases c2 : x.f0 = 2
    · rw [if_pos c2] at h
      obtain ⟨r, _, h⟩ := Option.bind_eq_some_iff.1 h
      obtain ⟨_, rfl⟩ := Prod.mk.inj (Option.some.inj h); exact ⟨_, _, rfl⟩
    rw [if_neg c2] at h
    by_cases c3 : x.f0 = 3
    · rw [if_pos c3] at h
      by_cases d : 0 < x.f4.length
      · rw [if_pos d] at h
        obtain ⟨⟨r, M1⟩, h1, h⟩ := Option.bind_eq_some_iff.1 h
        obtain ⟨q, _, h⟩ := Option.bind_eq_some_iff.1 h
        obtain ⟨_, rfl⟩ := Prod.mk.inj (Option.some.inj h)
        exact evalE_same k h1
      · rw [if_neg d] at h; cases h
    rw [if_neg c3] at h
    by_cases c4 : x.f0 = 4
    · rw [if_pos c4] at h
      exact readE_same h
    rw [if_neg c4] at h
    by_cases c5 : x.f0 = 5
    · rw [if_pos c5] at h
      by_cases d : 0 < x.f4.length
      · rw [if_pos d] at h
        obtain ⟨⟨r, M1⟩, h1, h⟩ := Option.bind_eq_some_iff.1 h
        obtain ⟨q, _, h⟩ := Option.bind_eq_some_iff.1 h
        obtain ⟨_, rfl⟩ := Prod.mk.inj (Option.some.inj h)
        exact evalE_same k h1
      · rw [if_neg d] at h; cases h
    rw [if_neg c5] at h
    by_cases c6 : x.f0 = 6
    · rw [if_pos c6] at h
      by_cases d : 1 < x.f4.length
      · rw [if_pos d] at h
        obtain ⟨⟨r, M1⟩, h1, h⟩ := Option.bind_eq_some_iff.1 h
        have e1 := evalE_same k h1
        simp only at h
        by_cases o14 : x.f3 = 14
        · rw [if_pos o14] at h
          by_cases z : r = 0
          · rw [if_pos z] at h
            obtain ⟨_, rfl⟩ := Prod.mk.inj (Option.some.inj h); exact e1
          · rw [if_neg z] at h
            obtain ⟨⟨r2, M2⟩, h2, h⟩ := Option.bind_eq_some_iff.1 h
            obtain ⟨_, rfl⟩ := Prod.mk.inj (Option.some.inj h); exact same_trans e1 (evalE_same k h2)
        rw [if_neg o14] at h
        by_cases o15 : x.f3 = 15
        · rw [if_pos o15] at h
          by_cases z : r = 0
          · rw [if_pos z] at h
            obtain ⟨⟨r2, M2⟩, h2, h⟩ := Option.bind_eq_some_iff.1 h
            obtain ⟨_, rfl⟩ := Prod.mk.inj (Option.some.inj h); exact same_trans e1 (evalE_same k h2)
          · rw [if_neg z] at h
            obtain ⟨_, rfl⟩ := Prod.mk.inj (Option.some.inj h); exact e1
        rw [if_neg o15] at h
        obtain ⟨⟨r2, M2⟩, h2, h⟩ := Option.bind_eq_some_iff.1 h
        obtain ⟨q, _, h⟩ := Option.bind_eq_some_iff.1 h
        obtain ⟨_, rfl⟩ := Prod.mk.inj (Option.some.inj h); exact same_trans e1 (evalE_same k h2)
      · rw [if_neg d] at h; cases h
    · rw [if_neg c6] at h; cases h
/-- What eval leaves. -/
def EvPost (w0 : World) (p : PV) (E : Env) (AR : Option Addr) (cR : Nat) (W : World) (b : Nat) (V : VV) (M' : St) (v : Int) (e : Ending) (W' : World) : Prop :=
  e = .returned (.int .i16 v) ∧ ∃ S1, Ok w0 p E AR cR W' b { V with S := S1 } M' ∧ Step W W' b V { V with S := S1 }
theorem Ok.next {w0 W W' : World} {p : PV} {E : Env} {AR : Option Addr} {cR b : Nat} {V V' : VV} {M M' : St} (h : Ok w0 p E AR cR W b V M) (hm : Mac 103 115 p [] W' w0.heap.size b V' M') (hB : Below w0.heap.size w0 W') (hl : M'.locals.length ≤ lim) (hR : V'.R = V.R) : Ok w0 p E AR cR W' b V' M' :=
  ⟨h.P, h.rd, hm, hB, hl, hR.trans h.R⟩
theorem Ok.up {w0 W W' : World} {p : PV} {E : Env} {AR : Option Addr} {cR b : Nat} {V : VV} {M : St} (h : Ok w0 p E AR cR W b V M) (hB : Below W.heap.size W W') : Ok w0 p E AR cR W' b V M :=
  h.next (h.m.below hB) (h.B.trans (hB.mono h.B.size)) h.len rfl
theorem aadd6 (a : Addr) : a.add 6 = ⟨a.block, a.off + 6, none⟩ := by simp [Addr.add]
theorem elem_cell {W : World} {n0 b : Nat} {tm tl : Nat} {p : PV} {ex : List Value} {V : VV} {M : St} (h : Mac tm tl p ex W n0 b V M) {q : Nat × Nat} {ad : Addr} {c : Nat} (hg : V.gs[q.1]? = some ⟨some ad, (M.globals.getD q.1 []).length, c⟩) (h1 : q.1 < M.globals.length) (h2 : q.2 < (M.globals.getD q.1 []).length) :
    W.cell? (ad.add q.2) = some (.int .i16 (atE M q)) := by
  have hx : M.globals[q.1]? = some (M.globals.getD q.1 []) := by rw [List.getD_eq_getElem?_getD, List.getElem?_eq_getElem h1]; rfl
  have hq := h.gr.row _ _ _ hg hx
  obtain ⟨ad', e, hc⟩ := int_at hq (q.2 : Int) (by omega) (by exact Int.ofNat_lt.2 h2)
  cases e
  rw [Int.toNat_natCast] at hc
  exact hc
set_option maxRecDepth 100000 in
set_option maxHeartbeats 4000000 in
theorem eval_calls {w0 : World} {p : PV} {E : Env} {AR : Option Addr} {cR b : Nat} : ∀ (k : Nat) {W : World} {V : VV} {M M' : St} {x : S56} {v : Int} {A4 : Option Addr} {c4 : Nat}, Ok w0 p E AR cR W b V M → x.f4.length ≤ c4 → Kd.C k56 w0 A4 x.f4.length x.f4 → evalE E k M x = some (v, M') →
    Calls Try.prog 43 #[.pointer (some ⟨b, 0, none⟩), .agg #[.int .i64 x.f0, .string x.f1, .int .i16 x.f2, .int .i64 x.f3, .slice A4 x.f4.length c4, .int .i64 x.f5]] W (EvPost w0 p E AR cR W b V M' v)
  | 0, _, _, _, _, _, _, _, _, _, _, _, h => by cases h
  | k + 1, W, V, M, M', x, v, A4, c4, hO, hc4, hC, h => by
    rw [evalE] at h
    have IH := Aside0.mk (@eval_calls w0 p E AR cR b k)
    have HO := Aside0.mk hO
    have HC := Aside0.mk hC
    clear hO hC
    obtain ⟨f0, f1, f2, f3, f4, f5⟩ := x
    simp only at h HC hc4 ⊢
    by_cases c1 : f0 = 1
    · rw [if_pos c1] at h
      obtain ⟨rfl, rfl⟩ := Prod.mk.inj (Option.some.inj h)
      subst c1
      go_enter Try.func43, Try.ntmps43
      go_wp2
      go_ret
      exact ⟨rfl, V.S, HO.out.up (below_alloc (Below.refl _ _) _), Step.of_below (below_alloc (Below.refl _ _) _) _ _⟩
    rw [if_neg c1] at h
    by_cases c2 : f0 = 2
    · rw [if_pos c2] at h
      replace h := Option.bind_eq_some_iff.1 h; obtain ⟨r, hr, h⟩ := h
      obtain ⟨rfl, rfl⟩ := Prod.mk.inj (Option.some.inj h)
      subst c2
      go_enter Try.func43, Try.ntmps43
      go_wp2_with (first | (go_at_call 62; refine (name_calls HO.out.P (HO.out.up (below_alloc (Below.refl _ _) _)).m (HO.out.up (below_alloc (Below.refl _ _) _)).B HO.out.len f1 r hr).mono ?_; rintro e W1 ⟨rfl, hB1⟩))
      go_ret
      exact ⟨rfl, V.S, HO.out.up (below_alloc (Below.refl _ _) _) |>.up hB1, Step.of_below ((below_alloc (Below.refl _ _) _).trans (hB1.mono (by simp))) _ _⟩
    rw [if_neg c2] at h
    by_cases c3 : f0 = 3
    · rw [if_pos c3] at h
      have d : 0 < f4.length := Decidable.byContradiction fun d => by rw [if_neg d] at h; cases h
      rw [if_pos d] at h
      subst c3
      replace h := Option.bind_eq_some_iff.1 h; obtain ⟨⟨r, M1⟩, h1, h⟩ := h
      replace h := Option.bind_eq_some_iff.1 h; obtain ⟨q, hq, h⟩ := h
      obtain ⟨rfl, rfl⟩ := Prod.mk.inj (Option.some.inj h)
      obtain ⟨ad, A5, c5, rfl, g0, g1, g2, g3, g4, g5, hl5, hC5⟩ := at_T56 HC.out 0 (by omega) (by omega)
      simp only [show (0 : Int).toNat * 6 = 0 from rfl, aadd0, show rd_T56 f4 0 = f4.getD 0 z56 from rfl] at g0 g1 g2 g3 g4 g5 hl5 hC5
      have hsame := evalE_same k h1
      simp only at h1 hq
      generalize f4.getD 0 z56 = y at g0 g1 g2 g3 g4 g5 hl5 hC5 h1
      have HC5 := Aside0.mk hC5
      have H1 := Aside0.mk h1
      have HQ := Aside0.mk hq
      clear hC5 h1 hq h
      have hnf : ¬ Foot b V W.heap.size := fun hf => Nat.lt_irrefl _ (HO.out.m.foot_lt hf).2
      have hSS : ∀ {W1 : World} {V1 : VV}, Step (W.alloc (.cells #[.int .i64 3, .string f1, .int .i16 f2, .int .i64 f3, .slice (some ad) f4.length c4, .int .i64 f5] 56)) W1 b V V1 → Below w0.heap.size w0 W1 →
          W1.cell? ⟨W.heap.size, 1, none⟩ = some (.string f1) ∧ W1.cell? ⟨W.heap.size, 4, none⟩ = some (.slice (some ad) f4.length c4) ∧ W1.cell? ad = some (.int .i64 y.f0) ∧ W1.cell? ⟨ad.block, ad.off + 1, none⟩ = some (.string y.f1) ∧ W1.cell? ⟨ad.block, ad.off + 2, none⟩ = some (.int .i16 y.f2) ∧ W1.cell? ⟨ad.block, ad.off + 3, none⟩ = some (.int .i64 y.f3) ∧ W1.cell? ⟨ad.block, ad.off + 4, none⟩ = some (.slice A5 y.f4.length c5) ∧ W1.cell? ⟨ad.block, ad.off + 5, none⟩ = some (.int .i64 y.f5) := by
        intro W1 V1 hs hb
        have hbk := hs.blk (World.alloc_heap_new W _) hnf
        exact ⟨(blk_cell hbk 1).trans rfl, (blk_cell hbk 4).trans rfl, cell_up hb g0, cell_up hb g1, cell_up hb g2, cell_up hb g3, cell_up hb g4, cell_up hb g5⟩
      have HSS := Aside0.mk (@hSS)
      clear hSS hnf g0 g1 g2 g3 g4 g5
      have hO1 := HO.out.up (below_alloc (Below.refl W.heap.size W) (.cells #[.int .i64 3, .string f1, .int .i16 f2, .int .i64 f3, .slice (some ad) f4.length c4, .int .i64 f5] 56))
      obtain ⟨s1, s4, g0, g1, g2, g3, g4, g5⟩ := HSS.out (Step.refl _ b V) hO1.B
      have HO1 := Aside0.mk hO1
      clear hO1
      go_enter Try.func43, Try.ntmps43
      go_wp2
      refine start_ (n := 13) (S := (fun w' => w'.cell? ⟨W.heap.size, 1, none⟩ = some (.string f1) ∧ w'.cell? ⟨W.heap.size, 4, none⟩ = some (.slice (some ad) f4.length c4) ∧ w'.cell? ad = some (.int .i64 y.f0) ∧ w'.cell? ⟨ad.block, ad.off + 1, none⟩ = some (.string y.f1) ∧ w'.cell? ⟨ad.block, ad.off + 2, none⟩ = some (.int .i16 y.f2) ∧ w'.cell? ⟨ad.block, ad.off + 3, none⟩ = some (.int .i64 y.f3) ∧ w'.cell? ⟨ad.block, ad.off + 4, none⟩ = some (.slice A5 y.f4.length c5) ∧ w'.cell? ⟨ad.block, ad.off + 5, none⟩ = some (.int .i64 y.f5))) (ds := []) #[false, false, false, false, false, false, false, false, false, false, false, false, false] (by kernel_rfl) rfl rfl ⟨s1, s4, g0, g1, g2, g3, g4, g5⟩ (fun hHeld => ?_)
      refine pure_ (i := 0) (N := some 24) (v := ?_) (a' := ?_) #[true, false, false, false, false, false, false, false, false, false, false, false, false] rfl rfl (by kernel_rfl) (fun _ _ _ h => h) (Or.inl ⟨by rfl, ?_⟩) ?_ ?_
      rotate_left
      · intro w'
        go_simp
        with_reducible rfl
      rotate_left
      · simp only [Act.put, List.setIfInBounds_toArray, List.set_cons_zero, List.set_cons_succ]
        rfl
      refine pure_ (i := 1) (N := some 25) (v := ?_) (a' := ?_) #[true, true, false, false, false, false, false, false, false, false, false, false, false] rfl rfl (by kernel_rfl) (fun _ _ _ h => h) (Or.inl ⟨by rfl, ?_⟩) ?_ ?_
      rotate_left
      · intro w'
        go_simp
        with_reducible rfl
      rotate_left
      · simp only [Act.put, List.setIfInBounds_toArray, List.set_cons_zero, List.set_cons_succ]
        rfl
      refine take_ (i := 2) (N := some 26) (v := ?_) (a' := ?_) #[true, true, true, false, false, false, false, false, false, false, false, false, false] rfl rfl (by kernel_rfl) (fun _ _ _ h => h) (Or.inl ⟨by rfl, ?_⟩) hHeld ?_ ?_
      rotate_left
      · rintro w' ⟨s1, s4, g0, g1, g2, g3, g4, g5⟩
        go_simp
        with_reducible rfl
      rotate_left
      · simp only [Act.put, List.setIfInBounds_toArray, List.set_cons_zero, List.set_cons_succ]
        rfl
      refine pure_ (i := 3) (N := some 27) (v := ?_) (a' := ?_) #[true, true, true, true, false, false, false, false, false, false, false, false, false] rfl rfl (by kernel_rfl) (fun _ _ _ h => h) (Or.inl ⟨by rfl, ?_⟩) ?_ ?_
      rotate_left
      · intro w'
        go_simp
        with_reducible rfl
      rotate_left
      · simp only [Act.put, List.setIfInBounds_toArray, List.set_cons_zero, List.set_cons_succ]
        rfl
      refine pure_ (i := 4) (N := some 28) (v := ?_) (a' := ?_) #[true, true, true, true, true, false, false, false, false, false, false, false, false] rfl rfl (by kernel_rfl) (fun _ _ _ h => h) (Or.inl ⟨by rfl, ?_⟩) ?_ ?_
      rotate_left
      · intro w'
        go_simp
        with_reducible rfl
      rotate_left
      · simp only [Act.put, List.setIfInBounds_toArray, List.set_cons_zero, List.set_cons_succ]
        rfl
      refine take_ (i := 5) (N := some 29) (v := ?_) (a' := ?_) #[true, true, true, true, true, true, false, false, false, false, false, false, false] rfl rfl (by kernel_rfl) (fun _ _ _ h => h) (Or.inl ⟨by rfl, ?_⟩) hHeld ?_ ?_
      rotate_left
      · rintro w' ⟨s1, s4, g0, g1, g2, g3, g4, g5⟩
        go_simp
        with_reducible rfl
      rotate_left
      · simp only [Act.put, List.setIfInBounds_toArray, List.set_cons_zero, List.set_cons_succ]
        rfl
      refine pure_ (i := 6) (N := some 30) (v := ?_) (a' := ?_) #[true, true, true, true, true, true, true, false, false, false, false, false, false] rfl rfl (by kernel_rfl) (fun _ _ _ h => h) (Or.inl ⟨by rfl, ?_⟩) ?_ ?_
      rotate_left
      · intro w'
        go_simp
        with_reducible rfl
      rotate_left
      · simp only [Act.put, List.setIfInBounds_toArray, List.set_cons_zero, List.set_cons_succ]
        rfl
      refine take_ (i := 7) (N := some 31) (v := ?_) (a' := ?_) #[true, true, true, true, true, true, true, true, false, false, false, false, false] rfl rfl (by kernel_rfl) (fun _ _ _ h => h) (Or.inl ⟨by rfl, ?_⟩) hHeld ?_ ?_
      rotate_left
      · rintro w' ⟨s1, s4, g0, g1, g2, g3, g4, g5⟩
        go_simp
        with_reducible rfl
      rotate_left
      · simp only [Act.put, List.setIfInBounds_toArray, List.set_cons_zero, List.set_cons_succ]
        rfl
      refine one_ (i := 8) (N := some 32) #[true, true, true, true, true, true, true, true, true, false, false, false, false] rfl rfl (by kernel_rfl) (by decide) (fun K hK => ?_)
      refine goes_ Try.func43 (by kernel_rfl) rfl #[.pointer (some ⟨b, 0, none⟩), .agg #[.int .i64 y.f0, .string y.f1, .int .i16 y.f2, .int .i64 y.f3, .slice A5 y.f4.length c5, .int .i64 y.f5]] (by rfl) rfl rfl (by (try simp only [List.map_toArray, List.map_cons, List.map_nil]); first | done | rfl) ?_
      refine (IH.out (HO1.out.up (below_drew1 (Below.refl _ _))) hl5 HC5.out H1.out).mono ?_
      rintro e W1 ⟨rfl, S1, hO2, hS2⟩
      refine ⟨_, rfl, ?_⟩
      have hz := HSS.out ((Step.of_below (below_drew1 (Below.refl _ _)) b V).trans hS2) hO2.B
      have HO2 := Aside0.mk hO2
      have HS2 := Aside0.mk hS2
      have HZ := Aside0.mk hz
      clear hO2 hS2 hHeld
      refine hK.out _ _ hz (fun hHeld => ?_)
      clear hz
      clear hK K
      refine norm_ (a' := ?_) ?_ ?_
      rotate_left
      · show Act.put _ (some 32) _ = _
        simp only [Act.put, List.setIfInBounds_toArray, List.set_cons_zero, List.set_cons_succ]
        rfl
      refine one_ (i := 9) (N := some 33) #[true, true, true, true, true, true, true, true, true, true, false, false, false] rfl rfl (by kernel_rfl) (by decide) (fun K hK => ?_)
      refine goes_ Try.func63 (by kernel_rfl) rfl #[.pointer (some ⟨b, 0, none⟩), .string f1, .int .i16 r] (by rfl) rfl rfl (by (try simp only [List.map_toArray, List.map_cons, List.map_nil]); first | done | rfl) ?_
      refine (element_calls HO2.out.P HO2.out.m HO2.out.B f1 r q HQ.out).mono ?_
      rintro e W2 ⟨hB3, ad1, c1, rfl, hgs, hq1, hq2⟩
      refine ⟨_, rfl, ?_⟩
      obtain ⟨z0, z1, z2, z3, z4, z5, z6, z7⟩ := HZ.out
      replace z0 := cell_up hB3 z0
      replace z1 := cell_up hB3 z1
      replace z2 := cell_up hB3 z2
      replace z3 := cell_up hB3 z3
      replace z4 := cell_up hB3 z4
      replace z5 := cell_up hB3 z5
      replace z6 := cell_up hB3 z6
      replace z7 := cell_up hB3 z7
      have hO3 := HO2.out.up hB3
      have zz := elem_cell hO3.m hgs hq1 hq2
      generalize hat : atE M1 q = u at zz
      have HB3 := Aside0.mk hB3
      have HO3 := Aside0.mk hO3
      clear hB3 hO3 hHeld
      refine hK.out _ _ ⟨z0, z1, z2, z3, z4, z5, z6, z7⟩ (fun hHeld => ?_)
      clear hK K
      refine norm_ (a' := ?_) ?_ ?_
      rotate_left
      · show Act.put _ (some 33) _ = _
        simp only [Act.put, List.setIfInBounds_toArray, List.set_cons_zero, List.set_cons_succ]
        rfl
      refine pure_ (i := 10) (N := some 34) (v := ?_) (a' := ?_) #[true, true, true, true, true, true, true, true, true, true, true, false, false] rfl rfl (by kernel_rfl) (fun _ _ _ h => h) (Or.inl ⟨by rfl, ?_⟩) ?_ ?_
      rotate_left
      · intro w'
        go_simp
        with_reducible rfl
      rotate_left
      · simp only [Act.put, List.setIfInBounds_toArray, List.set_cons_zero, List.set_cons_succ]
        rfl
      refine one_ (i := 11) (N := some 35) #[true, true, true, true, true, true, true, true, true, true, true, true, false] rfl rfl (by kernel_rfl) (by decide) (fun K hK => ?_)
      refine event_step (w1 := W2) (v := .int .i16 u) (by rfl) (by first | (go_simp; done) | (go_simp; rfl)) ?_
      refine hK.out _ _ ⟨z0, z1, z2, z3, z4, z5, z6, z7⟩ (fun hHeld => ?_)
      clear hK K
      refine norm_ (a' := ?_) ?_ ?_
      rotate_left
      · show Act.put _ (some 35) _ = _
        simp only [Act.put, List.setIfInBounds_toArray, List.set_cons_zero, List.set_cons_succ]
        rfl
      refine pure_ (i := 12) (N := some 4) (v := ?_) (a' := ?_) #[true, true, true, true, true, true, true, true, true, true, true, true, true] rfl rfl (by kernel_rfl) (fun _ _ _ h => h) (Or.inl ⟨by rfl, ?_⟩) ?_ ?_
      rotate_left
      · intro w'
        go_simp
        with_reducible rfl
      rotate_left
      · simp only [Act.put, List.setIfInBounds_toArray, List.set_cons_zero, List.set_cons_succ]
        rfl
      refine done_ (by kernel_rfl) ?_
      go_wp2
      go_ret
      exact ⟨rfl, S1, HO3.out, (Step.of_below (below_alloc (Below.refl _ _) _) b V).trans (((Step.of_below (below_drew1 (Below.refl _ _)) b V).trans HS2.out).trans (Step.of_below HB3.out b _))⟩
    rw [if_neg c3] at h
    by_cases c4_ : f0 = 4
    · rw [if_pos c4_] at h
      subst c4_
      go_enter Try.func43, Try.ntmps43
      go_wp2_with (first | (go_at_call 64; refine (read_calls HO.out.P (HO.out.up (below_alloc (Below.refl _ _) _)).m (HO.out.up (below_alloc (Below.refl _ _) _)).B f1 v AR cR HO.out.R HO.out.rd h).mono ?_; rintro e W1 ⟨rfl, hB1, S1, hM1, hS1⟩))
      go_ret
      obtain ⟨_, _, rfl⟩ := readE_same h
      exact ⟨rfl, S1, HO.out.next hM1 hB1 HO.out.len rfl, (Step.of_below (below_alloc (Below.refl _ _) _) b V).trans hS1⟩
    rw [if_neg c4_] at h
    by_cases c5 : f0 = 5
    · rw [if_pos c5] at h
      have d : 0 < f4.length := Decidable.byContradiction fun d => by rw [if_neg d] at h; cases h
      rw [if_pos d] at h
      subst c5
      replace h := Option.bind_eq_some_iff.1 h; obtain ⟨⟨r, M1⟩, h1, h⟩ := h
      obtain ⟨ad, A5, c5_, rfl, g0, g1, g2, g3, g4, g5, hl5, hC5⟩ := at_T56 HC.out 0 (by omega) (by omega)
      simp only [show (0 : Int).toNat * 6 = 0 from rfl, aadd0, show rd_T56 f4 0 = f4.getD 0 z56 from rfl] at g0 g1 g2 g3 g4 g5 hl5 hC5
      have hsame := evalE_same k h1
      simp only at h1 h
      generalize f4.getD 0 z56 = y at g0 g1 g2 g3 g4 g5 hl5 hC5 h1
      have HC5 := Aside0.mk hC5
      have H1 := Aside0.mk h1
      clear hC5 h1
      have hnf : ¬ Foot b V W.heap.size := fun hf => Nat.lt_irrefl _ (HO.out.m.foot_lt hf).2
      replace h := Option.bind_eq_some_iff.1 h; obtain ⟨⟨q1, q2⟩, hq, h⟩ := h
      obtain ⟨rfl, rfl⟩ := Prod.mk.inj (Option.some.inj h)
      clear h
      have hSS : ∀ {W1 : World} {V1 : VV}, Step (W.alloc (.cells #[.int .i64 5, .string f1, .int .i16 f2, .int .i64 f3, .slice (some ad) f4.length c4, .int .i64 f5] 56)) W1 b V V1 → Below w0.heap.size w0 W1 →
          W1.cell? ⟨W.heap.size, 1, none⟩ = some (.string f1) ∧ W1.cell? ⟨W.heap.size, 3, none⟩ = some (.int .i64 f3) ∧ W1.cell? ⟨W.heap.size, 4, none⟩ = some (.slice (some ad) f4.length c4) ∧ W1.cell? ad = some (.int .i64 y.f0) ∧ W1.cell? ⟨ad.block, ad.off + 1, none⟩ = some (.string y.f1) ∧ W1.cell? ⟨ad.block, ad.off + 2, none⟩ = some (.int .i16 y.f2) ∧ W1.cell? ⟨ad.block, ad.off + 3, none⟩ = some (.int .i64 y.f3) ∧ W1.cell? ⟨ad.block, ad.off + 4, none⟩ = some (.slice A5 y.f4.length c5_) ∧ W1.cell? ⟨ad.block, ad.off + 5, none⟩ = some (.int .i64 y.f5) := by
        intro W1 V1 hs hb
        have hbk := hs.blk (World.alloc_heap_new W _) hnf
        exact ⟨(blk_cell hbk 1).trans rfl, (blk_cell hbk 3).trans rfl, (blk_cell hbk 4).trans rfl, cell_up hb g0, cell_up hb g1, cell_up hb g2, cell_up hb g3, cell_up hb g4, cell_up hb g5⟩
      have HSS := Aside0.mk (@hSS)
      clear hSS hnf g0 g1 g2 g3 g4 g5
      have hO1 := HO.out.up (below_alloc (Below.refl W.heap.size W) (.cells #[.int .i64 5, .string f1, .int .i16 f2, .int .i64 f3, .slice (some ad) f4.length c4, .int .i64 f5] 56))
      obtain ⟨s0, s1, s2, s3, s4, s5, s6, s7, s8⟩ := HSS.out (Step.refl _ b V) hO1.B
      have HO1 := Aside0.mk hO1
      clear hO1
      go_enter Try.func43, Try.ntmps43
      go_wp2
      go_region_held3 (fun w' => w'.cell? ⟨W.heap.size, 1, none⟩ = some (.string f1) ∧ w'.cell? ⟨W.heap.size, 3, none⟩ = some (.int .i64 f3) ∧ w'.cell? ⟨W.heap.size, 4, none⟩ = some (.slice (some ad) f4.length c4) ∧ w'.cell? ad = some (.int .i64 y.f0) ∧ w'.cell? ⟨ad.block, ad.off + 1, none⟩ = some (.string y.f1) ∧ w'.cell? ⟨ad.block, ad.off + 2, none⟩ = some (.int .i16 y.f2) ∧ w'.cell? ⟨ad.block, ad.off + 3, none⟩ = some (.int .i64 y.f3) ∧ w'.cell? ⟨ad.block, ad.off + 4, none⟩ = some (.slice A5 y.f4.length c5_) ∧ w'.cell? ⟨ad.block, ad.off + 5, none⟩ = some (.int .i64 y.f5)) (go_keep)
        (first
          | (go_at_call 43; refine (IH.out (HO1.out.up (below_drew1 (Below.refl _ _))) hl5 HC5.out H1.out).mono ?_; rintro e W1 ⟨rfl, S1, hO2, hS2⟩; obtain ⟨z0, z1, z2, z3, z4, z5, z6, z7, z8⟩ := HSS.out ((Step.of_below (below_drew1 (Below.refl _ _)) b V).trans hS2) hO2.B; have HO2 := Aside0.mk hO2; have HS2 := Aside0.mk hS2; clear hO2 hS2)
          | (go_at_call 65; refine (word_Unary.calls _ _ q1 q2 _ hq).mono ?_; rintro e W2 ⟨rfl, hD⟩; replace z0 := cell_up hD.below z0; replace z1 := cell_up hD.below z1; replace z2 := cell_up hD.below z2; replace z3 := cell_up hD.below z3; replace z4 := cell_up hD.below z4; replace z5 := cell_up hD.below z5; replace z6 := cell_up hD.below z6; replace z7 := cell_up hD.below z7; replace z8 := cell_up hD.below z8; have hO3 := HO2.out.up hD.below; have HD := Aside0.mk hD; have HO3 := Aside0.mk hO3; clear hD hO3))
      go_wp2
      go_ret
      exact ⟨rfl, S1, HO3.out, (Step.of_below (below_alloc (Below.refl _ _) _) b V).trans (((Step.of_below (below_drew1 (Below.refl _ _)) b V).trans HS2.out).trans (Step.of_below HD.out.below b _))⟩
    rw [if_neg c5] at h
    by_cases c6 : f0 = 6
    · rw [if_pos c6] at h
      have d : 1 < f4.length := Decidable.byContradiction fun d => by rw [if_neg d] at h; cases h
      rw [if_pos d] at h
      subst c6
      replace h := Option.bind_eq_some_iff.1 h; obtain ⟨⟨r, M1⟩, h1, h⟩ := h
      obtain ⟨ad, A5, c5_, rfl, g0, g1, g2, g3, g4, g5, hl5, hC5⟩ := at_T56 HC.out 0 (by omega) (by omega)
      simp only [show (0 : Int).toNat * 6 = 0 from rfl, aadd0, show rd_T56 f4 0 = f4.getD 0 z56 from rfl] at g0 g1 g2 g3 g4 g5 hl5 hC5
      have hsame := evalE_same k h1
      simp only at h1 h
      generalize f4.getD 0 z56 = y at g0 g1 g2 g3 g4 g5 hl5 hC5 h1
      obtain ⟨ad_, A6, c6_, ea, k0, k1, k2, k3, k4, k5, hl6, hC6⟩ := at_T56 HC.out 1 (by omega) (by omega)
      cases ea
      simp only [show (1 : Int).toNat * 6 = 6 from rfl, aadd6, show rd_T56 f4 1 = f4.getD 1 z56 from rfl] at k0 k1 k2 k3 k4 k5 hl6 hC6
      have dI : (1 : Int) < (f4.length : Int) := by omega
      generalize f4.getD 1 z56 = y1 at k0 k1 k2 k3 k4 k5 hl6 hC6 h
      have HC6 := Aside0.mk hC6
      have HC5 := Aside0.mk hC5
      have H1 := Aside0.mk h1
      clear hC5 hC6 h1
      have hnf : ¬ Foot b V W.heap.size := fun hf => Nat.lt_irrefl _ (HO.out.m.foot_lt hf).2
      have hSS : ∀ {W1 : World} {V1 : VV}, Step (W.alloc (.cells #[.int .i64 6, .string f1, .int .i16 f2, .int .i64 f3, .slice (some ad) f4.length c4, .int .i64 f5] 56)) W1 b V V1 → Below w0.heap.size w0 W1 →
          W1.cell? ⟨W.heap.size, 1, none⟩ = some (.string f1) ∧ W1.cell? ⟨W.heap.size, 3, none⟩ = some (.int .i64 f3) ∧ W1.cell? ⟨W.heap.size, 4, none⟩ = some (.slice (some ad) f4.length c4) ∧ W1.cell? ad = some (.int .i64 y.f0) ∧ W1.cell? ⟨ad.block, ad.off + 1, none⟩ = some (.string y.f1) ∧ W1.cell? ⟨ad.block, ad.off + 2, none⟩ = some (.int .i16 y.f2) ∧ W1.cell? ⟨ad.block, ad.off + 3, none⟩ = some (.int .i64 y.f3) ∧ W1.cell? ⟨ad.block, ad.off + 4, none⟩ = some (.slice A5 y.f4.length c5_) ∧ W1.cell? ⟨ad.block, ad.off + 5, none⟩ = some (.int .i64 y.f5) ∧ W1.cell? ⟨ad.block, ad.off + 6, none⟩ = some (.int .i64 y1.f0) ∧ W1.cell? ⟨ad.block, ad.off + 6 + 1, none⟩ = some (.string y1.f1) ∧ W1.cell? ⟨ad.block, ad.off + 6 + 2, none⟩ = some (.int .i16 y1.f2) ∧ W1.cell? ⟨ad.block, ad.off + 6 + 3, none⟩ = some (.int .i64 y1.f3) ∧ W1.cell? ⟨ad.block, ad.off + 6 + 4, none⟩ = some (.slice A6 y1.f4.length c6_) ∧ W1.cell? ⟨ad.block, ad.off + 6 + 5, none⟩ = some (.int .i64 y1.f5) := by
        intro W1 V1 hs hb
        have hbk := hs.blk (World.alloc_heap_new W _) hnf
        exact ⟨(blk_cell hbk 1).trans rfl, (blk_cell hbk 3).trans rfl, (blk_cell hbk 4).trans rfl, cell_up hb g0, cell_up hb g1, cell_up hb g2, cell_up hb g3, cell_up hb g4, cell_up hb g5, cell_up hb k0, cell_up hb k1, cell_up hb k2, cell_up hb k3, cell_up hb k4, cell_up hb k5⟩
      have HSS := Aside0.mk (@hSS)
      clear hSS hnf g0 g1 g2 g3 g4 g5 k0 k1 k2 k3 k4 k5
      have hO1 := HO.out.up (below_alloc (Below.refl W.heap.size W) (.cells #[.int .i64 6, .string f1, .int .i16 f2, .int .i64 f3, .slice (some ad) f4.length c4, .int .i64 f5] 56))
      obtain ⟨s0, s1, s2, s3, s4, s5, s6, s7, s8, s9, s10, s11, s12, s13, s14⟩ := HSS.out (Step.refl _ b V) hO1.B
      have HO1 := Aside0.mk hO1
      clear hO1
      by_cases o14 : f3 = 14
      · rw [if_pos o14] at h
        subst o14
        by_cases z : r = 0
        · rw [if_pos z] at h
          subst z
          obtain ⟨rfl, rfl⟩ := Prod.mk.inj (Option.some.inj h)
          go_enter Try.func43, Try.ntmps43
          go_wp2_with (first
            | (go_at_call 43; refine (IH.out HO1.out hl5 HC5.out H1.out).mono ?_; rintro e W1 ⟨rfl, S1, hO2, hS2⟩; clear s0 s1 s2 s3 s4 s5 s6 s7 s8 s9 s10 s11 s12 s13 s14; obtain ⟨z0, z1, z2, z3, z4, z5, z6, z7, z8, z9, z10, z11, z12, z13, z14⟩ := HSS.out hS2 hO2.B; have HO2 := Aside0.mk hO2; have HS2 := Aside0.mk hS2; clear hO2 hS2)
            | (go_at_call 66; refine (interp_truth.calls _ 0 _ rfl).mono ?_; rintro e W3 ⟨rfl, hD⟩; have HD := Aside0.mk hD; clear hD))
          go_ret
          exact ⟨rfl, S1, HO2.out.up HD.out.below, ((Step.of_below (below_alloc (Below.refl _ _) _) b V).trans HS2.out).trans (Step.of_below HD.out.below b _)⟩
        · rw [if_neg z] at h
          have zb : (r != 0) = true := bne_iff_ne.mpr z
          replace h := Option.bind_eq_some_iff.1 h; obtain ⟨⟨r2, M2⟩, h2, h⟩ := h
          obtain ⟨hv, rfl⟩ := Prod.mk.inj (Option.some.inj h)
          have H2 := Aside0.mk h2
          have ht : interp_truth.f (r2 != 0) = some v := by
            rw [← hv]
            unfold interp_truth.f
            by_cases hr2 : r2 = 0
            · subst hr2; rfl
            · rw [if_pos (bne_iff_ne.mpr hr2), if_neg hr2]
          have HT := Aside0.mk ht
          clear h2 ht h hv
          go_enter Try.func43, Try.ntmps43
          go_wp2_with (first
            | (go_at_call 43; refine (IH.out HO2.out hl6 HC6.out H2.out).mono ?_; rintro e W2 ⟨rfl, S2, hO3, hS3⟩; have HO3 := Aside0.mk hO3; have HS3 := Aside0.mk hS3; clear hO3 hS3)
            | (go_at_call 43; refine (IH.out HO1.out hl5 HC5.out H1.out).mono ?_; rintro e W1 ⟨rfl, S1, hO2, hS2⟩; clear s0 s1 s2 s3 s4 s5 s6 s7 s8 s9 s10 s11 s12 s13 s14; obtain ⟨z0, z1, z2, z3, z4, z5, z6, z7, z8, z9, z10, z11, z12, z13, z14⟩ := HSS.out hS2 hO2.B; have HO2 := Aside0.mk hO2; have HS2 := Aside0.mk hS2; clear hO2 hS2)
            | (go_at_call 66; refine (interp_truth.calls _ _ _ HT.out).mono ?_; rintro e W3 ⟨rfl, hD⟩; have HD := Aside0.mk hD; clear hD))
          go_ret
          exact ⟨rfl, S2, HO3.out.up HD.out.below, (((Step.of_below (below_alloc (Below.refl _ _) _) b V).trans HS2.out).trans HS3.out).trans (Step.of_below HD.out.below b _)⟩
      rw [if_neg o14] at h
      by_cases o15 : f3 = 15
      · rw [if_pos o15] at h
        subst o15
        by_cases z : r = 0
        · rw [if_pos z] at h
          subst z
          replace h := Option.bind_eq_some_iff.1 h; obtain ⟨⟨r2, M2⟩, h2, h⟩ := h
          obtain ⟨hv, rfl⟩ := Prod.mk.inj (Option.some.inj h)
          have H2 := Aside0.mk h2
          have ht : interp_truth.f (r2 != 0) = some v := by
            rw [← hv]
            unfold interp_truth.f
            by_cases hr2 : r2 = 0
            · subst hr2; rfl
            · rw [if_pos (bne_iff_ne.mpr hr2), if_neg hr2]
          have HT := Aside0.mk ht
          clear h2 ht h hv
          go_enter Try.func43, Try.ntmps43
          go_wp2_with (first
            | (go_at_call 43; refine (IH.out HO2.out hl6 HC6.out H2.out).mono ?_; rintro e W2 ⟨rfl, S2, hO3, hS3⟩; have HO3 := Aside0.mk hO3; have HS3 := Aside0.mk hS3; clear hO3 hS3)
            | (go_at_call 43; refine (IH.out HO1.out hl5 HC5.out H1.out).mono ?_; rintro e W1 ⟨rfl, S1, hO2, hS2⟩; clear s0 s1 s2 s3 s4 s5 s6 s7 s8 s9 s10 s11 s12 s13 s14; obtain ⟨z0, z1, z2, z3, z4, z5, z6, z7, z8, z9, z10, z11, z12, z13, z14⟩ := HSS.out hS2 hO2.B; have HO2 := Aside0.mk hO2; have HS2 := Aside0.mk hS2; clear hO2 hS2)
            | (go_at_call 66; refine (interp_truth.calls _ _ _ HT.out).mono ?_; rintro e W3 ⟨rfl, hD⟩; have HD := Aside0.mk hD; clear hD))
          go_ret
          exact ⟨rfl, S2, HO3.out.up HD.out.below, (((Step.of_below (below_alloc (Below.refl _ _) _) b V).trans HS2.out).trans HS3.out).trans (Step.of_below HD.out.below b _)⟩
        · rw [if_neg z] at h
          have zb : (r != 0) = true := bne_iff_ne.mpr z
          obtain ⟨rfl, rfl⟩ := Prod.mk.inj (Option.some.inj h)
          go_enter Try.func43, Try.ntmps43
          go_wp2_with (first
            | (go_at_call 43; refine (IH.out HO1.out hl5 HC5.out H1.out).mono ?_; rintro e W1 ⟨rfl, S1, hO2, hS2⟩; clear s0 s1 s2 s3 s4 s5 s6 s7 s8 s9 s10 s11 s12 s13 s14; obtain ⟨z0, z1, z2, z3, z4, z5, z6, z7, z8, z9, z10, z11, z12, z13, z14⟩ := HSS.out hS2 hO2.B; have HO2 := Aside0.mk hO2; have HS2 := Aside0.mk hS2; clear hO2 hS2)
            | (go_at_call 66; refine (interp_truth.calls _ 1 _ rfl).mono ?_; rintro e W3 ⟨rfl, hD⟩; have HD := Aside0.mk hD; clear hD))
          go_ret
          exact ⟨rfl, S1, HO2.out.up HD.out.below, ((Step.of_below (below_alloc (Below.refl _ _) _) b V).trans HS2.out).trans (Step.of_below HD.out.below b _)⟩
      rw [if_neg o15] at h
      have o14b : (f3 == 14) = false := beq_eq_false_iff_ne.mpr o14
      have o15b : (f3 == 15) = false := beq_eq_false_iff_ne.mpr o15
      replace h := Option.bind_eq_some_iff.1 h; obtain ⟨⟨r2, M2⟩, h2, h⟩ := h
      replace h := Option.bind_eq_some_iff.1 h; obtain ⟨⟨q1, q2⟩, hq, h⟩ := h
      obtain ⟨rfl, rfl⟩ := Prod.mk.inj (Option.some.inj h)
      have H2 := Aside0.mk h2
      have HQ := Aside0.mk hq
      clear h2 hq h
      go_enter Try.func43, Try.ntmps43
      go_wp2_with (first
        | (go_at_call 43; refine (IH.out HO1.out hl5 HC5.out H1.out).mono ?_; rintro e W1 ⟨rfl, S1, hO2, hS2⟩; clear s0 s1 s2 s3 s4 s5 s6 s7 s8 s9 s10 s11 s12 s13 s14; obtain ⟨z0, z1, z2, z3, z4, z5, z6, z7, z8, z9, z10, z11, z12, z13, z14⟩ := HSS.out hS2 hO2.B; have HO2 := Aside0.mk hO2; have HS2 := Aside0.mk hS2; clear hO2 hS2))
      go_region_held3 (fun w' => w'.cell? ⟨W.heap.size, 1, none⟩ = some (.string f1) ∧ w'.cell? ⟨W.heap.size, 3, none⟩ = some (.int .i64 f3) ∧ w'.cell? ⟨W.heap.size, 4, none⟩ = some (.slice (some ad) f4.length c4) ∧ w'.cell? ad = some (.int .i64 y.f0) ∧ w'.cell? ⟨ad.block, ad.off + 1, none⟩ = some (.string y.f1) ∧ w'.cell? ⟨ad.block, ad.off + 2, none⟩ = some (.int .i16 y.f2) ∧ w'.cell? ⟨ad.block, ad.off + 3, none⟩ = some (.int .i64 y.f3) ∧ w'.cell? ⟨ad.block, ad.off + 4, none⟩ = some (.slice A5 y.f4.length c5_) ∧ w'.cell? ⟨ad.block, ad.off + 5, none⟩ = some (.int .i64 y.f5) ∧ w'.cell? ⟨ad.block, ad.off + 6, none⟩ = some (.int .i64 y1.f0) ∧ w'.cell? ⟨ad.block, ad.off + 6 + 1, none⟩ = some (.string y1.f1) ∧ w'.cell? ⟨ad.block, ad.off + 6 + 2, none⟩ = some (.int .i16 y1.f2) ∧ w'.cell? ⟨ad.block, ad.off + 6 + 3, none⟩ = some (.int .i64 y1.f3) ∧ w'.cell? ⟨ad.block, ad.off + 6 + 4, none⟩ = some (.slice A6 y1.f4.length c6_) ∧ w'.cell? ⟨ad.block, ad.off + 6 + 5, none⟩ = some (.int .i64 y1.f5)) (go_keep)
        (first
          | (go_at_call 43; refine (IH.out (HO2.out.up (below_drew1 (Below.refl _ _))) hl6 HC6.out H2.out).mono ?_; rintro e W2 ⟨rfl, S2, hO3, hS3⟩; obtain ⟨y_0, y_1, y_2, y_3, y_4, y_5, y_6, y_7, y_8, y_9, y_10, y_11, y_12, y_13, y_14⟩ := HSS.out (HS2.out.trans ((Step.of_below (below_drew1 (Below.refl _ _)) b _).trans hS3)) hO3.B; have HO3 := Aside0.mk hO3; have HS3 := Aside0.mk hS3; clear hO3 hS3)
          | (go_at_call 67; refine (word_Binary.calls _ _ _ q1 q2 _ HQ.out).mono ?_; rintro e W3 ⟨rfl, hD⟩; replace y_0 := cell_up hD.below y_0; replace y_1 := cell_up hD.below y_1; replace y_2 := cell_up hD.below y_2; replace y_3 := cell_up hD.below y_3; replace y_4 := cell_up hD.below y_4; replace y_5 := cell_up hD.below y_5; replace y_6 := cell_up hD.below y_6; replace y_7 := cell_up hD.below y_7; replace y_8 := cell_up hD.below y_8; replace y_9 := cell_up hD.below y_9; replace y_10 := cell_up hD.below y_10; replace y_11 := cell_up hD.below y_11; replace y_12 := cell_up hD.below y_12; replace y_13 := cell_up hD.below y_13; replace y_14 := cell_up hD.below y_14; have HD := Aside0.mk hD; clear hD))
      go_wp2
      go_ret
      exact ⟨rfl, S2, HO3.out.up HD.out.below, (((Step.of_below (below_alloc (Below.refl _ _) _) b V).trans HS2.out).trans ((Step.of_below (below_drew1 (Below.refl _ _)) b _).trans HS3.out)).trans (Step.of_below HD.out.below b _)⟩
    · rw [if_neg c6] at h; cases h
end Go.Proofs.Yteonloecenodbaa.PX
/- Stores into a local variable, into an element. -/
namespace Go.Proofs.Yteonloecenodbaa.PX
open Go.RowKit Go.Shelf Go.Proofs.YteonloecenodbaaW.PrintWords Go.Proofs.YteonloecenodbaaW.PrintLast Go.Proofs.YteonloecenodbaaW.PrintMore
set_option linter.unusedVariables false
theorem add_norm (g o n : Nat) : (⟨g, o, none⟩ : Addr).add n = ⟨g, o + n, none⟩ := by
  unfold Addr.add
  split
  · rename_i h; subst h; rfl
  · rfl
section
variable {W : World} {b : Nat} {V : VV} {tm tl : Nat} {p : PV} {ex : List Value} {n0 : Nat} {M : St}
theorem Mac.put_elem (h : Mac tm tl p ex W n0 b V M) {q : Nat × Nat} {ad : Addr} {c : Nat} (hg : V.gs[q.1]? = some ⟨some ad, (M.globals.getD q.1 []).length, c⟩) (h1 : q.1 < M.globals.length) (h2 : q.2 < (M.globals.getD q.1 []).length) (x : Int) :
    Mac tm tl p ex (W.setCell (ad.add q.2) (.int .i16 x)) n0 b V (putE M q x) ∧ Step W (W.setCell (ad.add q.2) (.int .i16 x)) b V V ∧ W.frozen? (ad.add q.2) = false ∧ n0 ≤ (ad.add q.2).block := by
  have hx : M.globals[q.1]? = some (M.globals.getD q.1 []) := by rw [List.getD_eq_getElem?_getD, List.getElem?_eq_getElem h1]; rfl
  have hq := h.gr.row _ _ _ hg hx
  obtain ⟨g, o, cap, e, hb, hlt, _⟩ := Kd.Q_form hq.q (by omega)
  simp only [Sl.v, Value.slice.injEq] at e
  obtain ⟨e1, _, e3⟩ := e
  obtain rfl := Option.some.inj e1
  subst e3
  have hq2 : (Kd.scalar (Value.int .i16) (fun _ => rfl)).Q 29 W n0 (fun _ => True) (.slice (some ⟨g, o, none⟩) (M.globals.getD q.1 []).length c) (M.globals.getD q.1 []) := hq.q
  have hi : ((q.2 : Nat) : Int) < ((M.globals.getD q.1 []).length : Int) := Int.ofNat_lt.2 h2
  obtain ⟨hp, hgr⟩ := Kd.Q_putg hq2 (q.2 : Int) (by omega) (by exact hi) x
  obtain ⟨_, hf⟩ := Kd.Q_cell 0 hq2 (q.2 : Int) (by omega) (by exact hi)
  rw [Int.toNat_natCast] at hp hgr hf
  rw [add_norm]
  have ht : Turn W (W.setCell ⟨g, o + q.2, none⟩ (.int .i16 x)) (fun k => (Sl.v ⟨some ⟨g, o, none⟩, (M.globals.getD q.1 []).length, c⟩).ownBlock = some k) := fun k hk hn => hgr.block k hk (fun e => hn e.symm)
  refine ⟨h.turn_g q.1 hg ht (QQ.mk rfl hp) rfl, Step.of_turn ht hgr.size (fun k hk => ⟨.inr (.inr (.inr (.inr (.inr (.inr (.inr ⟨_, List.mem_append_left _ (List.mem_of_getElem? hg), hk⟩))))))⟩) (fun _ _ hf => hf), hf, hb⟩
theorem Mac.put_local (h : Mac tm tl p ex W n0 b V M) {i : Nat} {ad : Addr} {c : Nat} (hL : V.L = .slice (some ad) M.locals.length c) (hi : i < M.locals.length) (x : Int) :
    Mac tm tl p ex (W.setCell ⟨(ad.add (i * 2)).block, (ad.add (i * 2)).off + 1, none⟩ (.int .i16 x)) n0 b V { M with locals := M.locals.set i ((M.locals.getD i zL).1, x) } ∧ Step W (W.setCell ⟨(ad.add (i * 2)).block, (ad.add (i * 2)).off + 1, none⟩ (.int .i16 x)) b V V ∧
      W.frozen? ⟨(ad.add (i * 2)).block, (ad.add (i * 2)).off + 1, none⟩ = false ∧ n0 ≤ (ad.add (i * 2)).block := by
  have hq := h.L
  rw [hL] at hq
  obtain ⟨g, o, cap, e, hb, hlt, _⟩ := Kd.Q_form hq.q (by omega)
  simp only [Value.slice.injEq] at e
  obtain ⟨e1, _, e3⟩ := e
  obtain rfl := Option.some.inj e1
  subst e3
  have hi' : ((i : Nat) : Int) < ((M.locals.length : Nat) : Int) := Int.ofNat_lt.2 hi
  obtain ⟨cs, hcl, hM, hcc, hf⟩ := Kd.Q_elem hq.q zL (i : Int) (by omega) hi'
  rw [Int.toNat_natCast] at hM hcc hf
  obtain ⟨_, _, rfl, rfl, rfl⟩ := hM
  have hs := Kd.Q_seg hq.q (i : Int) (by omega) hi' (c := [.string (M.locals.getD i zL).1, .int .i16 (M.locals.getD i zL).2]) (seg := [.int .i16 x]) (j := 1) (okp := fun _ => False) (x' := ((M.locals.getD i zL).1, x)) rfl (by rw [Int.toNat_natCast]; exact hcc) (Nat.le_refl 2) ⟨[.string (M.locals.getD i zL).1], [.int .i16 x], rfl, rfl, rfl⟩ (fun _ hk => hk.elim)
  rw [Int.toNat_natCast] at hs
  have hs1 : kLoc.Q tl (W.setCell ⟨g, o + i * 2 + 1, none⟩ (.int .i16 x)) n0 (fun _ => True) (.slice (some ⟨g, o, none⟩) M.locals.length c) (M.locals.set i ((M.locals.getD i zL).1, x)) := hs.1
  have hgr : W.grownBy (W.setCell ⟨g, o + i * 2 + 1, none⟩ (.int .i16 x)) (some g) := hs.2
  have hf1 : W.frozen? ⟨g, o + i * 2 + 1, none⟩ = false := hf 1
  rw [add_norm]
  have hbl : g ≠ b := fun e => hq.neb h.blk (Ne.symm h.tt.2.2.2.2.1) (by rw [← e]; rfl)
  have ht : Turn W (W.setCell ⟨g, o + i * 2 + 1, none⟩ (.int .i16 x)) (fun k => k = b ∨ V.L.ownBlock = some k) := fun k hk hn => hgr.block k hk (fun e => hn (.inr (by rw [hL]; exact e.symm)))
  refine ⟨h.turn_L ht (QQ.mk rfl (hL.symm ▸ hs1)) rfl rfl ((Below.heap_setCell W ⟨g, o + i * 2 + 1, none⟩ _ b (Ne.symm hbl)).trans h.blk), Step.of_turn ht hgr.size (fun k hk => ?_) (fun _ _ hf => hf), hf1, hb⟩
  rcases hk with rfl | hk
  · exact ⟨.inl rfl⟩
  · exact ⟨.inr (.inr (.inr (.inr (.inr (.inr (.inl hk))))))⟩
theorem Mac.put_chan (h : Mac tm tl p ex W n0 b V M) {i N c : Nat} {s s1 : Sl} {ad : Addr} {zs : List Int} {w5 : World} (hs : V.cs[i]? = some s) (hC : V.C = .slice (some ad) N c) (hq : kI.Q 29 w5 n0 (fun _ => True) s1.v zs) (hg : W.grownBy w5 s.v.ownBlock) (hat : Lies W s.v s1.v) :
    Mac tm tl p ex (w5.setCell (ad.add i) s1.v) n0 b { V with cs := V.cs.set i s1 } { M with channels := M.channels.set i zs } ∧ Step W (w5.setCell (ad.add i) s1.v) b V { V with cs := V.cs.set i s1 } ∧ w5.frozen? (ad.add i) = false ∧ n0 ≤ (ad.add i).block := by
  have hlt := (List.getElem?_eq_some_iff.1 hs).1
  obtain ⟨xs0, hx0⟩ : ∃ xs, M.channels[i]? = some xs := ⟨_, List.getElem?_eq_getElem (h.cr.len ▸ hlt)⟩
  have hsr := h.cr.row i s xs0 hs hx0
  have hCQ : QQ kSl 33 w5 n0 V.C V.cs := h.C.step (fun k hk => hg.block k (h.C.lt k hk) (fun e => h.C.ne hsr (by decide) k hk e.symm))
  rw [hC] at hCQ
  obtain ⟨g, o, cap, e, hb, hlt5, cells, hcells⟩ := Kd.Q_form hCQ.q (by omega)
  simp only [Value.slice.injEq] at e
  obtain ⟨e1, e2, e3⟩ := e
  obtain rfl := Option.some.inj e1
  subst e2 e3
  have hq2 : (Kd.scalar Sl.v (fun _ => rfl)).Q 33 w5 n0 (fun _ => True) (.slice (some ⟨g, o, none⟩) V.cs.length c) V.cs := hCQ.q
  have hi : ((i : Nat) : Int) < ((V.cs.length : Nat) : Int) := Int.ofNat_lt.2 hlt
  obtain ⟨hp, hgr⟩ := Kd.Q_putg hq2 (i : Int) (by omega) (by exact hi) s1
  obtain ⟨_, hf⟩ := Kd.Q_cell ⟨none, 0, 0⟩ hq2 (i : Int) (by omega) (by exact hi)
  rw [Int.toNat_natCast] at hp hgr hf
  rw [add_norm]
  have ht : Turn W (w5.setCell ⟨g, o + i, none⟩ s1.v) (fun k => V.C.ownBlock = some k ∨ s.v.ownBlock = some k) := fun k hk hn => (hgr.block k (Nat.lt_of_lt_of_le hk hg.size) (fun e => hn (.inl (by rw [hC]; exact e.symm)))).trans (hg.block k hk (fun e => hn (.inr e.symm)))
  have hq0 : QQ kI 29 w5 n0 s1.v zs := QQ.mk rfl hq
  have hq1 : QQ kI 29 (w5.setCell ⟨g, o + i, none⟩ s1.v) n0 s1.v zs := hq0.step (fun k hk => Below.heap_setCell w5 ⟨g, o + i, none⟩ s1.v k (fun e => hq0.neb hcells (by decide) (by rw [hk, e])))
  refine ⟨h.turn_C i hs ht hq1 (by rw [hC]; exact QQ.mk rfl hp) hat rfl rfl, Step.of_turn ht (Nat.le_trans hg.size hgr.size) (fun k hk => ?_) (foot_C hs hat), hf, hb⟩
  rcases hk with hk | hk
  · exact ⟨.inr (.inr (.inl hk))⟩
  · exact ⟨.inr (.inr (.inr (.inr (.inr (.inr (.inr ⟨s, List.mem_append_right _ (List.mem_of_getElem? hs), hk⟩))))))⟩
end
end Go.Proofs.Yteonloecenodbaa.PX
/- (*interp.machine).assign. -/
namespace Go.Proofs.Yteonloecenodbaa.PX
open Go.RowKit Go.Shelf Go.Proofs.YteonloecenodbaaW.PrintWords Go.Proofs.YteonloecenodbaaW.PrintLast Go.Proofs.YteonloecenodbaaW.PrintMore
set_option linter.unusedVariables false
set_option maxRecDepth 100000 in
set_option maxHeartbeats 4000000 in
theorem assign_calls {w0 W : World} {p : PV} {E : Env} {AR : Option Addr} {cR b : Nat} {V : VV} {M M' : St} (hO : Ok w0 p E AR cR W b V M) (s : ByteArray) (v : Int) (hv : assignE E M s v = some M') :
    Calls Try.prog 100 #[.pointer (some ⟨b, 0, none⟩), .string s, .int .i16 v] W fun e W' => e = .returned (.tuple #[]) ∧ Ok w0 p E AR cR W' b V M' ∧ Step W W' b V V := by
  have HF := Aside0.mk (find_calls hO.m hO.len s)
  have HO := Aside0.mk hO
  clear hO
  unfold assignE at hv
  cases hf : findIx M.locals s M.locals.length with
  | some i =>
    rw [hf] at hv
    obtain rfl := Option.some.inj hv
    go_enter Try.func100, Try.ntmps100
    go_wp2_with (first
      | (go_at_call 87; refine HF.out.mono ?_; rintro e W1 ⟨pr, rfl, hB1, hFA⟩; unfold FoundAt at hFA; rw [hf] at hFA; obtain ⟨hi, ad, c, hV, rfl⟩ := hFA; have hO1 := HO.out.up hB1; have hl := loc_at (hV ▸ hO1.m.L) (i : Int) (by omega) (by omega); obtain ⟨ad', e', hx0, hx1⟩ := hl; cases e'; simp only [Int.toNat_natCast] at hx0 hx1; have hpl := hO1.m.put_local hV hi v; have hfz := hpl.2.2.1; have HPL := Aside0.mk hpl; have HO1 := Aside0.mk hO1; have HB1 := Aside0.mk hB1; clear hpl hO1 hB1 hV; generalize hxx : M.locals.getD i zL = x at hx0 hx1))
    refine bodyPost_ret (results_none rfl _ _ _) rfl ?_
    exact ⟨rfl, HO1.out.next HPL.out.1 (HO1.out.B.setCell (p := ⟨(ad.add (i * 2)).block, (ad.add (i * 2)).off + 1, none⟩) HPL.out.2.2.2 _) (by simpa using HO1.out.len) rfl, (Step.of_below HB1.out b V).trans HPL.out.2.1⟩
  | none =>
    rw [hf] at hv
    replace hv := Option.bind_eq_some_iff.1 hv
    obtain ⟨⟨r1, r2, r3⟩, hr, hv⟩ := hv
    simp only at hv
    split at hv
    case isFalse => cases hv
    rename_i hi
    obtain ⟨rfl, hi0, hi1, hi2⟩ := hi
    obtain rfl := Option.some.inj hv
    obtain ⟨v0, v1, v2, v3, v4, v5⟩ := p
    obtain ⟨AG, cG, hG, _⟩ := Kd.Q_slice HO.out.m.G.q
    have hgl := HO.out.m.gr.len
    go_enter Try.func100, Try.ntmps100
    go_wp2_with (first
      | (go_at_call 87; refine HF.out.mono ?_; rintro e W1 ⟨pr, rfl, hB1, hFA⟩; unfold FoundAt at hFA; rw [hf] at hFA; subst hFA; have hO1 := HO.out.up hB1; have d0 := hO1.m.cell 0 rfl; have d1 := hO1.m.cell 1 rfl; have d2 := hO1.m.cell 2 rfl; have d3 := hO1.m.cell 3 rfl; have d4 := hO1.m.cell 4 rfl; have d5 := hO1.m.cell 5 rfl; have HO1 := Aside0.mk hO1; have HB1 := Aside0.mk hB1; clear hO1 hB1)
      | (go_at_call 74; refine (HO1.out.P.look HO1.out.B hr).mono ?_; rintro e W2 ⟨rfl, hB2⟩; clear d0 d1 d2 d3 d4 d5; have hO2 := HO1.out.up hB2; have d6 := hO2.m.cell 6 rfl; rw [hG] at d6; obtain ⟨ad, rfl, hn, A1, c1, hs, hx0, hq⟩ := row_of (hG ▸ hO2.m.G) hO2.m.gr r2 hi0 hi1; obtain ⟨ad1, rfl, hy⟩ := int_at hq 0 (by omega) (by omega); rw [show (0 : Int).toNat = 0 from rfl, aadd0] at hy; rw [hgl] at d6; have hpe := hO2.m.put_elem (q := (r2.toNat, 0)) hs (by show r2.toNat < M.globals.length; omega) hi2 v; simp only [aadd0] at hpe; have hfz := hpe.2.2.1; have HPE := Aside0.mk hpe; have HO2 := Aside0.mk hO2; have HB2 := Aside0.mk hB2; generalize hrow : M.globals.getD r2.toNat [] = row at hx0 hy hi2; generalize hyy : row.getD 0 0 = y at hy; clear hq hs hpe hO2 hB2))
    go_end0
    exact ⟨rfl, HO2.out.next HPE.out.1 (HO2.out.B.setCell (p := ad1) HPE.out.2.2.2 _) HO2.out.len rfl, ((Step.of_below HB1.out b V).trans (Step.of_below HB2.out b V)).trans HPE.out.2.1⟩
end Go.Proofs.Yteonloecenodbaa.PX
