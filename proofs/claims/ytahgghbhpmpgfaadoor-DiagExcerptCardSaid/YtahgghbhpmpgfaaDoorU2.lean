/- Parts of the proof, merged in build order: PXx7, MExcerpt, MLawE, PureDiagExcerpt, Handed. -/
import Derived.Test.YtahgghbhpmpgfaaDoorU1
import Derived.Handed
import Derived.SevenTiedAt
import Derived.ProofKit
import Derived.ChangeOld
-- Written by a program of this session (wip/xprint.py, over the kit's print tool). Lean checks it.
namespace Go.Proofs.YtahgghbhpmpgfaaDoor.PX
open Go.RowKit Go.Proofs.YtahgghbhpmpgfaaDoorW.PrintWords Go.Proofs.YtahgghbhpmpgfaaDoorW.PrintLast Go.Proofs.YtahgghbhpmpgfaaDoorW.PrintMore
attribute [local go_sem] max2_int min2_int max_two min_two max_three min_three max_four min_four   -- for this text's walks alone
set_option linter.unusedVariables false
set_option linter.unusedSimpArgs false

/-! ### stringslite_Cut: function 52 -/
def stringslite_Cut.f (a0 : ByteArray) (a1 : ByteArray) : Option (ByteArray × ByteArray × Bool) := (stringslite_Index.f a0 a1).bind fun t159 => (if t159 ≥ 0 then (if 0 ≤ t159 then (if t159 ≤ (a0.size : Int) then (if 0 ≤ (wrap64 (t159 + (a1.size : Int))) then (if (wrap64 (t159 + (a1.size : Int))) ≤ (a0.size : Int) then (some (a0.extract 0 (t159 : Int).toNat, a0.extract ((wrap64 (t159 + (a1.size : Int))) : Int).toNat a0.size, true)) else (none)) else (none)) else (none)) else (none)) else (some (a0, (⟨#[]⟩ : ByteArray), false)))
set_option maxHeartbeats 8000000 in
set_option maxRecDepth 100000 in
theorem stringslite_Cut.calls (a0 : ByteArray) (a1 : ByteArray) (r1 : ByteArray) (r2 : ByteArray) (r3 : Bool) (w : World) (h : stringslite_Cut.f a0 a1 = some (r1, r2, r3)) :
    Calls Tryd.prog 52 #[.string a0, .string a1] w fun e w' => e = .returned (.tuple #[.string r1, .string r2, .bool r3]) ∧ Drawn0 w w' := by
  have H : ((stringslite_Index.f a0 a1).bind fun t159 => (if t159 ≥ 0 then (if 0 ≤ t159 then (if t159 ≤ (a0.size : Int) then (if 0 ≤ (wrap64 (t159 + (a1.size : Int))) then (if (wrap64 (t159 + (a1.size : Int))) ≤ (a0.size : Int) then (some (a0.extract 0 (t159 : Int).toNat, a0.extract ((wrap64 (t159 + (a1.size : Int))) : Int).toNat a0.size, true)) else (none)) else (none)) else (none)) else (none)) else (some (a0, (⟨#[]⟩ : ByteArray), false)))) = some (r1, r2, r3) := h
  clear h
  replace H := Option.bind_eq_some_iff.mp H
  obtain ⟨t159, A30, H⟩ := H
  replace H : (if t159 ≥ 0 then (if 0 ≤ t159 then (if t159 ≤ (a0.size : Int) then (if 0 ≤ (wrap64 (t159 + (a1.size : Int))) then (if (wrap64 (t159 + (a1.size : Int))) ≤ (a0.size : Int) then (some (a0.extract 0 (t159 : Int).toNat, a0.extract ((wrap64 (t159 + (a1.size : Int))) : Int).toNat a0.size, true)) else (none)) else (none)) else (none)) else (none)) else (some (a0, (⟨#[]⟩ : ByteArray), false))) = some (r1, r2, r3) := H
  have A3 := Aside0.mk A30
  clear A30
  by_cases c4 : t159 ≥ 0
  · rw [if_pos c4] at H
    have c4b0 : decide (0 ≤ t159) = true := decide_eq_true c4
    clear c4
    by_cases c5 : 0 ≤ t159
    · rw [if_pos c5] at H
      have c5b0 := eq_true c5
      have c5b1 : decide (0 ≤ t159) = true := decide_eq_true c5
      clear c5
      by_cases c6 : t159 ≤ (a0.size : Int)
      · rw [if_pos c6] at H
        have c6b0 := eq_true c6
        have c6b1 : decide (t159 ≤ (a0.size : Int)) = true := decide_eq_true c6
        clear c6
        obtain ⟨ji7, hji7⟩ : ∃ j_ : Int, (wrap64 (t159 + (a1.size : Int))) = j_ := ⟨_, rfl⟩
        replace H : (if 0 ≤ (ji7) then (if (ji7) ≤ (a0.size : Int) then (some (a0.extract 0 (t159 : Int).toNat, a0.extract ((ji7) : Int).toNat a0.size, true)) else (none)) else (none)) = some (r1, r2, r3) := by first | (rw [hji7] at H; exact H) | (simp only [hji7] at H ⊢; exact H)
        (try rw [hji7] at A3)
        have hji7w : (IntKind.i64.wrap (t159 + (a1.size : Int))) = ji7 := (i64_w _).trans hji7
        by_cases c8 : 0 ≤ (ji7)
        · rw [if_pos c8] at H
          have c8b0 := eq_true c8
          have c8b1 : decide (0 ≤ (ji7)) = true := decide_eq_true c8
          clear c8
          by_cases c9 : (ji7) ≤ (a0.size : Int)
          · rw [if_pos c9] at H
            have c9b0 := eq_true c9
            have c9b1 : decide ((ji7) ≤ (a0.size : Int)) = true := decide_eq_true c9
            clear c9
            simp only [Option.some.injEq, Prod.mk.injEq] at H
            obtain ⟨rfl, rfl, rfl⟩ := H
            go_enter Tryd.func52, Tryd.ntmps52
            go_wp2_with (first | (go_at_call 60; (with_reducible refine (stringslite_Index.calls a0 a1 t159 _ A3.out).mono ?_); rintro e w' ⟨rfl, ⟨nd, rfl⟩⟩; (try first | exact ⟨rfl, _, World.drewN_drewN _ _ _⟩ | exact ⟨rfl, _, Eq.trans (World.drewN_drewN _ _ _) (congrArg (World.drewN _) (Nat.add_assoc _ _ _))⟩)))
            repeat (go_quiet (first | (go_at_call 60; (with_reducible refine (stringslite_Index.calls a0 a1 t159 _ A3.out).mono ?_); rintro e w' ⟨rfl, ⟨nd, rfl⟩⟩; (try first | exact ⟨rfl, _, World.drewN_drewN _ _ _⟩ | exact ⟨rfl, _, Eq.trans (World.drewN_drewN _ _ _) (congrArg (World.drewN _) (Nat.add_assoc _ _ _))⟩))); try go_wp2_with (first | (go_at_call 60; (with_reducible refine (stringslite_Index.calls a0 a1 t159 _ A3.out).mono ?_); rintro e w' ⟨rfl, ⟨nd, rfl⟩⟩; (try first | exact ⟨rfl, _, World.drewN_drewN _ _ _⟩ | exact ⟨rfl, _, Eq.trans (World.drewN_drewN _ _ _) (congrArg (World.drewN _) (Nat.add_assoc _ _ _))⟩))))
            go_ret3
            exact ⟨by first | rfl | (simp; done) | (simp only [← hji7] <;> (first | rfl | simp)) | (simp [*]; done), by repeat (first | exact Drawn0.refl _ | apply Drawn0.step)⟩
          · rw [if_neg c9] at H
            exact absurd H (by simp)
        · rw [if_neg c8] at H
          exact absurd H (by simp)
      · rw [if_neg c6] at H
        exact absurd H (by simp)
    · rw [if_neg c5] at H
      exact absurd H (by simp)
  · rw [if_neg c4] at H
    have c4b0 : decide (0 ≤ t159) = false := decide_eq_false c4
    clear c4
    simp only [Option.some.injEq, Prod.mk.injEq] at H
    obtain ⟨rfl, rfl, rfl⟩ := H
    go_enter Tryd.func52, Tryd.ntmps52
    go_wp2_with (first | (go_at_call 60; (with_reducible refine (stringslite_Index.calls a0 a1 t159 _ A3.out).mono ?_); rintro e w' ⟨rfl, ⟨nd, rfl⟩⟩; (try first | exact ⟨rfl, _, World.drewN_drewN _ _ _⟩ | exact ⟨rfl, _, Eq.trans (World.drewN_drewN _ _ _) (congrArg (World.drewN _) (Nat.add_assoc _ _ _))⟩)))
    repeat (go_quiet (first | (go_at_call 60; (with_reducible refine (stringslite_Index.calls a0 a1 t159 _ A3.out).mono ?_); rintro e w' ⟨rfl, ⟨nd, rfl⟩⟩; (try first | exact ⟨rfl, _, World.drewN_drewN _ _ _⟩ | exact ⟨rfl, _, Eq.trans (World.drewN_drewN _ _ _) (congrArg (World.drewN _) (Nat.add_assoc _ _ _))⟩))); try go_wp2_with (first | (go_at_call 60; (with_reducible refine (stringslite_Index.calls a0 a1 t159 _ A3.out).mono ?_); rintro e w' ⟨rfl, ⟨nd, rfl⟩⟩; (try first | exact ⟨rfl, _, World.drewN_drewN _ _ _⟩ | exact ⟨rfl, _, Eq.trans (World.drewN_drewN _ _ _) (congrArg (World.drewN _) (Nat.add_assoc _ _ _))⟩))))
    go_ret3
    exact ⟨by first | rfl | (simp; done) | (simp [*]; done), by repeat (first | exact Drawn0.refl _ | apply Drawn0.step)⟩

/-! ### strings_Cut: function 36 -/
def strings_Cut.f (a0 : ByteArray) (a1 : ByteArray) : Option (ByteArray × ByteArray × Bool) := (stringslite_Cut.f a0 a1).bind fun bt160 => (some (bt160.1, bt160.2.1, bt160.2.2))
set_option maxHeartbeats 8000000 in
set_option maxRecDepth 100000 in
theorem strings_Cut.calls (a0 : ByteArray) (a1 : ByteArray) (r1 : ByteArray) (r2 : ByteArray) (r3 : Bool) (w : World) (h : strings_Cut.f a0 a1 = some (r1, r2, r3)) :
    Calls Tryd.prog 36 #[.string a0, .string a1] w fun e w' => e = .returned (.tuple #[.string r1, .string r2, .bool r3]) ∧ Drawn0 w w' := by
  have H : ((stringslite_Cut.f a0 a1).bind fun bt160 => (some (bt160.1, bt160.2.1, bt160.2.2))) = some (r1, r2, r3) := h
  clear h
  replace H := Option.bind_eq_some_iff.mp H
  obtain ⟨⟨t160, t161, t162⟩, A30, H⟩ := H
  replace H : (some (t160, t161, t162)) = some (r1, r2, r3) := H
  have A3 := Aside0.mk A30
  clear A30
  simp only [Option.some.injEq, Prod.mk.injEq] at H
  obtain ⟨rfl, rfl, rfl⟩ := H
  go_enter Tryd.func36, Tryd.ntmps36
  go_wp2_with (first | ((with_reducible refine gate_callee (f := 52) rfl ?_); refine goesL_ (some 9) rfl rfl Tryd.func52 (by kernel_rfl) rfl #[.string a0, .string a1] rfl (by (try simp only [List.map_toArray, List.map_cons, List.map_nil]); first | done | rfl | (simp only [List.length_drop, List.length_take]; rfl)) ?_; (with_reducible refine (stringslite_Cut.calls a0 a1 t160 t161 t162 _ A3.out).mono ?_); rintro e w' ⟨rfl, ⟨nd, rfl⟩⟩; refine ⟨_, rfl, ?_⟩))
  go_ret3
  exact ⟨by first | rfl | (simp; done) | (simp [*]; done), by repeat (first | exact Drawn0.refl _ | apply Drawn0.step)⟩

-- NOT PRINTED: function 19 (diag_Excerpt)

/-! ### trickleref14_Excerpt: function 20 -/
mutual
def trickleref14_Excerpt.j1 : Nat → ByteArray → Int → Int → Int → Option (ByteArray)
  | 0, _, _, _, _ => none
  | k + 1, x0, x1, x7, x8 => if 0 ≤ x7 then (if x7 ≤ x8 then (if x8 ≤ (x0.size : Int) then (if (x0.extract (x7 : Int).toNat (x8 : Int).toNat).size + 1 ≤ 9223372036854775807 then (trickleref14_Excerpt.l1 k x0 x1 ((x0.extract (x7 : Int).toNat (x8 : Int).toNat) ++ (⟨#[10]⟩ : ByteArray)) x7) else (none)) else (none)) else (none)) else (none)
def trickleref14_Excerpt.l1 : Nat → ByteArray → Int → ByteArray → Int → Option (ByteArray)
  | 0, _, _, _, _ => none
  | k + 1, x0, x1, x9, x10 => if x10 < x1 then (if 0 ≤ x10 then (if x10 < (x0.size : Int) then (if (bt x0 x10) = 9 then (if x9.size + 1 ≤ 9223372036854775807 then (trickleref14_Excerpt.l1 k x0 x1 (x9 ++ (⟨#[9]⟩ : ByteArray)) (wrap64 (x10 + 1))) else (none)) else (if x9.size + 1 ≤ 9223372036854775807 then (trickleref14_Excerpt.l1 k x0 x1 (x9 ++ (⟨#[32]⟩ : ByteArray)) (wrap64 (x10 + 1))) else (none))) else (none)) else (none)) else (if x9.size + 2 ≤ 9223372036854775807 then (some (x9 ++ (⟨#[94, 10]⟩ : ByteArray))) else (none))
def trickleref14_Excerpt.l0 : Nat → ByteArray → Int → Int → Int → Option (ByteArray)
  | 0, _, _, _, _ => none
  | k + 1, x0, x1, x7, x8 => if x8 < (x0.size : Int) then (if 0 ≤ x8 then (if (bt x0 x8) = 10 then (trickleref14_Excerpt.j1 k x0 x1 x7 x8) else (trickleref14_Excerpt.l0 k x0 x1 x7 (wrap64 (x8 + 1)))) else (none)) else (trickleref14_Excerpt.j1 k x0 x1 x7 x8)
end
def trickleref14_Excerpt.f (k : Nat) (a0 : ByteArray) (a1 : Int) : Option (ByteArray) := (trickleref14_Clamp.f a0 a1).bind fun t168 => ((trickleref14_Position.f k a0 t168).bind fun bt169 => (trickleref14_Excerpt.l0 k a0 t168 (wrap64 (t168 - (wrap64 (bt169.2 - 1)))) (wrap64 (t168 - (wrap64 (bt169.2 - 1))))))
set_option maxHeartbeats 8000000 in
set_option maxRecDepth 100000 in
theorem trickleref14_Excerpt.calls (k : Nat) (a0 : ByteArray) (a1 : Int) (r : ByteArray) (w : World) (h : trickleref14_Excerpt.f k a0 a1 = some r) :
    Calls Tryd.prog 20 #[.string a0, .int .i64 a1] w fun e w' => e = .returned (.string r) ∧ Drawn0 w w' := by
  have H : ((trickleref14_Clamp.f a0 a1).bind fun t168 => ((trickleref14_Position.f k a0 t168).bind fun bt169 => (trickleref14_Excerpt.l0 k a0 t168 (wrap64 (t168 - (wrap64 (bt169.2 - 1)))) (wrap64 (t168 - (wrap64 (bt169.2 - 1))))))) = some r := h
  clear h
  replace H := Option.bind_eq_some_iff.mp H
  obtain ⟨t168, A30, H⟩ := H
  replace H : ((trickleref14_Position.f k a0 t168).bind fun bt169 => (trickleref14_Excerpt.l0 k a0 t168 (wrap64 (t168 - (wrap64 (bt169.2 - 1)))) (wrap64 (t168 - (wrap64 (bt169.2 - 1)))))) = some r := H
  have A3 := Aside0.mk A30
  clear A30
  replace H := Option.bind_eq_some_iff.mp H
  obtain ⟨⟨t169, t170⟩, A40, H⟩ := H
  replace H : (trickleref14_Excerpt.l0 k a0 t168 (wrap64 (t168 - (wrap64 (t170 - 1)))) (wrap64 (t168 - (wrap64 (t170 - 1))))) = some r := H
  have A4 := Aside0.mk A40
  clear A40
  have HC5 := Aside0.mk H
  clear H
  go_enter Tryd.func20, Tryd.ntmps20
  go_upto_block 0 with (first | ((with_reducible refine gate_callee (f := 30) rfl ?_); refine goesL_ (some 13) rfl rfl Tryd.func30 (by kernel_rfl) rfl #[.string a0, .int .i64 a1] rfl (by (try simp only [List.map_toArray, List.map_cons, List.map_nil]); first | done | rfl | (simp only [List.length_drop, List.length_take]; rfl)) ?_; (with_reducible refine (trickleref14_Clamp.calls a0 a1 t168 _ A3.out).mono ?_); rintro e w' ⟨rfl, ⟨nd, rfl⟩⟩; refine ⟨_, rfl, ?_⟩) | ((with_reducible refine gate_callee (f := 13) rfl ?_); refine goesL_ (some 17) rfl rfl Tryd.func13 (by kernel_rfl) rfl #[.string a0, .int .i64 t168] rfl (by (try simp only [List.map_toArray, List.map_cons, List.map_nil]); first | done | rfl | (simp only [List.length_drop, List.length_take]; rfl)) ?_; (with_reducible refine (trickleref14_Position.calls k a0 t168 t169 t170 _ A4.out).mono ?_); rintro e w' ⟨rfl, ⟨nd, rfl⟩⟩; refine ⟨_, rfl, ?_⟩))
  (try simp only [Act.put, List.setIfInBounds_toArray, List.set_cons_zero, List.set_cons_succ])
  go_cut [8] (fun v8 wc => ∃ (kq : Nat) (x8_4 : Int), v8 = .int .i64 x8_4 ∧ Aside0 (trickleref14_Excerpt.j1 kq a0 t168 (wrap64 (t168 - (wrap64 (t170 - 1)))) x8_4 = some r) ∧ Aside0 (kq ≤ k) ∧ Drawn0 w wc)
  case first =>
    have H := HC5.out
    clear HC5
    have H' := Aside0.mk H
    clear H
    go_wp2
    go_loopg [8] k (fun kq v8 w' => ∃ (x8_1 : Int), v8 = .int .i64 x8_1 ∧ Aside0 (trickleref14_Excerpt.l0 kq a0 t168 (wrap64 (t168 - (wrap64 (t170 - 1)))) x8_1 = some r) ∧ Aside0 (kq ≤ k) ∧ Drawn0 w w')
    case atStart => exact ⟨(wrap64 (t168 - (wrap64 (t170 - 1)))), (by first | rfl | (simp; done) | (simp [*]; done)), H', ⟨Nat.le_refl _⟩, by repeat (first | exact Drawn0.refl _ | apply Drawn0.step)⟩
    case round =>
      clear H'
      try clear c1
      try clear c2
      try clear p2
      try clear c3
      obtain ⟨x8_1, rfl, HA, HK1, ⟨m1, rfl⟩⟩ := hrel
      cases gk with
      | zero => exact absurd HA.out (by simp [trickleref14_Excerpt.l0])
      | succ k1 =>
        have H := HA.out
        clear HA
        simp only [trickleref14_Excerpt.l0] at H
        by_cases c6 : x8_1 < (a0.size : Int)
        · rw [if_pos c6] at H
          have c6b0 : decide (x8_1 < (a0.size : Int)) = true := decide_eq_true c6
          clear c6
          (first | rw [c6b0] | (simp only [i64_w, i32_w]; rw [c6b0]) | skip)
          by_cases c7 : 0 ≤ x8_1
          · rw [if_pos c7] at H
            have c7b0 : decide (0 ≤ x8_1) = true := decide_eq_true c7
            clear c7
            by_cases c9 : (bt a0 x8_1) = 10
            · rw [if_pos c9] at H
              have c9b0 : ((bt a0 x8_1) == 10) = true := beq_iff_eq.mpr c9
              have c9b1 : ((bt a0 x8_1) != 10) = false := bne_eq_false_iff_eq.mpr c9
              clear c9
              have H' := Aside0.mk H
              clear H
              have p8 : 0 ≤ (x8_1 : Int) := of_decide_eq_true (by first | (with_reducible assumption) | assumption)
              have q8 : x8_1 < (a0.size : Int) := of_decide_eq_true (by first | (with_reducible assumption) | assumption)
              have hx8 := bt_at a0 x8_1
              replace p8 := eq_true p8
              replace q8 := eq_true q8
              go_wp2
              go_meet
              case rel => exact ⟨_, (x8_1), (by first | rfl | (simp; done) | (simp [*]; done)), H', ⟨by have := HK1.out; first | omega | exact Nat.le_refl _⟩, by repeat (first | exact Drawn0.refl _ | apply Drawn0.step)⟩
            · rw [if_neg c9] at H
              have c9b0 : ((bt a0 x8_1) == 10) = false := beq_eq_false_iff_ne.mpr c9
              have c9b1 : ((bt a0 x8_1) != 10) = true := bne_iff_ne.mpr c9
              have H' := Aside0.mk H
              clear H
              have p8 : 0 ≤ (x8_1 : Int) := of_decide_eq_true (by first | (with_reducible assumption) | assumption)
              have q8 : x8_1 < (a0.size : Int) := of_decide_eq_true (by first | (with_reducible assumption) | assumption)
              have hx8 := bt_at a0 x8_1
              replace p8 := eq_true p8
              replace q8 := eq_true q8
              go_wp2
              go_roundg k1
              case measure => have := HK1.out; omega
              case rel => exact ⟨(wrap64 (x8_1 + 1)), (by first | rfl | (simp; done) | (simp [*]; done)), H', ⟨by have := HK1.out; omega⟩, by repeat (first | exact Drawn0.refl _ | apply Drawn0.step)⟩
          · rw [if_neg c7] at H
            exact absurd H (by simp)
        · rw [if_neg c6] at H
          have c6b0 : decide (x8_1 < (a0.size : Int)) = false := decide_eq_false c6
          clear c6
          (first | rw [c6b0] | (simp only [i64_w, i32_w]; rw [c6b0]) | skip)
          have H' := Aside0.mk H
          clear H
          go_wp2
          go_meet
          case rel => exact ⟨_, (x8_1), (by first | rfl | (simp; done) | (simp [*]; done)), H', ⟨by have := HK1.out; first | omega | exact Nat.le_refl _⟩, by repeat (first | exact Drawn0.refl _ | apply Drawn0.step)⟩
  case rest =>
    clear HC5
    try clear c1
    try clear c2
    try clear p2
    try clear c3
    try clear c6
    try clear c6b0
    try clear p6
    try clear c7
    try clear c7b0
    try clear p8
    try clear q8
    try clear hx8
    try clear c9
    try clear c9b0
    try clear c9b1
    try clear p2
    try clear p8
    try clear q8
    obtain ⟨kq, x8_4, rfl, HA, HJ4, ⟨mc4, rfl⟩⟩ := hcut
    cases kq with
    | zero => exact absurd HA.out (by simp [trickleref14_Excerpt.j1])
    | succ kj4 =>
      have H := HA.out
      clear HA
      simp only [trickleref14_Excerpt.j1] at H
      obtain ⟨ji10, hji10⟩ : ∃ j_ : Int, (wrap64 (t168 - (wrap64 (t170 - 1)))) = j_ := ⟨_, rfl⟩
      replace H : (if 0 ≤ (ji10) then (if (ji10) ≤ x8_4 then (if x8_4 ≤ (a0.size : Int) then (if (a0.extract ((ji10) : Int).toNat (x8_4 : Int).toNat).size + 1 ≤ 9223372036854775807 then (trickleref14_Excerpt.l1 kj4 a0 t168 ((a0.extract ((ji10) : Int).toNat (x8_4 : Int).toNat) ++ (⟨#[10]⟩ : ByteArray)) (ji10)) else (none)) else (none)) else (none)) else (none)) = some r := by first | (rw [hji10] at H; exact H) | (simp only [hji10] at H ⊢; exact H)
      have hji10w : (IntKind.i64.wrap (t168 - (wrap64 (t170 - 1)))) = ji10 := (i64_w _).trans hji10
      by_cases c11 : 0 ≤ (ji10)
      · rw [if_pos c11] at H
        have c11b0 := eq_true c11
        have c11b1 : decide (0 ≤ (ji10)) = true := decide_eq_true c11
        clear c11
        by_cases c12 : (ji10) ≤ x8_4
        · rw [if_pos c12] at H
          have c12b0 := eq_true c12
          have c12b1 : decide ((ji10) ≤ x8_4) = true := decide_eq_true c12
          clear c12
          by_cases c13 : x8_4 ≤ (a0.size : Int)
          · rw [if_pos c13] at H
            have c13b0 := eq_true c13
            have c13b1 : decide (x8_4 ≤ (a0.size : Int)) = true := decide_eq_true c13
            clear c13
            by_cases c14 : (a0.extract ((ji10) : Int).toNat (x8_4 : Int).toNat).size + 1 ≤ 9223372036854775807
            · rw [if_pos c14] at H
              have c14b0 := eq_true c14
              have z14x : (a0.extract ((ji10) : Int).toNat (x8_4 : Int).toNat).size = (x8_4).toNat - (ji10).toNat := by rw [ByteArray.size_extract, Nat.min_eq_left (show (x8_4 : Int).toNat ≤ a0.size by have h_ := of_eq_true c13b0; omega)]
              have z14y : (9223372036854775807 < (x8_4).toNat - (ji10).toNat + 1) = False := eq_false (Nat.not_lt.2 (by rw [← z14x]; exact c14))
              have c14b1 : decide ((a0.extract ((ji10) : Int).toNat (x8_4 : Int).toNat).size + 1 ≤ 9223372036854775807) = true := decide_eq_true c14
              try have c14b2 : (9223372036854775807 < (a0.extract ((ji10) : Int).toNat (x8_4 : Int).toNat).size + 1) = False := eq_false (Nat.not_lt.2 c14)
              have H' := Aside0.mk H
              clear H
              go_wp2
              go_loopg [9, 10] kj4 (fun kq v9 v10 w' => ∃ (x9_2 : ByteArray) (x10_2 : Int), v9 = .string x9_2 ∧ v10 = .int .i64 x10_2 ∧ Aside0 (trickleref14_Excerpt.l1 kq a0 t168 x9_2 x10_2 = some r) ∧ Aside0 (kq ≤ kj4) ∧ Drawn0 w w')
              case atStart => exact ⟨((a0.extract ((ji10) : Int).toNat (x8_4 : Int).toNat) ++ (⟨#[10]⟩ : ByteArray)), ((ji10)), (by first | rfl | (simp; done) | (simp only [← hji10] <;> (first | rfl | simp)) | (simp [*]; done)), (by first | rfl | (simp; done) | (simp only [← hji10] <;> (first | rfl | simp)) | (simp [*]; done)), H', ⟨Nat.le_refl _⟩, by repeat (first | exact Drawn0.refl _ | apply Drawn0.step)⟩
              case round =>
                clear H'
                try clear c1
                try clear c2
                try clear p2
                try clear c3
                try clear c4
                try clear c6
                try clear c6b0
                try clear p6
                try clear c7
                try clear c7b0
                try clear p8
                try clear q8
                try clear hx8
                try clear c9
                try clear c9b0
                try clear c9b1
                try clear c11
                try clear c11b0
                try clear c11b1
                try clear c12
                try clear c12b0
                try clear c12b1
                try clear c13
                try clear c13b0
                try clear c13b1
                try clear c14
                try clear c14b0
                try clear c14b1
                try clear c14b2
                try clear p2
                try clear p6
                try clear p8
                try clear q8
                obtain ⟨x9_2, x10_2, rfl, rfl, HA, HK2, ⟨m2, rfl⟩⟩ := hrel
                cases gk with
                | zero => exact absurd HA.out (by simp [trickleref14_Excerpt.l1])
                | succ k2 =>
                  have H := HA.out
                  clear HA
                  simp only [trickleref14_Excerpt.l1] at H
                  by_cases c15 : x10_2 < t168
                  · rw [if_pos c15] at H
                    have c15b0 : decide (x10_2 < t168) = true := decide_eq_true c15
                    clear c15
                    by_cases c16 : 0 ≤ x10_2
                    · rw [if_pos c16] at H
                      have c16b0 : decide (0 ≤ x10_2) = true := decide_eq_true c16
                      clear c16
                      by_cases c17 : x10_2 < (a0.size : Int)
                      · rw [if_pos c17] at H
                        have c17b0 : decide (x10_2 < (a0.size : Int)) = true := decide_eq_true c17
                        clear c17
                        by_cases c19 : (bt a0 x10_2) = 9
                        · rw [if_pos c19] at H
                          have c19b0 : ((bt a0 x10_2) == 9) = true := beq_iff_eq.mpr c19
                          have c19b1 : ((bt a0 x10_2) != 9) = false := bne_eq_false_iff_eq.mpr c19
                          clear c19
                          by_cases c20 : x9_2.size + 1 ≤ 9223372036854775807
                          · rw [if_pos c20] at H
                            have c20b0 := eq_true c20
                            have c20b1 : decide (x9_2.size + 1 ≤ 9223372036854775807) = true := decide_eq_true c20
                            try have c20b2 : (9223372036854775807 < x9_2.size + 1) = False := eq_false (Nat.not_lt.2 c20)
                            have H' := Aside0.mk H
                            clear H
                            have p18 : 0 ≤ (x10_2 : Int) := of_decide_eq_true (by first | (with_reducible assumption) | assumption)
                            have q18 : x10_2 < (a0.size : Int) := of_decide_eq_true (by first | (with_reducible assumption) | assumption)
                            have hx18 := bt_at a0 x10_2
                            replace p18 := eq_true p18
                            replace q18 := eq_true q18
                            go_wp2
                            go_roundg k2
                            case measure => have := HJ4.out; have := HK2.out; omega
                            case rel => exact ⟨(x9_2 ++ (⟨#[9]⟩ : ByteArray)), (wrap64 (x10_2 + 1)), (by first | rfl | (simp; done) | (simp [*]; done)), (by first | rfl | (simp; done) | (simp [*]; done)), H', ⟨by have := HJ4.out; have := HK2.out; omega⟩, by repeat (first | exact Drawn0.refl _ | apply Drawn0.step)⟩
                          · rw [if_neg c20] at H
                            exact absurd H (by simp)
                        · rw [if_neg c19] at H
                          have c19b0 : ((bt a0 x10_2) == 9) = false := beq_eq_false_iff_ne.mpr c19
                          have c19b1 : ((bt a0 x10_2) != 9) = true := bne_iff_ne.mpr c19
                          by_cases c21 : x9_2.size + 1 ≤ 9223372036854775807
                          · rw [if_pos c21] at H
                            have c21b0 := eq_true c21
                            have c21b1 : decide (x9_2.size + 1 ≤ 9223372036854775807) = true := decide_eq_true c21
                            try have c21b2 : (9223372036854775807 < x9_2.size + 1) = False := eq_false (Nat.not_lt.2 c21)
                            have H' := Aside0.mk H
                            clear H
                            have p18 : 0 ≤ (x10_2 : Int) := of_decide_eq_true (by first | (with_reducible assumption) | assumption)
                            have q18 : x10_2 < (a0.size : Int) := of_decide_eq_true (by first | (with_reducible assumption) | assumption)
                            have hx18 := bt_at a0 x10_2
                            replace p18 := eq_true p18
                            replace q18 := eq_true q18
                            go_wp2
                            go_roundg k2
                            case measure => have := HJ4.out; have := HK2.out; omega
                            case rel => exact ⟨(x9_2 ++ (⟨#[32]⟩ : ByteArray)), (wrap64 (x10_2 + 1)), (by first | rfl | (simp; done) | (simp [*]; done)), (by first | rfl | (simp; done) | (simp [*]; done)), H', ⟨by have := HJ4.out; have := HK2.out; omega⟩, by repeat (first | exact Drawn0.refl _ | apply Drawn0.step)⟩
                          · rw [if_neg c21] at H
                            exact absurd H (by simp)
                      · rw [if_neg c17] at H
                        exact absurd H (by simp)
                    · rw [if_neg c16] at H
                      exact absurd H (by simp)
                  · rw [if_neg c15] at H
                    have c15b0 : decide (x10_2 < t168) = false := decide_eq_false c15
                    clear c15
                    by_cases c22 : x9_2.size + 2 ≤ 9223372036854775807
                    · rw [if_pos c22] at H
                      have c22b0 := eq_true c22
                      have c22b1 : decide (x9_2.size + 2 ≤ 9223372036854775807) = true := decide_eq_true c22
                      try have c22b2 : (9223372036854775807 < x9_2.size + 2) = False := eq_false (Nat.not_lt.2 c22)
                      obtain rfl := Option.some.inj H
                      go_wp2
                      go_ret
                      exact ⟨by first | rfl | (simp; done) | (simp only [← hji10] <;> (first | rfl | simp)) | (simp [*]; done), by repeat (first | exact Drawn0.refl _ | apply Drawn0.step)⟩
                    · rw [if_neg c22] at H
                      exact absurd H (by simp)
            · rw [if_neg c14] at H
              exact absurd H (by simp)
          · rw [if_neg c13] at H
            exact absurd H (by simp)
        · rw [if_neg c12] at H
          exact absurd H (by simp)
      · rw [if_neg c11] at H
        exact absurd H (by simp)

-- NOT PRINTED: function 5 (tricklelaw14_DiagExcerpt)

-- NOT PRINTED: function 94 (utf8_decodeRuneInStringSlow)

-- NOT PRINTED: function 82 (utf8_DecodeRuneInString)

-- NOT PRINTED: function 63 (strings_explode)

-- NOT PRINTED: function 53 (strings_genSplit)

end Go.Proofs.YtahgghbhpmpgfaaDoor.PX
/- diag.Excerpt: what it computes, and that the call computes it. []byte(s) is a row of its own with a conversion's mark: BR. -/
namespace Go.Proofs.YtahgghbhpmpgfaaDoor.PX
open Go.RowKit Go.Proofs.YtahgghbhpmpgfaaDoorW.PrintWords Go.Proofs.YtahgghbhpmpgfaaDoorW.PrintLast Go.Proofs.YtahgghbhpmpgfaaDoorW.PrintMore
set_option linter.unusedVariables false
set_option linter.unusedSimpArgs false
/-- The row of a conversion []byte(s) in block g: m cells, of which the first hold xs. -/
def BR (g m : Nat) (xs : List Int) (w : World) : Prop := ∃ cs : Array Value, w.heap[g]? = some (.cells cs 5 (m, m + 1)) ∧ cs.size = m ∧ xs.length ≤ m ∧ ∀ i, i < xs.length → cs[i]? = some (.int .u8 (xs.getD i 0))
theorem BR.cell {g m : Nat} {xs : List Int} {w : World} (h : BR g m xs w) (j : Nat) (hj : j < xs.length) : w.cell? ⟨g, j, none⟩ = some (.int .u8 (xs.getD j 0)) := by
  obtain ⟨cs, h1, h2, h3, h4⟩ := h
  rw [cell_of_row w g j cs 5 _ h1]
  exact h4 j hj
theorem BR.frozen {g m : Nat} {xs : List Int} {w : World} (h : BR g m xs w) (j : Nat) (hj : j < xs.length) : w.frozen? ⟨g, j, none⟩ = false := by
  obtain ⟨cs, h1, h2, h3, h4⟩ := h
  simp [World.frozen?, h1]
  omega
theorem BR.put {g m : Nat} {xs : List Int} {w : World} (h : BR g m xs w) (j : Nat) (v : Int) : BR g m (xs.set j v) (w.setCell ⟨g, j, none⟩ (.int .u8 v)) := by
  obtain ⟨cs, h1, h2, h3, h4⟩ := h
  refine ⟨cs.setIfInBounds j (.int .u8 v), ?_, by rw [Array.size_setIfInBounds]; exact h2, by rw [List.length_set]; exact h3, fun i hi => ?_⟩
  · have hg : g < w.heap.size := by
      by_cases hl : g < w.heap.size
      · exact hl
      · rw [Array.getElem?_eq_none (by omega)] at h1; cases h1
    simp [World.setCell, Array.getElem?_modify, h1]
  · rw [List.length_set] at hi
    rw [Array.getElem?_setIfInBounds]
    by_cases e : j = i
    · subst e
      rw [if_pos rfl, if_pos (by omega)]
      simp [List.getD_eq_getElem?_getD, hi]
    · rw [if_neg e, h4 i hi]
      simp [List.getD_eq_getElem?_getD, List.getElem?_set, e]
theorem BR.start (W : World) (s : ByteArray) : ∃ m, BR W.heap.size m (bytesOf s) (Lib.bytesWorld W 5 s) := by
  refine ⟨(Lib.bytesCells W 5 s).size, Lib.bytesCells W 5 s, Lib.bytesWorld_at_new W 5 s, rfl, ?_, fun i hi => ?_⟩
  · rw [bytesOf_length]
    simp [Lib.bytesCells]
  · rw [bytesOf_length] at hi
    have h := Lib.bytesWorld_cell W 5 s i hi
    rw [cell_of_row _ W.heap.size i _ 5 _ (Lib.bytesWorld_at_new W 5 s)] at h
    rw [h]
    have h' : i < s.data.toList.length := by rw [data_length]; exact hi
    simp [bytesOf, List.getD_eq_getElem?_getD, List.getElem?_eq_getElem h']
theorem BR.reads {g m : Nat} {xs : List Int} {w : World} (h : BR g m xs w) (hn : xs.length ≤ 1000) : ReadsInt w .u8 (some ⟨g, 0, none⟩) xs.length xs := by
  refine ⟨rfl, by omega, fun _ => ⟨_, rfl, fun j hj => ?_⟩⟩
  rw [add_plain]
  simpa using h.cell j hj
/-- What Excerpt makes of the bytes in front of the offset. -/
def indI (l : List Int) : List Int := l.map fun c => if c = 9 then 9 else 32
def diag_Excerpt.f (k : Nat) (a0 : ByteArray) (a1 : Int) : Option ByteArray := (diag_clamp.f a0 a1).bind fun p => (diag_start.f k a0 p).bind fun fr =>
  if 0 ≤ fr ∧ fr ≤ p ∧ p ≤ (a0.size : Int) ∧ a0.size ≤ 1000 then (strings_Cut.f (a0.extract fr.toNat a0.size) (⟨#[10]⟩ : ByteArray)).bind fun c =>
    if c.1.size ≤ 1000 then some (((c.1 ++ (⟨#[10]⟩ : ByteArray)) ++ strOfNums (indI (bytesOf (a0.extract fr.toNat p.toNat)))) ++ (⟨#[94, 10]⟩ : ByteArray)) else none
  else none
theorem ext_size (s : ByteArray) (a b : Nat) (h : b ≤ s.size) : (s.extract a b).size = b - a := by rw [ByteArray.size_extract, Nat.min_eq_left h]
theorem strOf_size (l : List Int) : (strOfNums l).size = l.length := by
  unfold strOfNums
  simp [ByteArray.size]
theorem indI_step (xs : List Int) (n j : Nat) (hj : j < xs.length) (hn : n = xs.length) : indI (xs.take (j + 1)) ++ xs.drop (j + 1) = (indI (xs.take j) ++ xs.drop j).set j (if xs.getD j 0 = 9 then 9 else 32) := by
  have hl : (indI (xs.take j)).length = j := by unfold indI; rw [List.length_map, List.length_take]; omega
  rw [List.drop_eq_getElem_cons hj, List.set_append_right _ _ (by omega), hl, Nat.sub_self, List.set_cons_zero, List.take_succ_eq_append_getElem hj]
  have e : xs.getD j 0 = xs[j] := by rw [List.getD_eq_getElem?_getD, List.getElem?_eq_getElem hj, Option.getD_some]
  rw [e]
  unfold indI
  rw [List.map_append, List.append_assoc]
  rfl
theorem ind_get (xs : List Int) (j : Nat) (hj : j < xs.length) : (indI (xs.take j) ++ xs.drop j).getD j 0 = xs.getD j 0 := by
  have hl : (indI (xs.take j)).length = j := by unfold indI; rw [List.length_map, List.length_take]; omega
  rw [List.drop_eq_getElem_cons hj]
  simp [List.getD_eq_getElem?_getD, List.getElem?_append, hl, hj]
theorem set_same (l : List Int) (j : Nat) (v : Int) (hj : j < l.length) (h : l.getD j 0 = v) : l.set j v = l := by
  rw [List.getD_eq_getElem?_getD, List.getElem?_eq_getElem hj, Option.getD_some] at h
  subst h
  exact List.set_getElem_self hj
set_option maxHeartbeats 8000000 in
set_option maxRecDepth 100000 in
theorem diag_Excerpt.calls (k : Nat) (a0 : ByteArray) (a1 : Int) (r : ByteArray) (w : World) (h : diag_Excerpt.f k a0 a1 = some r) :
    Calls Tryd.prog 19 #[.string a0, .int .i64 a1] w fun e w' => e = .returned (.string r) ∧ Below w.heap.size w w' := by
  unfold diag_Excerpt.f at h
  obtain ⟨p, hp, h⟩ := Option.bind_eq_some_iff.mp h
  obtain ⟨fr, hf, h⟩ := Option.bind_eq_some_iff.mp h
  split at h
  case isFalse => cases h
  rename_i hb
  obtain ⟨b0, b1, b2, b3⟩ := hb
  obtain ⟨⟨ln, rest, ok⟩, hc, h⟩ := Option.bind_eq_some_iff.mp h
  dsimp only at h
  split at h
  case isFalse => cases h
  rename_i hls
  obtain rfl := Option.some.inj h
  have HP := Aside0.mk hp
  have HF := Aside0.mk hf
  have HC := Aside0.mk hc
  have HB := Aside0.mk (Below.refl w.heap.size w)
  clear hp hf hc h
  have e0 := eq_true b0
  have e1 := eq_true b1
  have e2 := eq_true b2
  have e3 := eq_true (show fr ≤ (a0.size : Int) by omega)
  have e4 := eq_true (show fr.toNat ≤ a0.size by omega)
  have e5 := eq_true (show p.toNat ≤ a0.size by omega)
  have e6 := eq_true (show fr.toNat ≤ p.toNat by omega)
  have HN : Aside0 ((a0.extract fr.toNat p.toNat).size ≤ 1000) := ⟨by rw [ext_size _ _ _ (by omega)]; omega⟩
  have HL := Aside0.mk hls
  clear b0 b1 b2 b3 hls
  have kb := fun s W => print_bytes (P := Tryd.prog) 9 48 5 Tryd.underlying9 Tryd.underlying48 Tryd.underlying5 s W
  go_enter Tryd.func19, Tryd.ntmps19
  go_upto_region 4 with (first | (go_at_call 28; refine (diag_clamp.calls a0 a1 p _ HP.out).mono ?_; rintro e w1 ⟨rfl, hb⟩; have n0_ := Aside0.mk hb; clear HB hb; have HB := n0_; clear n0_) | (go_at_call 29; refine (diag_start.calls k a0 p fr _ HF.out).mono ?_; rintro e w2 ⟨rfl, ⟨nd, rfl⟩⟩) | (go_at_call 36; refine (strings_Cut.calls _ _ ln rest ok _ HC.out).mono ?_; rintro e w3 ⟨rfl, ⟨nd2, rfl⟩⟩))
  go_upto_region 5 with (fail)
  obtain ⟨m, hm⟩ := BR.start (w1.drewN (nd + nd2)) (a0.extract fr.toNat p.toNat)
  have HBR0 : Aside0 (BR w1.heap.size m (bytesOf (a0.extract fr.toNat p.toNat)) (Lib.bytesWorld (w1.drewN (nd + nd2)) 5 (a0.extract fr.toNat p.toNat))) := ⟨hm⟩
  have HB0 : Aside0 (Below w.heap.size w (Lib.bytesWorld (w1.drewN (nd + nd2)) 5 (a0.extract fr.toNat p.toNat))) := Aside0.mk (bytes_below (W := w1.drewN (nd + nd2)) (pw_below_drewN HB.out _) (show w.heap.size ≤ w1.heap.size from below_size HB.out) 5 (a0.extract fr.toNat p.toNat))
  have GE : Aside0 (w.heap.size ≤ w1.heap.size) := ⟨below_size HB.out⟩
  have HLN : Aside0 ((bytesOf (a0.extract fr.toNat p.toNat)).length = p.toNat - fr.toNat) := ⟨by rw [bytesOf_length, ext_size _ _ _ (of_eq_true e5)]⟩
  obtain ⟨xs, hxs⟩ : ∃ xs, xs = bytesOf (a0.extract fr.toNat p.toNat) := ⟨_, rfl⟩
  rw [← hxs] at HBR0 HLN
  have HXS := Aside0.mk hxs
  clear hxs hm HB kb
  generalize grownCap (w1.drewN (nd + nd2)) (p.toNat - fr.toNat) 0 5 = cap
  generalize Lib.bytesWorld (w1.drewN (nd + nd2)) 5 (a0.extract fr.toNat p.toNat) = w4 at HBR0 HB0 ⊢
  generalize w1.heap.size = g at HBR0 GE ⊢
  have HN2 : Aside0 (p.toNat - fr.toNat ≤ 1000) := ⟨by have h1_ := HN.out; rw [ext_size _ _ _ (of_eq_true e5)] at h1_; exact h1_⟩
  generalize p.toNat - fr.toNat = n at HLN HN2 ⊢
  go_wp2
  go_loopg [33] n (fun kq v33 w' => ∃ (j : Nat), v33 = .int .i64 (j : Int) ∧ Aside0 (j + kq = n) ∧ Aside0 (BR g m (indI (xs.take j) ++ xs.drop j) w') ∧ Aside0 (Below w.heap.size w w'))
  case atStart => exact ⟨0, rfl, ⟨by omega⟩, ⟨by rw [List.take_zero, List.drop_zero]; exact HBR0.out⟩, HB0⟩
  case round =>
    clear HBR0 HB0
    obtain ⟨j, rfl, HA, HR, HB⟩ := hrel
    have hlen : Aside0 ((indI (xs.take j) ++ xs.drop j).length = n) := ⟨by have h1_ := HLN.out; have h2_ := HA.out; unfold indI; rw [List.length_append, List.length_map, List.length_take, List.length_drop]; omega⟩
    by_cases c2 : (j : Int) < (n : Int)
    · have hjn : j < n := by omega
      have c2b0 : decide ((j : Int) < (n : Int)) = true := decide_eq_true c2
      have c2n : decide (j < n) = true := decide_eq_true hjn
      have hx := HR.out.cell j (by rw [hlen.out]; exact hjn)
      rw [ind_get xs j (by rw [HLN.out]; exact hjn)] at hx
      have hz := HR.out.frozen j (by rw [hlen.out]; exact hjn)
      have pj := eq_true (show (0 : Int) ≤ (j : Int) by omega)
      have qj := eq_true c2
      have qjn := eq_true hjn
      clear c2
      have hwr : IntKind.i64.wrap ((j : Int) + 1) = ((j + 1 : Nat) : Int) := by rw [i64_w]; unfold wrap64; have := HN2.out; omega
      have hst := indI_step xs n j (by rw [HLN.out]; exact hjn) HLN.out.symm
      obtain ⟨x, hx0⟩ : ∃ x, x = xs.getD j 0 := ⟨_, rfl⟩
      rw [← hx0] at hx hst
      have HST := Aside0.mk hst
      have HX0 := Aside0.mk hx0
      clear hst hx0
      cases gk with
      | zero => exact absurd HA.out (by omega)
      | succ k2 =>
        by_cases c9 : x = 9
        · subst c9
          go_wp2
          go_roundg k2
          case measure => omega
          case rel => exact ⟨j + 1, by first | rfl | (simp; done) | (simp [*]; done) | exact congrArg (Value.int .i64) hwr, ⟨by have := HA.out; omega⟩, ⟨by have h1_ := HST.out; rw [if_pos trivial] at h1_; rw [h1_, set_same _ j 9 (by rw [hlen.out]; exact hjn) (by rw [ind_get xs j (by rw [HLN.out]; exact hjn)]; exact HX0.out.symm)]; exact HR.out⟩, HB⟩
        · have c9a : (x == 9) = false := beq_eq_false_iff_ne.mpr c9
          have c9b : (x != 9) = true := bne_iff_ne.mpr c9
          have c9c : decide (x = 9) = false := decide_eq_false c9
          go_wp2
          go_roundg k2
          case measure => omega
          case rel => exact ⟨j + 1, by first | rfl | (simp; done) | (simp [*]; done) | exact congrArg (Value.int .i64) hwr, ⟨by have := HA.out; omega⟩, ⟨by rw [HST.out, if_neg c9]; exact HR.out.put j 32⟩, ⟨below_set HB.out GE.out⟩⟩
    · have c2b0 : decide ((j : Int) < (n : Int)) = false := decide_eq_false c2
      have c2n : decide (j < n) = false := decide_eq_false (by omega)
      have hj : j = n := by have := HA.out; omega
      subst hj
      have hR := HR.out
      rw [List.take_of_length_le (by rw [HLN.out]; exact Nat.le_refl _), List.drop_of_length_le (by rw [HLN.out]; exact Nat.le_refl _), List.append_nil] at hR
      have hil : (indI xs).length = j := by unfold indI; rw [List.length_map, HLN.out]
      have hrd := hR.reads (by rw [hil]; exact HN2.out)
      rw [hil] at hrd
      have hcv := fun c => string_of_reads (P := Tryd.prog) (src := 48) (dst := 9) (e := 5) (c := c) Tryd.underlying48 Tryd.underlying5 Tryd.underlying9 hrd
      have z1 : (9223372036854775807 < ln.size + 1) = False := eq_false (by have := HL.out; omega)
      have hso : (strOfNums (indI xs)).size = j := by rw [strOf_size, hil]
      have z2 : (9223372036854775807 < ln.size + 1 + (strOfNums (indI xs)).size) = False := eq_false (by rw [hso]; have := HL.out; have := HN2.out; omega)
      have z3 : (9223372036854775807 < ln.size + 1 + (strOfNums (indI xs)).size + 2) = False := eq_false (by rw [hso]; have := HL.out; have := HN2.out; omega)
      clear hso
      go_wp2
      go_ret
      rw [HXS.out]
      exact ⟨rfl, HB.out⟩
end Go.Proofs.YtahgghbhpmpgfaaDoor.PX
-- Written by a program of this session (wip/xprint.py, over the kit's print tool). Lean checks it.
namespace Go.Proofs.YtahgghbhpmpgfaaDoor.PX
open Go.RowKit Go.Proofs.YtahgghbhpmpgfaaDoorW.PrintWords Go.Proofs.YtahgghbhpmpgfaaDoorW.PrintLast Go.Proofs.YtahgghbhpmpgfaaDoorW.PrintMore
attribute [local go_sem] max2_int min2_int max_two min_two max_three min_three max_four min_four   -- for this text's walks alone
set_option linter.unusedVariables false
set_option linter.unusedSimpArgs false

/-! ### tricklelaw14_DiagExcerpt: function 5 -/
def tricklelaw14_DiagExcerpt.f (k : Nat) (a0 : ByteArray) (a1 : Int) : Option (Bool) := if (a0.size : Int) > 300 then ((tricklelaw14_examples.f k).bind fun t166 => (some t166)) else ((diag_Excerpt.f k a0 a1).bind fun t167 => ((trickleref14_Excerpt.f k a0 a1).bind fun t168 => (if t167.toList = t168.toList then ((tricklelaw14_examples.f k).bind fun t169 => (some t169)) else (some false))))
set_option maxHeartbeats 8000000 in
set_option maxRecDepth 100000 in
theorem tricklelaw14_DiagExcerpt.calls (k : Nat) (a0 : ByteArray) (a1 : Int) (r : Bool) (w : World) (hG : GW w) (h : tricklelaw14_DiagExcerpt.f k a0 a1 = some r) :
    Calls Tryd.prog 5 #[.string a0, .int .i64 a1] w fun e w' => e = .returned (.bool r) ∧ Below w.heap.size w w' := by
  have HG := Aside0.mk hG
  clear hG
  have HB := Aside0.mk (Below.refl w.heap.size w)
  have H : (if (a0.size : Int) > 300 then ((tricklelaw14_examples.f k).bind fun t166 => (some t166)) else ((diag_Excerpt.f k a0 a1).bind fun t167 => ((trickleref14_Excerpt.f k a0 a1).bind fun t168 => (if t167.toList = t168.toList then ((tricklelaw14_examples.f k).bind fun t169 => (some t169)) else (some false))))) = some r := h
  clear h
  by_cases c3 : (a0.size : Int) > 300
  · rw [if_pos c3] at H
    have c3b0 : decide (300 < (a0.size : Int)) = true := decide_eq_true c3
    have c3b1 : decide (300 < a0.size) = true := decide_eq_true (by omega)
    clear c3
    replace H := Option.bind_eq_some_iff.mp H
    obtain ⟨t166, A40, H⟩ := H
    replace H : (some t166) = some r := H
    have A4 := Aside0.mk A40
    clear A40
    obtain rfl := Option.some.inj H
    go_enter Tryd.func5, Tryd.ntmps5
    go_wp2_with (first | ((with_reducible refine gate_callee (f := 11) rfl ?_); refine goesL_ (some 8) rfl rfl Tryd.func11 (by kernel_rfl) rfl #[] rfl (by (try simp only [List.map_toArray, List.map_cons, List.map_nil]); first | done | rfl | (simp only [List.length_drop, List.length_take]; rfl)) ?_; (with_reducible refine (tricklelaw14_examples.calls k  t166 _ ?side1 A4.out).mono ?_); (case side1 => refine GW.below HG.out ?_; repeat (first | (with_reducible first | exact HB.out | apply below_alloc | apply pw_below_drewN | apply below_drew1) | exact HB.out)); rintro e w5 ⟨rfl, hb⟩; refine ⟨_, rfl, ?_⟩; have n0_ := Aside0.mk (below_step (by repeat (first | (with_reducible first | exact HB.out | apply below_alloc | apply pw_below_drewN | apply below_drew1) | exact HB.out)) hb); clear HB; have HB := n0_; clear n0_; (try clear hb); (try clear hb2); (try clear hk); (try clear hi)))
    go_ret
    exact ⟨by first | rfl | (simp [errW_none, errW_some] <;> rfl) | (simp [*, errW_none, errW_some] <;> rfl), by repeat (first | (with_reducible first | exact HB.out | apply below_alloc | apply pw_below_drewN | apply below_drew1) | exact HB.out)⟩
  · rw [if_neg c3] at H
    have c3b0 : decide (300 < (a0.size : Int)) = false := decide_eq_false c3
    have c3b1 : decide (300 < a0.size) = false := decide_eq_false (by omega)
    clear c3
    replace H := Option.bind_eq_some_iff.mp H
    obtain ⟨t167, A60, H⟩ := H
    replace H : ((trickleref14_Excerpt.f k a0 a1).bind fun t168 => (if t167.toList = t168.toList then ((tricklelaw14_examples.f k).bind fun t169 => (some t169)) else (some false))) = some r := H
    have A6 := Aside0.mk A60
    clear A60
    replace H := Option.bind_eq_some_iff.mp H
    obtain ⟨t168, A70, H⟩ := H
    replace H : (if t167.toList = t168.toList then ((tricklelaw14_examples.f k).bind fun t169 => (some t169)) else (some false)) = some r := H
    have A7 := Aside0.mk A70
    clear A70
    by_cases c8 : t167.toList = t168.toList
    · rw [if_pos c8] at H
      have c8b0 : (t167.toList == t168.toList) = true := beq_iff_eq.mpr c8
      have c8b1 : (t167.toList != t168.toList) = false := bne_eq_false_iff_eq.mpr c8
      clear c8
      replace H := Option.bind_eq_some_iff.mp H
      obtain ⟨t169, A90, H⟩ := H
      replace H : (some t169) = some r := H
      have A9 := Aside0.mk A90
      clear A90
      obtain rfl := Option.some.inj H
      go_enter Tryd.func5, Tryd.ntmps5
      go_wp2_with (first | ((with_reducible refine gate_callee (f := 19) rfl ?_); refine goesL_ (some 11) rfl rfl Tryd.func19 (by kernel_rfl) rfl #[.string a0, .int .i64 a1] rfl (by (try simp only [List.map_toArray, List.map_cons, List.map_nil]); first | done | rfl | (simp only [List.length_drop, List.length_take]; rfl)) ?_; (with_reducible refine (diag_Excerpt.calls k a0 a1 t167 _ A6.out).mono ?_); rintro e w10 ⟨rfl, hb⟩; refine ⟨_, rfl, ?_⟩; have n0_ := Aside0.mk (below_step (by repeat (first | (with_reducible first | exact HB.out | apply below_alloc | apply pw_below_drewN | apply below_drew1) | exact HB.out)) hb); clear HB; have HB := n0_; clear n0_; (try clear hb); (try clear hb2); (try clear hk); (try clear hi)) | ((with_reducible refine gate_callee (f := 20) rfl ?_); refine goesL_ (some 14) rfl rfl Tryd.func20 (by kernel_rfl) rfl #[.string a0, .int .i64 a1] rfl (by (try simp only [List.map_toArray, List.map_cons, List.map_nil]); first | done | rfl | (simp only [List.length_drop, List.length_take]; rfl)) ?_; (with_reducible refine (trickleref14_Excerpt.calls k a0 a1 t168 _ A7.out).mono ?_); rintro e w' ⟨rfl, ⟨nd, rfl⟩⟩; refine ⟨_, rfl, ?_⟩) | (go_at_call 11; (with_reducible refine (tricklelaw14_examples.calls k  t169 _ ?side1 A9.out).mono ?_); (case side1 => refine GW.below HG.out ?_; repeat (first | (with_reducible first | exact HB.out | apply below_alloc | apply pw_below_drewN | apply below_drew1) | exact HB.out)); rintro e w11 ⟨rfl, hb⟩; have n0_ := Aside0.mk (below_step (by repeat (first | (with_reducible first | exact HB.out | apply below_alloc | apply pw_below_drewN | apply below_drew1) | exact HB.out)) hb); clear HB; have HB := n0_; clear n0_; (try clear hb); (try clear hb2); (try clear hk); (try clear hi)))
      go_ret
      exact ⟨by first | rfl | (simp [errW_none, errW_some] <;> rfl) | (simp [*, errW_none, errW_some] <;> rfl), by repeat (first | (with_reducible first | exact HB.out | apply below_alloc | apply pw_below_drewN | apply below_drew1) | exact HB.out)⟩
    · rw [if_neg c8] at H
      have c8b0 : (t167.toList == t168.toList) = false := beq_eq_false_iff_ne.mpr c8
      have c8b1 : (t167.toList != t168.toList) = true := bne_iff_ne.mpr c8
      obtain rfl := Option.some.inj H
      go_enter Tryd.func5, Tryd.ntmps5
      go_wp2_with (first | ((with_reducible refine gate_callee (f := 19) rfl ?_); refine goesL_ (some 11) rfl rfl Tryd.func19 (by kernel_rfl) rfl #[.string a0, .int .i64 a1] rfl (by (try simp only [List.map_toArray, List.map_cons, List.map_nil]); first | done | rfl | (simp only [List.length_drop, List.length_take]; rfl)) ?_; (with_reducible refine (diag_Excerpt.calls k a0 a1 t167 _ A6.out).mono ?_); rintro e w12 ⟨rfl, hb⟩; refine ⟨_, rfl, ?_⟩; have n0_ := Aside0.mk (below_step (by repeat (first | (with_reducible first | exact HB.out | apply below_alloc | apply pw_below_drewN | apply below_drew1) | exact HB.out)) hb); clear HB; have HB := n0_; clear n0_; (try clear hb); (try clear hb2); (try clear hk); (try clear hi)) | ((with_reducible refine gate_callee (f := 20) rfl ?_); refine goesL_ (some 14) rfl rfl Tryd.func20 (by kernel_rfl) rfl #[.string a0, .int .i64 a1] rfl (by (try simp only [List.map_toArray, List.map_cons, List.map_nil]); first | done | rfl | (simp only [List.length_drop, List.length_take]; rfl)) ?_; (with_reducible refine (trickleref14_Excerpt.calls k a0 a1 t168 _ A7.out).mono ?_); rintro e w' ⟨rfl, ⟨nd, rfl⟩⟩; refine ⟨_, rfl, ?_⟩))
      go_ret
      exact ⟨by first | rfl | (simp [errW_none, errW_some] <;> rfl) | (simp [*, errW_none, errW_some] <;> rfl), by repeat (first | (with_reducible first | exact HB.out | apply below_alloc | apply pw_below_drewN | apply below_drew1) | exact HB.out)⟩

end Go.Proofs.YtahgghbhpmpgfaaDoor.PX
/- DiagExcerpt in plain words. -/
namespace Go.Proofs.YtahgghbhpmpgfaaDoor.PX
open Go.RowKit Go.Proofs.YtahgghbhpmpgfaaDoorW.PrintWords Go.Proofs.YtahgghbhpmpgfaaDoorW.PrintLast Go.Proofs.YtahgghbhpmpgfaaDoorW.PrintMore
set_option linter.unusedVariables false
set_option linter.unusedSimpArgs false
theorem bs_ext (s : ByteArray) (a b : Nat) : bs (s.extract a b) = ((bs s).drop a).take (b - a) := by
  show (s.extract a b).data.toList = _
  rw [Lib.extract_data]
  rfl
theorem mk_of (s : ByteArray) (l : List UInt8) (h : bs s = l) : s = mk l := by rw [← h]; rfl
/-- How many bytes stand in front of the first line feed. -/
def cutN : List UInt8 → Nat
  | [] => 0
  | x :: r => if x = 10 then 0 else cutN r + 1
theorem cutN_le (l : List UInt8) : cutN l ≤ l.length := by
  induction l with
  | nil => exact Nat.le_refl _
  | cons x r ih => unfold cutN; rw [List.length_cons]; split <;> omega
theorem cutN_idx (l : List UInt8) : Lib.indexByte l 10 = if cutN l < l.length then (cutN l : Int) else -1 := by
  induction l with
  | nil => rfl
  | cons x r ih =>
    have hle := cutN_le r
    unfold Lib.indexByte cutN
    rw [List.length_cons]
    by_cases hx : x = 10
    · rw [if_pos (beq_iff_eq.mpr hx), if_pos hx, if_pos (by omega)]; rfl
    · rw [if_neg (by rw [beq_iff_eq]; exact hx), if_neg hx, ih]
      by_cases h : cutN r < r.length
      · rw [if_pos h, if_neg (by rw [beq_iff_eq]; omega), if_pos (by omega)]; omega
      · rw [if_neg h, if_neg (show ¬ (cutN r + 1 < r.length + 1) by omega)]; rfl
theorem cut_f (x : ByteArray) (hx : (bs x).length ≤ 1000) : ∃ rest ok, strings_Cut.f x (⟨#[10]⟩ : ByteArray) = some (mk ((bs x).take (cutN (bs x))), rest, ok) := by
  have hi : stringslite_Index.f x (⟨#[10]⟩ : ByteArray) = some (Lib.indexByte (bs x) 10) := rfl
  have hle := cutN_le (bs x)
  unfold strings_Cut.f stringslite_Cut.f
  rw [hi, Option.bind_some, cutN_idx]
  by_cases h : cutN (bs x) < (bs x).length
  · rw [if_pos h]
    have h1 : ((⟨#[10]⟩ : ByteArray).size : Int) = 1 := rfl
    have w : wrap64 ((cutN (bs x) : Int) + 1) = (cutN (bs x) : Int) + 1 := wrap_id (by omega) (by omega)
    rw [h1, w, bs_size, if_pos (by omega), if_pos (by omega), if_pos (by omega), if_pos (by omega), if_pos (by omega), Option.bind_some]
    have hm := mk_of (x.extract 0 ((cutN (bs x) : Int)).toNat) ((bs x).take (cutN (bs x))) (by rw [Int.toNat_natCast, bs_take])
    rw [hm]
    exact ⟨_, _, rfl⟩
  · rw [if_neg h, if_neg (by omega), Option.bind_some]
    rw [List.take_of_length_le (by omega), mk_bs]
    exact ⟨_, _, rfl⟩
def indU (x : UInt8) : UInt8 := if x = 9 then 9 else 32
theorem ind_eq (y : ByteArray) : strOfNums (indI (bytesOf y)) = mk ((bs y).map indU) := by
  apply mk_of
  unfold strOfNums indI bytesOf
  show List.map _ (List.map _ (List.map _ (bs y))) = _
  rw [List.map_map, List.map_map]
  refine List.map_congr_left fun x hx => ?_
  show UInt8.ofNat (if (x.toNat : Int) = 9 then (9 : Int) else 32).toNat = indU x
  unfold indU
  by_cases h : x = 9
  · subst h; rfl
  · rw [if_neg h, if_neg]
    · rfl
    · intro e
      apply h
      apply UInt8.toNat_inj.mp
      have h9 : (9 : UInt8).toNat = 9 := rfl
      rw [h9]
      omega
theorem start_ev (s : ByteArray) (hn : (bs s).length ≤ 1000000) (c : Nat) (hc : c ≤ (bs s).length) : Ev (fun k => diag_start.f k s (c : Int)) (((c + 1 - (posOf ((bs s).take c)).2 : Nat)) : Int) := by
  have hx : bs (s.extract 0 ((c : Int)).toNat) = (bs s).take c := by rw [Int.toNat_natCast, bs_take]
  have hl : ((bs s).take c).length = c := by rw [List.length_take]; omega
  have hr := pos_range ((bs s).take c)
  refine Ev.congr (fun k => by rw [diag_start.f]) (Ev.pos (by omega) (Ev.pos (by rw [bs_size]; omega) ?_))
  refine Ev.bind (last_ev _ (by rw [hx]; omega)) ?_
  rw [hx, hl, wrap_id (by omega) (by omega)]
  refine Ev.cast (Ev.now _) ?_
  omega
/-- What Excerpt writes. -/
def excL (b : List UInt8) (c F : Nat) : List UInt8 := ((b.drop F).take (cutN (b.drop F)) ++ [10]) ++ (((b.drop F).take (c - F)).map indU ++ [94, 10])
theorem excerpt_ev (s : ByteArray) (hs : (bs s).length ≤ 300) (p : Int) : Ev (fun k => diag_Excerpt.f k s p) (mk (excL (bs s) (clampN (bs s).length p) (clampN (bs s).length p + 1 - (posOf ((bs s).take (clampN (bs s).length p))).2))) := by
  refine Ev.congr (fun k => by rw [diag_Excerpt.f]) (Ev.const (clamp_f s p) ?_)
  have hc : clampN (bs s).length p ≤ (bs s).length := Nat.min_le_right _ _
  generalize clampN (bs s).length p = c at *
  refine Ev.bind (start_ev s (by omega) c hc) ?_
  have hr := pos_range ((bs s).take c)
  generalize hF : c + 1 - (posOf ((bs s).take c)).2 = F
  have hFc : F ≤ c := by omega
  have hd : bs (s.extract ((F : Nat) : Int).toNat s.size) = (bs s).drop F := by rw [Int.toNat_natCast, bs_drop]
  obtain ⟨rest, ok, hcut⟩ := cut_f (s.extract ((F : Nat) : Int).toNat s.size) (by rw [hd, List.length_drop]; omega)
  rw [hd] at hcut
  have hle := cutN_le ((bs s).drop F)
  rw [List.length_drop] at hle
  refine Ev.pos ?_ ?_
  · rw [bs_size]; omega
  refine Ev.const hcut ?_
  refine Ev.pos (by rw [mk_size, List.length_take]; omega) ?_
  refine Ev.cast (Ev.now _) ?_
  have h10 : (⟨#[10]⟩ : ByteArray) = mk [10] := rfl
  have h94 : (⟨#[94, 10]⟩ : ByteArray) = mk [94, 10] := rfl
  dsimp only
  rw [ind_eq, h10, h94, Int.toNat_natCast, Int.toNat_natCast, bs_ext, mk_app, mk_app, mk_app]
  unfold excL
  simp only [List.append_assoc]
theorem rexc_l1 (s : ByteArray) (hs : (bs s).length ≤ 300) (c : Nat) (hc : c ≤ (bs s).length) : ∀ (d i : Nat) (acc : List UInt8), i + d = c → acc.length ≤ 400 + i → Ev (fun k => trickleref14_Excerpt.l1 k s (c : Int) (mk acc) (i : Int)) (mk (acc ++ ((((bs s).drop i).take (c - i)).map indU ++ [94, 10])))
  | 0, i, acc, hi, ha => by
    refine Ev.step (fun k => by rw [trickleref14_Excerpt.l1]) (Ev.neg (by omega) ?_)
    rw [show c - i = 0 by omega, List.take_zero, List.map_nil, List.nil_append, mk_size, show (⟨#[94, 10]⟩ : ByteArray) = mk [94, 10] from rfl, mk_app]
    exact Ev.pos (by omega) (Ev.now _)
  | d + 1, i, acc, hi, ha => by
    have hil : i < (bs s).length := by omega
    have w0 : wrap64 ((i : Int) + 1) = ((i + 1 : Nat) : Int) := by rw [wrap_id (by omega) (by omega)]; omega
    refine Ev.step (fun k => by rw [trickleref14_Excerpt.l1]) ?_
    rw [bt_bs s i hil, w0, mk_size, show (⟨#[9]⟩ : ByteArray) = mk [9] from rfl, show (⟨#[32]⟩ : ByteArray) = mk [32] from rfl, mk_app, mk_app]
    clear w0
    refine Ev.pos (by omega) (Ev.pos (by omega) (Ev.pos (by rw [bs_size]; omega) ?_))
    rw [List.drop_eq_getElem_cons hil, show c - i = (c - (i + 1)) + 1 by omega, List.take_succ_cons, List.map_cons]
    by_cases h9 : (bs s)[i] = 9
    · rw [h9]
      refine Ev.pos rfl (Ev.pos (by omega) (Ev.cast (rexc_l1 s hs c hc d (i + 1) _ (by omega) (by rw [List.length_append, List.length_singleton]; omega)) ?_))
      rw [List.append_assoc]
      rfl
    · refine Ev.neg ?_ (Ev.pos (by omega) (Ev.cast (rexc_l1 s hs c hc d (i + 1) _ (by omega) (by rw [List.length_append, List.length_singleton]; omega)) ?_))
      · intro h
        apply h9
        apply UInt8.toNat_inj.mp
        have e9 : (9 : UInt8).toNat = 9 := rfl
        rw [e9]
        omega
      · rw [List.append_assoc]
        unfold indU
        rw [if_neg h9]
        rfl
theorem rexc_j1 (s : ByteArray) (hs : (bs s).length ≤ 300) (c F T : Nat) (hc : c ≤ (bs s).length) (hF : F ≤ c) (hT : F ≤ T) (hTn : T ≤ (bs s).length) : Ev (fun k => trickleref14_Excerpt.j1 k s (c : Int) (F : Int) (T : Int)) (mk ((((bs s).drop F).take (T - F) ++ [10]) ++ ((((bs s).drop F).take (c - F)).map indU ++ [94, 10]))) := by
  have he : s.extract ((F : Nat) : Int).toNat ((T : Nat) : Int).toNat = mk (((bs s).drop F).take (T - F)) := mk_of _ _ (by rw [Int.toNat_natCast, Int.toNat_natCast, bs_ext])
  refine Ev.step (fun k => by rw [trickleref14_Excerpt.j1]) ?_
  rw [he, mk_size, show (⟨#[10]⟩ : ByteArray) = mk [10] from rfl, mk_app]
  have hl : (((bs s).drop F).take (T - F)).length ≤ 300 := by rw [List.length_take, List.length_drop]; omega
  refine Ev.pos (by omega) (Ev.pos (by omega) (Ev.pos (by rw [bs_size]; omega) (Ev.pos (by omega) ?_)))
  exact rexc_l1 s hs c hc (c - F) F _ (by omega) (by rw [List.length_append, List.length_singleton]; omega)
theorem rexc_l0 (s : ByteArray) (hs : (bs s).length ≤ 300) (c F : Nat) (hc : c ≤ (bs s).length) (hF : F ≤ c) : ∀ (d j : Nat), j + d = (bs s).length → F ≤ j → cutN ((bs s).drop F) = (j - F) + cutN ((bs s).drop j) →
    Ev (fun k => trickleref14_Excerpt.l0 k s (c : Int) (F : Int) (j : Int)) (mk (excL (bs s) c F))
  | 0, j, hj, hFj, hcut => by
    refine Ev.step (fun k => by rw [trickleref14_Excerpt.l0]) (Ev.neg (by rw [bs_size]; omega) ?_)
    have h := rexc_j1 s hs c F j hc hF hFj (by omega)
    rw [List.drop_of_length_le (show (bs s).length ≤ j by omega)] at hcut
    have e : j - F = cutN ((bs s).drop F) := by rw [hcut]; rfl
    rw [e] at h
    exact h
  | d + 1, j, hj, hFj, hcut => by
    have hjl : j < (bs s).length := by omega
    have w0 : wrap64 ((j : Int) + 1) = ((j + 1 : Nat) : Int) := by rw [wrap_id (by omega) (by omega)]; omega
    refine Ev.step (fun k => by rw [trickleref14_Excerpt.l0]) ?_
    rw [bt_bs s j hjl, w0]
    clear w0
    rw [List.drop_eq_getElem_cons hjl, cutN] at hcut
    refine Ev.pos (by rw [bs_size]; omega) (Ev.pos (by omega) ?_)
    by_cases h10 : (bs s)[j] = 10
    · rw [if_pos h10] at hcut
      rw [h10]
      refine Ev.pos rfl ?_
      have h := rexc_j1 s hs c F j hc hF hFj (by omega)
      have e : j - F = cutN ((bs s).drop F) := by omega
      rw [e] at h
      exact h
    · rw [if_neg h10] at hcut
      refine Ev.neg ?_ (rexc_l0 s hs c F hc hF d (j + 1) (by omega) (by omega) (by omega))
      intro h
      apply h10
      apply UInt8.toNat_inj.mp
      have e10 : (10 : UInt8).toNat = 10 := rfl
      rw [e10]
      omega
theorem rexcerpt_ev (s : ByteArray) (hs : (bs s).length ≤ 300) (p : Int) : Ev (fun k => trickleref14_Excerpt.f k s p) (mk (excL (bs s) (clampN (bs s).length p) (clampN (bs s).length p + 1 - (posOf ((bs s).take (clampN (bs s).length p))).2))) := by
  refine Ev.congr (fun k => by rw [trickleref14_Excerpt.f]) (Ev.const (rclamp_f s p) ?_)
  have hc : clampN (bs s).length p ≤ (bs s).length := Nat.min_le_right _ _
  generalize clampN (bs s).length p = c at *
  have hp := rposition_ev s (by omega) (c : Int)
  have hcl : clampN (bs s).length (c : Int) = c := by unfold clampN; omega
  rw [hcl] at hp
  have hr := pos_range ((bs s).take c)
  rw [List.length_take] at hr
  refine Ev.bind hp ?_
  have w1 : wrap64 (((posOf ((bs s).take c)).2 : Int) - 1) = ((posOf ((bs s).take c)).2 : Int) - 1 := wrap_id (by omega) (by omega)
  have w2 : wrap64 ((c : Int) - (((posOf ((bs s).take c)).2 : Int) - 1)) = ((c + 1 - (posOf ((bs s).take c)).2 : Nat) : Int) := by rw [wrap_id (by omega) (by omega)]; omega
  dsimp only
  rw [w1, w2]
  clear w1 w2
  exact rexc_l0 s hs c _ hc (by omega) _ _ (Nat.add_sub_of_le (by omega)) (Nat.le_refl _) (by omega)
end Go.Proofs.YtahgghbhpmpgfaaDoor.PX
namespace Go.Proofs.YtahgghbhpmpgfaaDoor.Pure
open Go.RowKit Go.Proofs.YtahgghbhpmpgfaaDoor.PX Go.Proofs.YtahgghbhpmpgfaaDoorW.PrintWords Go.Proofs.YtahgghbhpmpgfaaDoorW.PrintLast
set_option linter.unusedVariables false
theorem DiagExcerpt (s : ByteArray) (p : Int) (hs : s.size ≤ 140737488351232) : ∃ n, tricklelaw14_DiagExcerpt.f n s p = some true := by
  refine Ev.rounds (Ev.congr (fun n => by rw [tricklelaw14_DiagExcerpt.f, bs_size]) ?_)
  by_cases h : ((bs s).length : Int) > 300
  · exact Ev.pos h (Ev.bind examples_ev (Ev.now _))
  exact Ev.neg h (Ev.bind (excerpt_ev s (by omega) p) (Ev.bind (rexcerpt_ev s (by omega) p) (Ev.pos rfl (Ev.bind examples_ev (Ev.now _)))))
end Go.Proofs.YtahgghbhpmpgfaaDoor.Pure
/- As the library's returnsInHanded_of_change_and, and the contract also gets that the world is shaped. -/
namespace Go.Proofs.YtahgghbhpmpgfaaDoor.PX
open Go Go.ChangeShapes Go.WideShapes Go.RowKit
theorem handed_shaped {H : Type} {enc : TypeId × Value → H} {a : Assume} {C : Checked} {os : Os} {f : FuncId} {fn : Func} {s : ChangeSpec} {conds : List PathCond} {apart fresh handsOn again : Bool} {X : World → Array Value → Prop}
    (hX : ∀ (w w' : World) (args : Array Value), w.heap = w'.heap → X w args → X w' args)
    (own : ownKnob C.prog.godebug = none) (started : os.Started) (noInit : C.prog.inits.idxOf? f = none) (hfn : C.prog.funcs[f]? = some fn)
    (witness : ∃ (w : World) (tape : Tape) (i : Input), w.os = os ∧ (w.forCall tape i).Shaped C.prog ∧ i.vars = [] ∧ Input.okWide C.prog (w.forCall tape i) .any w.heap.size f i ∧
      ((s.pre enc C.prog fn conds apart (w.forCall tape i).memory i.args ∧ X (w.forCall tape i).memory i.args) ∧ sizedMet enc C.prog fn (OpenSpec.ofChange s) apart (w.forCall tape i).memory i.args) ∧ a.holds C.prog (lone (Frame.enter C.prog f i.args .normal) [] (w.forCall tape i)))
    (contract : ∀ (W : World) (base : Nat) (args : Array Value) (ds gs : List (DataW H)) (before : List MemPlace), W.ShapedOpen C.prog →
      (∀ (j : Nat) t v, fn.params[j]? = some t → args[j]? = some v → Value.okWide C.prog W .any base t v) →
      DataW.Whole enc C.prog fn.params.toList s.vars apart W args.toList ds gs before →
      conds.all (PathCond.test C.prog ⟨fn.params.toList, ds, s.plain.varTypes C.prog, gs⟩) = true →
      (DataW.weightsEach C.prog (fn.params.toList ++ s.plain.varTypes C.prog) (ds ++ gs)).all (· ≤ reachBytes) = true → X W args →
      a.holds C.prog (lone (Frame.enter C.prog f args .normal) [] W) →
      Calls C.prog f args W fun e W' => ∃ v, e = .returned v ∧ s.post enc C.prog fn apart fresh handsOn again W args v W') :
    ReturnsInHanded a C os f .any (fun w args => (s.pre enc C.prog fn conds apart w args ∧ X w args) ∧ sizedMet enc C.prog fn (OpenSpec.ofChange s) apart w args) (s.post enc C.prog fn apart fresh handsOn again) := by
  refine returnsInHanded_of_calls own started noInit witness ?_
  intro w tape i _ hsh _ hok hpre hholds
  obtain ⟨_, _, _, fn', hfn', _, _, _, _, hval⟩ := hok
  have e : fn' = fn := Option.some.inj (hfn'.symm.trans hfn)
  subst e
  obtain ⟨⟨⟨ds, gs, before, hw, hc⟩, hx⟩, hz⟩ := hpre
  have hw' := DataW.Whole.of_heap (w' := w.forCall tape i) (by rfl) hw
  refine (contract (w.forCall tape i) w.heap.size i.args ds gs before hsh hval hw' hc (hz.weights hw) (hX _ _ _ (by rfl) hx) hholds).mono fun e W' ⟨v, he, hp⟩ => ?_
  subst he
  exact ChangeSpec.post_blind hp
end Go.Proofs.YtahgghbhpmpgfaaDoor.PX
