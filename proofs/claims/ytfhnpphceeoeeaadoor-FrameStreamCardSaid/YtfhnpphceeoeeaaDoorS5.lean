/- Parts of the proof, merged in build order: St7, Cob5, PXx18, Cr2, Cob6, Cob7, MSplit, Cob8. -/
import Derived.Test.YtfhnpphceeoeeaaDoorS1
import Derived.Test.YtfhnpphceeoeeaaDoorS2
import Derived.Test.YtfhnpphceeoeeaaDoorS3
import Derived.Test.YtfhnpphceeoeeaaDoorS4
-- Written by a program of this session (wip/xprint.py, over the kit's print tool). Lean checks it.
namespace Go.Proofs.YtfhnpphceeoeeaaDoor.PX
open Go.RowKit Go.Proofs.YtfhnpphceeoeeaaDoorW.PrintWords Go.Proofs.YtfhnpphceeoeeaaDoorW.PrintLast Go.Proofs.YtfhnpphceeoeeaaDoorW.PrintMore
attribute [local go_sem] max2_int min2_int max_two min_two max_three min_three max_four min_four   -- for this text's walks alone
set_option linter.unusedVariables false
set_option linter.unusedSimpArgs false

/-! ### trickleref03_Decode: function 71 -/
mutual
def trickleref03_Decode.j0 : Nat → List Int → Bool → Option (List Int × Int)
  | 0, _, _ => none
  | k + 1, x0, x18 => if x18 = true then (some (([] : List Int), 3)) else (trickleref03_Decode.l0 k x0 ([] : List Int) 0)
def trickleref03_Decode.l0 : Nat → List Int → List Int → Int → Option (List Int × Int)
  | 0, _, _, _ => none
  | k + 1, x0, x4, x5 => if x5 < (wrap64 ((x0.length : Int) - 1)) then (if 0 ≤ x5 then (if x5 < (x0.length : Int) then (if (wrap64 (rd x0 x5)) = 0 then (trickleref03_Decode.j2 k x0 x4 x5 (wrap64 (rd x0 x5)) true) else (trickleref03_Decode.j2 k x0 x4 x5 (wrap64 (rd x0 x5)) (decide ((wrap64 (x5 + (wrap64 (rd x0 x5)))) > (wrap64 ((x0.length : Int) - 1)))))) else (none)) else (none)) else ((trickleref03_Encode.f k x4).bind fun t274 => ((trickleref03_Same.f t274 x0).bind fun t277 => (if t277 = true then (some (x4, 0)) else (some (([] : List Int), 2)))))
def trickleref03_Decode.j2 : Nat → List Int → List Int → Int → Int → Bool → Option (List Int × Int)
  | 0, _, _, _, _, _ => none
  | k + 1, x0, x4, x5, x6, x39 => if x39 = true then (some (([] : List Int), 2)) else (if 0 ≤ (wrap64 (x5 + 1)) then (if (wrap64 (x5 + 1)) ≤ (wrap64 (x5 + x6)) then (if (wrap64 (x5 + x6)) ≤ (x0.length : Int) then (if x4.length + ((x0.take ((wrap64 (x5 + x6)) : Int).toNat).drop ((wrap64 (x5 + 1)) : Int).toNat).length < 140737488355328 then ((some (x4 ++ ((x0.take ((wrap64 (x5 + x6)) : Int).toNat).drop ((wrap64 (x5 + 1)) : Int).toNat) : List Int)).bind fun y268 => (if x6 < 255 then (if (wrap64 (x5 + x6)) < (wrap64 ((x0.length : Int) - 1)) then (if y268.length < 140737488355328 then (trickleref03_Decode.l0 k x0 (y268 ++ [0]) (wrap64 (x5 + x6))) else (none)) else (trickleref03_Decode.l0 k x0 y268 (wrap64 (x5 + x6)))) else (trickleref03_Decode.l0 k x0 y268 (wrap64 (x5 + x6))))) else (none)) else (none)) else (none)) else (none))
end
def trickleref03_Decode.f (k : Nat) (l0 : List Int) : Option (List Int × Int) := if (l0.length : Int) = 0 then (trickleref03_Decode.j0 k l0 true) else (if 0 ≤ (wrap64 ((l0.length : Int) - 1)) then (if (wrap64 ((l0.length : Int) - 1)) < (l0.length : Int) then (trickleref03_Decode.j0 k l0 ((rd l0 (wrap64 ((l0.length : Int) - 1))) != 0)) else (none)) else (none))
set_option maxHeartbeats 8000000 in
set_option maxRecDepth 100000 in
theorem trickleref03_Decode.calls (k : Nat) (A0 : Option Addr) (c0 : Nat) (l0 : List Int) (r1 : List Int) (r2 : Int) (w : World) (hr0 : Kd.C (Kd.int .u8) w A0 l0.length l0) (hc0 : l0.length ≤ c0) (h : trickleref03_Decode.f k l0 = some (r1, r2)) :
    Calls Tryd.prog 71 #[.slice A0 l0.length c0] w fun e w' => ∃ v0_ : Value, e = .returned (.tuple #[v0_, .int .i64 r2]) ∧ Kd.R (Kd.int .u8) 5 w' w.heap.size (fun _ => True) v0_ r1 ∧ Below w.heap.size w w' := by
  have HR0 := Aside0.mk hr0
  have HC0 := Aside0.mk hc0
  clear hr0 hc0
  have HB := Aside0.mk (Below.refl w.heap.size w)
  have H : (if (l0.length : Int) = 0 then (trickleref03_Decode.j0 k l0 true) else (if 0 ≤ (wrap64 ((l0.length : Int) - 1)) then (if (wrap64 ((l0.length : Int) - 1)) < (l0.length : Int) then (trickleref03_Decode.j0 k l0 ((rd l0 (wrap64 ((l0.length : Int) - 1))) != 0)) else (none)) else (none))) = some (r1, r2) := h
  clear h
  have HC2 := Aside0.mk H
  clear H
  go_enter Tryd.func71, Tryd.ntmps71
  go_upto_region 1 with (fail)
  go_cut [18] (fun v18 wc => ∃ (kq : Nat) (x18_1 : Bool), v18 = .bool x18_1 ∧ Aside0 (trickleref03_Decode.j0 kq l0 x18_1 = some (r1, r2)) ∧ Aside0 (kq ≤ k) ∧ Aside0 (Below w.heap.size w wc))
  case first =>
    have H := HC2.out
    clear HC2
    by_cases c3 : (l0.length : Int) = 0
    · rw [if_pos c3] at H
      have c3b0 : ((l0.length : Int) == 0) = true := beq_iff_eq.mpr c3
      have c3b1 : ((l0.length : Int) != 0) = false := bne_eq_false_iff_eq.mpr c3
      clear c3
      (first | rw [c3b0] | (simp only [i64_w, i32_w]; rw [c3b0]) | skip)
      have H' := Aside0.mk H
      clear H
      go_wp2
      go_meet
      case rel => exact ⟨_, (true), (by first | rfl | (simp; done) | (simp [*]; done)), H', ⟨by first | omega | exact Nat.le_refl _⟩, ⟨by repeat (first | (with_reducible first | exact HB.out | apply below_alloc | apply pw_below_drewN | apply below_drew1) | exact HB.out)⟩⟩
    · rw [if_neg c3] at H
      have c3b0 : ((l0.length : Int) == 0) = false := beq_eq_false_iff_ne.mpr c3
      have c3b1 : ((l0.length : Int) != 0) = true := bne_iff_ne.mpr c3
      have c3b2 : ¬ (l0 = []) := fun h_ => c3 (by rw [h_]; rfl)
      (first | rw [c3b0] | (simp only [i64_w, i32_w]; rw [c3b0]) | skip)
      obtain ⟨ji4, hji4⟩ : ∃ j_ : Int, (wrap64 ((l0.length : Int) - 1)) = j_ := ⟨_, rfl⟩
      replace H : (if 0 ≤ (ji4) then (if (ji4) < (l0.length : Int) then (trickleref03_Decode.j0 k l0 ((rd l0 (ji4)) != 0)) else (none)) else (none)) = some (r1, r2) := by first | (rw [hji4] at H; exact H) | (simp only [hji4] at H ⊢; exact H)
      have hji4w : (IntKind.i64.wrap ((l0.length : Int) - 1)) = ji4 := (i64_w _).trans hji4
      by_cases c5 : 0 ≤ (ji4)
      · rw [if_pos c5] at H
        have c5b0 : decide (0 ≤ (ji4)) = true := decide_eq_true c5
        clear c5
        by_cases c6 : (ji4) < (l0.length : Int)
        · rw [if_pos c6] at H
          have c6b0 : decide ((ji4) < (l0.length : Int)) = true := decide_eq_true c6
          clear c6
          have H' := Aside0.mk H
          clear H
          have p265 : 0 ≤ ((ji4) : Int) := of_decide_eq_true (by first | (with_reducible assumption) | assumption)
          have q265 : (ji4) < (l0.length : Int) := of_decide_eq_true (by first | (with_reducible assumption) | assumption)
          obtain ⟨ad265, e265, hx265_0⟩ := Kd.at_int HR0.out (ji4) p265 q265
          cases e265
          replace hx265_0 := (HB.out.cell (World.block_lt_of_cell? w _ hx265_0)).trans hx265_0
          replace p265 := eq_true p265
          replace q265 := eq_true q265
          go_wp2
          go_meet
          case rel => exact ⟨_, (((rd l0 (ji4)) != 0)), (by first | rfl | (simp; done) | (simp only [← hji4] <;> (first | rfl | simp)) | (simp [*]; done)), H', ⟨by first | omega | exact Nat.le_refl _⟩, ⟨by repeat (first | (with_reducible first | exact HB.out | apply below_alloc | apply pw_below_drewN | apply below_drew1) | exact HB.out)⟩⟩
        · rw [if_neg c6] at H
          exact absurd H (by simp)
      · rw [if_neg c5] at H
        exact absurd H (by simp)
  case rest =>
    clear HC2
    try clear p2
    try clear q2
    try clear hx2
    try clear c3
    try clear c3b0
    try clear c3b1
    try clear c3b2
    try clear c5
    try clear c5b0
    try clear c6
    try clear c6b0
    try clear p6
    try clear hx265_0
    try clear p265
    try clear q265
    obtain ⟨kq, x18_1, rfl, HA, HJ1, HB⟩ := hcut
    cases kq with
    | zero => exact absurd HA.out (by simp [trickleref03_Decode.j0])
    | succ kj1 =>
      have H := HA.out
      clear HA
      simp only [trickleref03_Decode.j0] at H
      by_cases c7 : x18_1 = true
      · subst c7
        have H1 : (some (([] : List Int), 3)) = some (r1, r2) := by rw [if_pos rfl] at H; exact H
        clear H
        have H := H1
        clear H1
        simp only [Option.some.injEq, Prod.mk.injEq] at H
        obtain ⟨rfl, rfl⟩ := H
        go_wp2
        go_ret2
        exact ⟨_, by first | rfl | (simp [errW_none, errW_some] <;> rfl) | (simp [*, errW_none, errW_some] <;> rfl), by first | exact Kd.R_nil _ _ _ _ _ | exact Kd.N_nil _ _ _ _ _ | exact Kd.V_nil _ _ _ _ _ | exact Kd.Q_nil _ _ _ _ _ | exact Kd.S_nil _ _ _ _ _, by repeat (first | (with_reducible first | exact HB.out | apply below_alloc | apply pw_below_drewN | apply below_drew1) | exact HB.out)⟩
      · replace c7 := Bool.eq_false_iff.mpr c7
        subst c7
        have H1 : (trickleref03_Decode.l0 kj1 l0 ([] : List Int) 0) = some (r1, r2) := by rw [if_neg (show ¬ (false = true) by decide)] at H; exact H
        clear H
        have H := H1
        clear H1
        have H' := Aside0.mk H
        clear H
        go_wp2
        go_loopg [4, 5] kj1 (fun kq v4 v5 w' => ∃ (x4_2 : List Int) (x5_2 : Int), v5 = .int .i64 x5_2 ∧ Aside0 (trickleref03_Decode.l0 kq l0 x4_2 x5_2 = some (r1, r2)) ∧ Aside0 (kq ≤ kj1) ∧ Aside0 (Kd.R (Kd.int .u8) 5 w' w.heap.size (fun _ => True) v4 x4_2) ∧ Aside0 (Below w.heap.size w w'))
        case atStart => exact ⟨(([] : List Int)), (0), (by first | rfl | (simp; done) | (simp [*]; done)), H', ⟨Nat.le_refl _⟩, ⟨by first | exact Kd.R_nil _ _ _ _ _ | exact Kd.N_nil _ _ _ _ _ | exact Kd.V_nil _ _ _ _ _ | exact Kd.Q_nil _ _ _ _ _ | exact Kd.S_nil _ _ _ _ _⟩, ⟨by repeat (first | (with_reducible first | exact HB.out | apply below_alloc | apply pw_below_drewN | apply below_drew1) | exact HB.out)⟩⟩
        case round =>
          clear H'
          try clear p2
          try clear q2
          try clear hx2
          try clear c3
          try clear c3b0
          try clear c3b1
          try clear c3b2
          try clear c5
          try clear c5b0
          try clear c6
          try clear c6b0
          try clear p6
          try clear c7
          try clear hx265_0
          try clear p2
          try clear p265
          try clear p6
          try clear q2
          try clear q265
          obtain ⟨x4_2, x5_2, rfl, HA, HK2, HO_4, HB⟩ := hrel
          cases gk with
          | zero => exact absurd HA.out (by simp [trickleref03_Decode.l0])
          | succ k2 =>
            have H := HA.out
            clear HA
            simp only [trickleref03_Decode.l0] at H
            by_cases c8 : x5_2 < (wrap64 ((l0.length : Int) - 1))
            · rw [if_pos c8] at H
              have c8b0 : decide (x5_2 < (wrap64 ((l0.length : Int) - 1))) = true := decide_eq_true c8
              clear c8
              by_cases c9 : 0 ≤ x5_2
              · rw [if_pos c9] at H
                have c9b0 : decide (0 ≤ x5_2) = true := decide_eq_true c9
                clear c9
                by_cases c10 : x5_2 < (l0.length : Int)
                · rw [if_pos c10] at H
                  have c10b0 : decide (x5_2 < (l0.length : Int)) = true := decide_eq_true c10
                  clear c10
                  have HC11 := Aside0.mk H
                  clear H
                  have p266 : 0 ≤ (x5_2 : Int) := of_decide_eq_true (by first | (with_reducible assumption) | assumption)
                  have q266 : x5_2 < (l0.length : Int) := of_decide_eq_true (by first | (with_reducible assumption) | assumption)
                  obtain ⟨ad266, e266, hx266_0⟩ := Kd.at_int HR0.out x5_2 p266 q266
                  cases e266
                  replace hx266_0 := (HB.out.cell (World.block_lt_of_cell? w _ hx266_0)).trans hx266_0
                  replace p266 := eq_true p266
                  replace q266 := eq_true q266
                  go_upto_region 7 with (fail)
                  go_cut [39] (fun v39 wc => ∃ (kq : Nat) (x39_10 : Bool), v39 = .bool x39_10 ∧ Aside0 (trickleref03_Decode.j2 kq l0 x4_2 x5_2 (wrap64 (rd l0 x5_2)) x39_10 = some (r1, r2)) ∧ Aside0 (kq ≤ k2) ∧ Aside0 (Kd.R (Kd.int .u8) 5 wc w.heap.size (fun _ => True) u4 x4_2) ∧ Aside0 (Below w.heap.size w wc))
                  case first =>
                    have H := HC11.out
                    clear HC11
                    by_cases c12 : (wrap64 (rd l0 x5_2)) = 0
                    · rw [if_pos c12] at H
                      have c12b0 : ((wrap64 (rd l0 x5_2)) == 0) = true := beq_iff_eq.mpr c12
                      have c12b1 : ((wrap64 (rd l0 x5_2)) != 0) = false := bne_eq_false_iff_eq.mpr c12
                      clear c12
                      (first | rw [c12b0] | (simp only [i64_w, i32_w]; rw [c12b0]) | skip)
                      have H' := Aside0.mk H
                      clear H
                      go_wp2
                      go_meet
                      case rel => exact ⟨_, (true), (by first | rfl | (simp; done) | (simp [*]; done)), H', ⟨by have := HJ1.out; have := HK2.out; first | omega | exact Nat.le_refl _⟩, ⟨by (with_reducible repeat (first | apply Kd.R_alloc | apply Kd.R_drewN | apply Kd.R_drew)); exact HO_4.out⟩, ⟨by repeat (first | (with_reducible first | exact HB.out | apply below_alloc | apply pw_below_drewN | apply below_drew1) | exact HB.out)⟩⟩
                    · rw [if_neg c12] at H
                      have c12b0 : ((wrap64 (rd l0 x5_2)) == 0) = false := beq_eq_false_iff_ne.mpr c12
                      have c12b1 : ((wrap64 (rd l0 x5_2)) != 0) = true := bne_iff_ne.mpr c12
                      (first | rw [c12b0] | (simp only [i64_w, i32_w]; rw [c12b0]) | skip)
                      have H' := Aside0.mk H
                      clear H
                      go_wp2
                      go_meet
                      case rel => exact ⟨_, (decide ((wrap64 (x5_2 + (wrap64 (rd l0 x5_2)))) > (wrap64 ((l0.length : Int) - 1)))), (by first | rfl | (simp; done) | (simp [*]; done)), H', ⟨by have := HJ1.out; have := HK2.out; first | omega | exact Nat.le_refl _⟩, ⟨by (with_reducible repeat (first | apply Kd.R_alloc | apply Kd.R_drewN | apply Kd.R_drew)); exact HO_4.out⟩, ⟨by repeat (first | (with_reducible first | exact HB.out | apply below_alloc | apply pw_below_drewN | apply below_drew1) | exact HB.out)⟩⟩
                  case rest =>
                    clear HC11
                    try clear c1
                    try clear p2
                    try clear q2
                    try clear hx2
                    try clear c3
                    try clear c3b0
                    try clear c3b1
                    try clear c3b2
                    try clear c5
                    try clear c5b0
                    try clear c6
                    try clear c6b0
                    try clear p6
                    try clear c7
                    try clear c8
                    try clear c8b0
                    try clear c9
                    try clear c9b0
                    try clear c10
                    try clear c10b0
                    try clear c12
                    try clear c12b0
                    try clear c12b1
                    try clear hx265_0
                    try clear hx266_0
                    try clear p2
                    try clear p265
                    try clear p266
                    try clear p6
                    try clear q2
                    try clear q265
                    try clear q266
                    obtain ⟨kq, x39_10, rfl, HA, HJ10, HO_4, HB⟩ := hcut
                    cases kq with
                    | zero => exact absurd HA.out (by simp [trickleref03_Decode.j2])
                    | succ kj10 =>
                      have H := HA.out
                      clear HA
                      simp only [trickleref03_Decode.j2] at H
                      by_cases c13 : x39_10 = true
                      · subst c13
                        have H1 : (some (([] : List Int), 2)) = some (r1, r2) := by rw [if_pos rfl] at H; exact H
                        clear H
                        have H := H1
                        clear H1
                        simp only [Option.some.injEq, Prod.mk.injEq] at H
                        obtain ⟨rfl, rfl⟩ := H
                        go_wp2
                        go_ret2
                        exact ⟨_, by first | rfl | (simp [errW_none, errW_some] <;> rfl) | (simp [*, errW_none, errW_some] <;> rfl), by first | exact Kd.R_nil _ _ _ _ _ | exact Kd.N_nil _ _ _ _ _ | exact Kd.V_nil _ _ _ _ _ | exact Kd.Q_nil _ _ _ _ _ | exact Kd.S_nil _ _ _ _ _, by repeat (first | (with_reducible first | exact HB.out | apply below_alloc | apply pw_below_drewN | apply below_drew1) | exact HB.out)⟩
                      · replace c13 := Bool.eq_false_iff.mpr c13
                        subst c13
                        have H1 : (if 0 ≤ (wrap64 (x5_2 + 1)) then (if (wrap64 (x5_2 + 1)) ≤ (wrap64 (x5_2 + (wrap64 (rd l0 x5_2)))) then (if (wrap64 (x5_2 + (wrap64 (rd l0 x5_2)))) ≤ (l0.length : Int) then (if x4_2.length + ((l0.take ((wrap64 (x5_2 + (wrap64 (rd l0 x5_2)))) : Int).toNat).drop ((wrap64 (x5_2 + 1)) : Int).toNat).length < 140737488355328 then ((some (x4_2 ++ ((l0.take ((wrap64 (x5_2 + (wrap64 (rd l0 x5_2)))) : Int).toNat).drop ((wrap64 (x5_2 + 1)) : Int).toNat) : List Int)).bind fun y268 => (if (wrap64 (rd l0 x5_2)) < 255 then (if (wrap64 (x5_2 + (wrap64 (rd l0 x5_2)))) < (wrap64 ((l0.length : Int) - 1)) then (if y268.length < 140737488355328 then (trickleref03_Decode.l0 kj10 l0 (y268 ++ [0]) (wrap64 (x5_2 + (wrap64 (rd l0 x5_2))))) else (none)) else (trickleref03_Decode.l0 kj10 l0 y268 (wrap64 (x5_2 + (wrap64 (rd l0 x5_2)))))) else (trickleref03_Decode.l0 kj10 l0 y268 (wrap64 (x5_2 + (wrap64 (rd l0 x5_2))))))) else (none)) else (none)) else (none)) else (none)) = some (r1, r2) := by rw [if_neg (show ¬ (false = true) by decide)] at H; exact H
                        clear H
                        have H := H1
                        clear H1
                        obtain ⟨ji14, hji14⟩ : ∃ j_ : Int, (wrap64 (x5_2 + 1)) = j_ := ⟨_, rfl⟩
                        replace H : (if 0 ≤ (ji14) then (if (ji14) ≤ (wrap64 (x5_2 + (wrap64 (rd l0 x5_2)))) then (if (wrap64 (x5_2 + (wrap64 (rd l0 x5_2)))) ≤ (l0.length : Int) then (if x4_2.length + ((l0.take ((wrap64 (x5_2 + (wrap64 (rd l0 x5_2)))) : Int).toNat).drop ((ji14) : Int).toNat).length < 140737488355328 then ((some (x4_2 ++ ((l0.take ((wrap64 (x5_2 + (wrap64 (rd l0 x5_2)))) : Int).toNat).drop ((ji14) : Int).toNat) : List Int)).bind fun y268 => (if (wrap64 (rd l0 x5_2)) < 255 then (if (wrap64 (x5_2 + (wrap64 (rd l0 x5_2)))) < (wrap64 ((l0.length : Int) - 1)) then (if y268.length < 140737488355328 then (trickleref03_Decode.l0 kj10 l0 (y268 ++ [0]) (wrap64 (x5_2 + (wrap64 (rd l0 x5_2))))) else (none)) else (trickleref03_Decode.l0 kj10 l0 y268 (wrap64 (x5_2 + (wrap64 (rd l0 x5_2)))))) else (trickleref03_Decode.l0 kj10 l0 y268 (wrap64 (x5_2 + (wrap64 (rd l0 x5_2))))))) else (none)) else (none)) else (none)) else (none)) = some (r1, r2) := by first | (rw [hji14] at H; exact H) | (simp only [hji14] at H ⊢; exact H)
                        have hji14w : (IntKind.i64.wrap (x5_2 + 1)) = ji14 := (i64_w _).trans hji14
                        by_cases c15 : 0 ≤ (ji14)
                        · rw [if_pos c15] at H
                          have c15b0 := eq_true c15
                          have c15b1 : decide (0 ≤ (ji14)) = true := decide_eq_true c15
                          clear c15
                          by_cases c16 : (ji14) ≤ (wrap64 (x5_2 + (wrap64 (rd l0 x5_2))))
                          · rw [if_pos c16] at H
                            have c16b0 := eq_true c16
                            have c16b1 : decide ((ji14) ≤ (wrap64 (x5_2 + (wrap64 (rd l0 x5_2))))) = true := decide_eq_true c16
                            by_cases c17 : (wrap64 (x5_2 + (wrap64 (rd l0 x5_2)))) ≤ (l0.length : Int)
                            · rw [if_pos c17] at H
                              have c17b0 := eq_true c17
                              have c17b1 : decide ((wrap64 (x5_2 + (wrap64 (rd l0 x5_2)))) ≤ (l0.length : Int)) = true := decide_eq_true c17
                              by_cases c18 : x4_2.length + ((l0.take ((wrap64 (x5_2 + (wrap64 (rd l0 x5_2)))) : Int).toNat).drop ((ji14) : Int).toNat).length < 140737488355328
                              · rw [if_pos c18] at H
                                have LMc18 := Aside0.mk c18
                                clear c18
                                obtain ⟨y268, hy268⟩ : ∃ y_ : List Int, y_ = (x4_2 ++ ((l0.take ((wrap64 (x5_2 + (wrap64 (rd l0 x5_2)))) : Int).toNat).drop ((ji14) : Int).toNat)) := ⟨_, rfl⟩
                                replace H : (if (wrap64 (rd l0 x5_2)) < 255 then (if (wrap64 (x5_2 + (wrap64 (rd l0 x5_2)))) < (wrap64 ((l0.length : Int) - 1)) then (if y268.length < 140737488355328 then (trickleref03_Decode.l0 kj10 l0 (y268 ++ [0]) (wrap64 (x5_2 + (wrap64 (rd l0 x5_2))))) else (none)) else (trickleref03_Decode.l0 kj10 l0 y268 (wrap64 (x5_2 + (wrap64 (rd l0 x5_2)))))) else (trickleref03_Decode.l0 kj10 l0 y268 (wrap64 (x5_2 + (wrap64 (rd l0 x5_2)))))) = some (r1, r2) := by first | (rw [hy268]; with_reducible exact H) | (have H2_ := (Option.bind_some _ _).symm.trans H; rw [hy268]; with_reducible exact H2_) | (have H2_ := (Option.bind_some _ _).symm.trans H; with_reducible exact H2_) | with_reducible exact H | (rw [hy268]; exact H) | exact H
                                have Ny268 := Aside0.mk hy268
                                clear hy268
                                by_cases c19 : (wrap64 (rd l0 x5_2)) < 255
                                · rw [if_pos c19] at H
                                  have c19b0 : decide ((wrap64 (rd l0 x5_2)) < 255) = true := decide_eq_true c19
                                  clear c19
                                  by_cases c20 : (wrap64 (x5_2 + (wrap64 (rd l0 x5_2)))) < (wrap64 ((l0.length : Int) - 1))
                                  · rw [if_pos c20] at H
                                    have c20b0 : decide ((wrap64 (x5_2 + (wrap64 (rd l0 x5_2)))) < (wrap64 ((l0.length : Int) - 1))) = true := decide_eq_true c20
                                    clear c20
                                    by_cases c21 : y268.length < 140737488355328
                                    · rw [if_pos c21] at H
                                      have LMc21 := Aside0.mk c21
                                      clear c21
                                      obtain ⟨y271, hy271⟩ : ∃ y_ : List Int, y_ = (y268 ++ [0]) := ⟨_, rfl⟩
                                      replace H : (trickleref03_Decode.l0 kj10 l0 y271 (wrap64 (x5_2 + (wrap64 (rd l0 x5_2))))) = some (r1, r2) := by first | (rw [hy271]; with_reducible exact H) | (have H2_ := (Option.bind_some _ _).symm.trans H; rw [hy271]; with_reducible exact H2_) | (have H2_ := (Option.bind_some _ _).symm.trans H; with_reducible exact H2_) | with_reducible exact H | (rw [hy271]; exact H) | exact H
                                      have Ny271 := Aside0.mk hy271
                                      clear hy271
                                      have H' := Aside0.mk H
                                      clear H
                                      obtain ⟨i022, hi022, _, hsz22, _⟩ := info_parts info5
                                      obtain ⟨A22, hcut22, hA22, hC22⟩ := print_mid_of (P := Tryd.prog) (Value.int .u8) 0 24 5 .i64 .i64 Tryd.underlying24 hi022 hsz22 (some ad266) c0 l0 (ji14) (wrap64 (x5_2 + (wrap64 (rd l0 x5_2)))) (of_decide_eq_true (by first | (with_reducible assumption) | assumption)) (by first | omega | exact of_decide_eq_true (by first | (with_reducible assumption) | assumption)) (of_decide_eq_true (by first | (with_reducible assumption) | assumption)) HC0.out
                                      have HR267 := Aside0.mk (Kd.C_of_reads (h1 := fun _ => rfl) (hA22 _ (Kd.reads_of_C HR0.out)))
                                      have HC267 := Aside0.mk hC22
                                      clear hA22 hC22 hi022 hsz22
                                      go_wp2_with (first | ((with_reducible refine gate_builtin (b := .append) (xs := #[.tmp 40, .tmp 47]) rfl ?_); (try (refine gate_guard (by rfl) ?_; dsimp only)); at_builtin; refine Kd.R_append_rows (Kd.int .u8) (w0 := w) w.heap.size rfl (.tmp 40) (.tmp 47) 24 5 (.int .u8 0) 1 rfl Tryd.underlying24 info5 rfl (by decide) (by omega) u4 x4_2 ((l0.take ((wrap64 (x5_2 + (wrap64 (rd l0 x5_2)))) : Int).toNat).drop ((ji14) : Int).toNat) _ _ _ (fun _ => True) (fun _ => False) rfl rfl ?aO ?aR (fun _ _ h => h) (fun _ h => h.elim) ?aF ?aB ?aS ?aL ?_; (case aR => first | (rw [← show ((l0.take ((wrap64 (x5_2 + (wrap64 (rd l0 x5_2)))) : Int).toNat).drop ((ji14) : Int).toNat).length = ((wrap64 (x5_2 + (wrap64 (rd l0 x5_2)))).toNat - (ji14).toNat) from (by rw [List.length_drop, List.length_take]; have h_ : ((wrap64 (x5_2 + (wrap64 (rd l0 x5_2)))) : Int) ≤ (l0.length : Int) := of_decide_eq_true (by first | (with_reducible assumption) | assumption); omega)]; repeat (first | exact (Kd.C_below HR267.out HB.out) | (with_reducible refine Kd.C_alloc ?_ _) | (with_reducible refine Kd.C_drewN ?_ _) | (with_reducible refine Kd.C_drew ?_))) | (repeat (first | exact (Kd.C_below HR267.out HB.out) | (with_reducible refine Kd.C_alloc ?_ _) | (with_reducible refine Kd.C_drewN ?_ _) | (with_reducible refine Kd.C_drew ?_)))); (case aB => exact (by repeat (first | (with_reducible first | exact HB.out | apply below_alloc | apply pw_below_drewN | apply below_drew1) | exact HB.out))); (case aF => exact (fun _ _ => trivial)); (case aO => exact (by (with_reducible repeat (first | apply Kd.R_alloc | apply Kd.R_drewN | apply Kd.R_drew)); exact HO_4.out)); (case aS => exact (below_size (by repeat (first | (with_reducible first | exact HB.out | apply below_alloc | apply pw_below_drewN | apply below_drew1) | exact HB.out)))); (case aL => have := LMc18.out; have hlx_ := (show ((l0.take ((wrap64 (x5_2 + (wrap64 (rd l0 x5_2)))) : Int).toNat).drop ((ji14) : Int).toNat).length = ((wrap64 (x5_2 + (wrap64 (rd l0 x5_2)))).toNat - (ji14).toNat) from (by rw [List.length_drop, List.length_take]; have h_ : ((wrap64 (x5_2 + (wrap64 (rd l0 x5_2)))) : Int) ≤ (l0.length : Int) := of_decide_eq_true (by first | (with_reducible assumption) | assumption); omega)); omega); intro v269 w23 ho hb hg hat; rw [← Ny268.out] at ho; have n0_ := Aside0.mk (hb); have n1_ := Aside0.mk (ho); clear HB; clear HO_4; have HB := n0_; have HO270 := n1_; clear n0_ n1_; clear ho hb hg hat) | ((with_reducible refine gate_builtin (b := .append) (xs := #[.tmp 61, .tmp 62]) rfl ?_); (try (refine gate_guard (by rfl) ?_; dsimp only)); at_builtin; refine Kd.R_append (Kd.int .u8) (w0 := w) w.heap.size rfl (.tmp 61) (.tmp 62) 24 5 (.int .u8 0) 1 rfl Tryd.underlying24 info5 rfl (by decide) (by omega) v269 y268 0 [.int .u8 0] (fun _ => True) (fun _ => False) rfl rfl ?aP (fun _ hk => hk.elim) ?aF ?aO ?aB ?aS ?aL ?_; (case aP => exact rfl); (case aB => exact (by repeat (first | (with_reducible first | exact HB.out | apply below_alloc | apply pw_below_drewN | apply below_drew1) | exact HB.out))); (case aF => exact (fun _ _ => trivial)); (case aO => exact (by (with_reducible repeat (first | apply Kd.R_alloc | apply Kd.R_drewN | apply Kd.R_drew)); exact HO270.out)); (case aS => exact (below_size (by repeat (first | (with_reducible first | exact HB.out | apply below_alloc | apply pw_below_drewN | apply below_drew1) | exact HB.out)))); (case aL => have := LMc21.out; omega); intro v272 w24 ho hb hg hat; rw [← Ny271.out] at ho; have n0_ := Aside0.mk (hb); have n1_ := Aside0.mk (ho); clear HB; clear HO270; have HB := n0_; have HO273 := n1_; clear n0_ n1_; clear ho hb hg hat))
                                      go_roundg kj10
                                      case measure => have := HJ1.out; have := HK2.out; have := HJ10.out; omega
                                      case rel => exact ⟨(y271), (wrap64 (x5_2 + (wrap64 (rd l0 x5_2)))), (by first | rfl | (simp; done) | (simp [*]; done)), H', ⟨by have := HJ1.out; have := HK2.out; have := HJ10.out; omega⟩, ⟨by (with_reducible repeat (first | apply Kd.R_alloc | apply Kd.R_drewN | apply Kd.R_drew)); exact HO273.out⟩, ⟨by repeat (first | (with_reducible first | exact HB.out | apply below_alloc | apply pw_below_drewN | apply below_drew1) | exact HB.out)⟩⟩
                                    · rw [if_neg c21] at H
                                      exact absurd H (by simp)
                                  · rw [if_neg c20] at H
                                    have c20b0 : decide ((wrap64 (x5_2 + (wrap64 (rd l0 x5_2)))) < (wrap64 ((l0.length : Int) - 1))) = false := decide_eq_false c20
                                    clear c20
                                    have H' := Aside0.mk H
                                    clear H
                                    obtain ⟨i025, hi025, _, hsz25, _⟩ := info_parts info5
                                    obtain ⟨A25, hcut25, hA25, hC25⟩ := print_mid_of (P := Tryd.prog) (Value.int .u8) 0 24 5 .i64 .i64 Tryd.underlying24 hi025 hsz25 (some ad266) c0 l0 (ji14) (wrap64 (x5_2 + (wrap64 (rd l0 x5_2)))) (of_decide_eq_true (by first | (with_reducible assumption) | assumption)) (by first | omega | exact of_decide_eq_true (by first | (with_reducible assumption) | assumption)) (of_decide_eq_true (by first | (with_reducible assumption) | assumption)) HC0.out
                                    have HR267 := Aside0.mk (Kd.C_of_reads (h1 := fun _ => rfl) (hA25 _ (Kd.reads_of_C HR0.out)))
                                    have HC267 := Aside0.mk hC25
                                    clear hA25 hC25 hi025 hsz25
                                    go_wp2_with (first | ((with_reducible refine gate_builtin (b := .append) (xs := #[.tmp 40, .tmp 47]) rfl ?_); (try (refine gate_guard (by rfl) ?_; dsimp only)); at_builtin; refine Kd.R_append_rows (Kd.int .u8) (w0 := w) w.heap.size rfl (.tmp 40) (.tmp 47) 24 5 (.int .u8 0) 1 rfl Tryd.underlying24 info5 rfl (by decide) (by omega) u4 x4_2 ((l0.take ((wrap64 (x5_2 + (wrap64 (rd l0 x5_2)))) : Int).toNat).drop ((ji14) : Int).toNat) _ _ _ (fun _ => True) (fun _ => False) rfl rfl ?aO ?aR (fun _ _ h => h) (fun _ h => h.elim) ?aF ?aB ?aS ?aL ?_; (case aR => first | (rw [← show ((l0.take ((wrap64 (x5_2 + (wrap64 (rd l0 x5_2)))) : Int).toNat).drop ((ji14) : Int).toNat).length = ((wrap64 (x5_2 + (wrap64 (rd l0 x5_2)))).toNat - (ji14).toNat) from (by rw [List.length_drop, List.length_take]; have h_ : ((wrap64 (x5_2 + (wrap64 (rd l0 x5_2)))) : Int) ≤ (l0.length : Int) := of_decide_eq_true (by first | (with_reducible assumption) | assumption); omega)]; repeat (first | exact (Kd.C_below HR267.out HB.out) | (with_reducible refine Kd.C_alloc ?_ _) | (with_reducible refine Kd.C_drewN ?_ _) | (with_reducible refine Kd.C_drew ?_))) | (repeat (first | exact (Kd.C_below HR267.out HB.out) | (with_reducible refine Kd.C_alloc ?_ _) | (with_reducible refine Kd.C_drewN ?_ _) | (with_reducible refine Kd.C_drew ?_)))); (case aB => exact (by repeat (first | (with_reducible first | exact HB.out | apply below_alloc | apply pw_below_drewN | apply below_drew1) | exact HB.out))); (case aF => exact (fun _ _ => trivial)); (case aO => exact (by (with_reducible repeat (first | apply Kd.R_alloc | apply Kd.R_drewN | apply Kd.R_drew)); exact HO_4.out)); (case aS => exact (below_size (by repeat (first | (with_reducible first | exact HB.out | apply below_alloc | apply pw_below_drewN | apply below_drew1) | exact HB.out)))); (case aL => have := LMc18.out; have hlx_ := (show ((l0.take ((wrap64 (x5_2 + (wrap64 (rd l0 x5_2)))) : Int).toNat).drop ((ji14) : Int).toNat).length = ((wrap64 (x5_2 + (wrap64 (rd l0 x5_2)))).toNat - (ji14).toNat) from (by rw [List.length_drop, List.length_take]; have h_ : ((wrap64 (x5_2 + (wrap64 (rd l0 x5_2)))) : Int) ≤ (l0.length : Int) := of_decide_eq_true (by first | (with_reducible assumption) | assumption); omega)); omega); intro v269 w26 ho hb hg hat; rw [← Ny268.out] at ho; have n0_ := Aside0.mk (hb); have n1_ := Aside0.mk (ho); clear HB; clear HO_4; have HB := n0_; have HO270 := n1_; clear n0_ n1_; clear ho hb hg hat))
                                    go_roundg kj10
                                    case measure => have := HJ1.out; have := HK2.out; have := HJ10.out; omega
                                    case rel => exact ⟨(y268), (wrap64 (x5_2 + (wrap64 (rd l0 x5_2)))), (by first | rfl | (simp; done) | (simp [*]; done)), H', ⟨by have := HJ1.out; have := HK2.out; have := HJ10.out; omega⟩, ⟨by (with_reducible repeat (first | apply Kd.R_alloc | apply Kd.R_drewN | apply Kd.R_drew)); exact HO270.out⟩, ⟨by repeat (first | (with_reducible first | exact HB.out | apply below_alloc | apply pw_below_drewN | apply below_drew1) | exact HB.out)⟩⟩
                                · rw [if_neg c19] at H
                                  have c19b0 : decide ((wrap64 (rd l0 x5_2)) < 255) = false := decide_eq_false c19
                                  clear c19
                                  have H' := Aside0.mk H
                                  clear H
                                  obtain ⟨i027, hi027, _, hsz27, _⟩ := info_parts info5
                                  obtain ⟨A27, hcut27, hA27, hC27⟩ := print_mid_of (P := Tryd.prog) (Value.int .u8) 0 24 5 .i64 .i64 Tryd.underlying24 hi027 hsz27 (some ad266) c0 l0 (ji14) (wrap64 (x5_2 + (wrap64 (rd l0 x5_2)))) (of_decide_eq_true (by first | (with_reducible assumption) | assumption)) (by first | omega | exact of_decide_eq_true (by first | (with_reducible assumption) | assumption)) (of_decide_eq_true (by first | (with_reducible assumption) | assumption)) HC0.out
                                  have HR267 := Aside0.mk (Kd.C_of_reads (h1 := fun _ => rfl) (hA27 _ (Kd.reads_of_C HR0.out)))
                                  have HC267 := Aside0.mk hC27
                                  clear hA27 hC27 hi027 hsz27
                                  go_wp2_with (first | ((with_reducible refine gate_builtin (b := .append) (xs := #[.tmp 40, .tmp 47]) rfl ?_); (try (refine gate_guard (by rfl) ?_; dsimp only)); at_builtin; refine Kd.R_append_rows (Kd.int .u8) (w0 := w) w.heap.size rfl (.tmp 40) (.tmp 47) 24 5 (.int .u8 0) 1 rfl Tryd.underlying24 info5 rfl (by decide) (by omega) u4 x4_2 ((l0.take ((wrap64 (x5_2 + (wrap64 (rd l0 x5_2)))) : Int).toNat).drop ((ji14) : Int).toNat) _ _ _ (fun _ => True) (fun _ => False) rfl rfl ?aO ?aR (fun _ _ h => h) (fun _ h => h.elim) ?aF ?aB ?aS ?aL ?_; (case aR => first | (rw [← show ((l0.take ((wrap64 (x5_2 + (wrap64 (rd l0 x5_2)))) : Int).toNat).drop ((ji14) : Int).toNat).length = ((wrap64 (x5_2 + (wrap64 (rd l0 x5_2)))).toNat - (ji14).toNat) from (by rw [List.length_drop, List.length_take]; have h_ : ((wrap64 (x5_2 + (wrap64 (rd l0 x5_2)))) : Int) ≤ (l0.length : Int) := of_decide_eq_true (by first | (with_reducible assumption) | assumption); omega)]; repeat (first | exact (Kd.C_below HR267.out HB.out) | (with_reducible refine Kd.C_alloc ?_ _) | (with_reducible refine Kd.C_drewN ?_ _) | (with_reducible refine Kd.C_drew ?_))) | (repeat (first | exact (Kd.C_below HR267.out HB.out) | (with_reducible refine Kd.C_alloc ?_ _) | (with_reducible refine Kd.C_drewN ?_ _) | (with_reducible refine Kd.C_drew ?_)))); (case aB => exact (by repeat (first | (with_reducible first | exact HB.out | apply below_alloc | apply pw_below_drewN | apply below_drew1) | exact HB.out))); (case aF => exact (fun _ _ => trivial)); (case aO => exact (by (with_reducible repeat (first | apply Kd.R_alloc | apply Kd.R_drewN | apply Kd.R_drew)); exact HO_4.out)); (case aS => exact (below_size (by repeat (first | (with_reducible first | exact HB.out | apply below_alloc | apply pw_below_drewN | apply below_drew1) | exact HB.out)))); (case aL => have := LMc18.out; have hlx_ := (show ((l0.take ((wrap64 (x5_2 + (wrap64 (rd l0 x5_2)))) : Int).toNat).drop ((ji14) : Int).toNat).length = ((wrap64 (x5_2 + (wrap64 (rd l0 x5_2)))).toNat - (ji14).toNat) from (by rw [List.length_drop, List.length_take]; have h_ : ((wrap64 (x5_2 + (wrap64 (rd l0 x5_2)))) : Int) ≤ (l0.length : Int) := of_decide_eq_true (by first | (with_reducible assumption) | assumption); omega)); omega); intro v269 w28 ho hb hg hat; rw [← Ny268.out] at ho; have n0_ := Aside0.mk (hb); have n1_ := Aside0.mk (ho); clear HB; clear HO_4; have HB := n0_; have HO270 := n1_; clear n0_ n1_; clear ho hb hg hat))
                                  go_roundg kj10
                                  case measure => have := HJ1.out; have := HK2.out; have := HJ10.out; omega
                                  case rel => exact ⟨(y268), (wrap64 (x5_2 + (wrap64 (rd l0 x5_2)))), (by first | rfl | (simp; done) | (simp [*]; done)), H', ⟨by have := HJ1.out; have := HK2.out; have := HJ10.out; omega⟩, ⟨by (with_reducible repeat (first | apply Kd.R_alloc | apply Kd.R_drewN | apply Kd.R_drew)); exact HO270.out⟩, ⟨by repeat (first | (with_reducible first | exact HB.out | apply below_alloc | apply pw_below_drewN | apply below_drew1) | exact HB.out)⟩⟩
                              · rw [if_neg c18] at H
                                exact absurd H (by simp)
                            · rw [if_neg c17] at H
                              exact absurd H (by simp)
                          · rw [if_neg c16] at H
                            exact absurd H (by simp)
                        · rw [if_neg c15] at H
                          exact absurd H (by simp)
                · rw [if_neg c10] at H
                  exact absurd H (by simp)
              · rw [if_neg c9] at H
                exact absurd H (by simp)
            · rw [if_neg c8] at H
              have c8b0 : decide (x5_2 < (wrap64 ((l0.length : Int) - 1))) = false := decide_eq_false c8
              clear c8
              replace H := Option.bind_eq_some_iff.mp H
              obtain ⟨t274, A290, H⟩ := H
              replace H : ((trickleref03_Same.f t274 l0).bind fun t277 => (if t277 = true then (some (x4_2, 0)) else (some (([] : List Int), 2)))) = some (r1, r2) := H
              have A29 := Aside0.mk A290
              clear A290
              replace H := Option.bind_eq_some_iff.mp H
              obtain ⟨t277, A300, H⟩ := H
              replace H : (if t277 = true then (some (x4_2, 0)) else (some (([] : List Int), 2))) = some (r1, r2) := H
              have A30 := Aside0.mk A300
              clear A300
              by_cases c31 : t277 = true
              · subst c31
                have H1 : (some (x4_2, 0)) = some (r1, r2) := by rw [if_pos rfl] at H; exact H
                clear H
                have H := H1
                clear H1
                simp only [Option.some.injEq, Prod.mk.injEq] at H
                obtain ⟨rfl, rfl⟩ := H
                obtain ⟨Ao32, co32, eo32⟩ := Kd.R_slice HO_4.out
                subst eo32
                go_wp2_with (first | ((with_reducible refine gate_callee (f := 57) rfl ?_); refine goesL_ (some 65) rfl rfl Tryd.func57 (by kernel_rfl) rfl #[.slice Ao32 x4_2.length co32] rfl (by (try simp only [List.map_toArray, List.map_cons, List.map_nil]); first | done | rfl | (simp only [List.length_drop, List.length_take]; rfl)) ?_; (with_reducible refine (trickleref03_Encode.calls k2 _ _ x4_2 t274 _ ?side1 ?side2 A29.out).mono ?_); (case side1 => repeat (first | exact (Kd.R_reads' HO_4.out).2.2 | (with_reducible refine Kd.C_alloc ?_ _) | (with_reducible refine Kd.C_drewN ?_ _) | (with_reducible refine Kd.C_drew ?_))); (case side2 => exact (Kd.R_reads' HO_4.out).2.1); rintro e w33 ⟨v275, rfl, ho0, hb⟩; refine ⟨_, rfl, ?_⟩; have n0_ := Aside0.mk (Kd.R_elder' (by (with_reducible repeat (first | apply Kd.R_alloc | apply Kd.R_drewN | apply Kd.R_drew)); exact HO_4.out) (Kd.R_base ho0) hb); have n1_ := Aside0.mk (Kd.R_lower (Kd.R_new' ho0 (Kd.R_lt (by (with_reducible repeat (first | apply Kd.R_alloc | apply Kd.R_drewN | apply Kd.R_drew)); exact HO_4.out))) (below_size (by repeat (first | (with_reducible first | exact HB.out | apply below_alloc | apply pw_below_drewN | apply below_drew1) | exact HB.out)))); have n2_ := Aside0.mk (below_step (by repeat (first | (with_reducible first | exact HB.out | apply below_alloc | apply pw_below_drewN | apply below_drew1) | exact HB.out)) hb); clear HO_4; clear HB; have HO_4 := n0_; have HO276 := n1_; have HB := n2_; clear n0_ n1_ n2_; (try clear hb); (try clear hb2); (try clear hk); (try clear hi); (try clear ho0); obtain ⟨Ao34, co34, eo34⟩ := Kd.R_slice HO276.out; subst eo34) | ((with_reducible refine gate_callee (f := 58) rfl ?_); refine goesL_ (some 67) rfl rfl Tryd.func58 (by kernel_rfl) rfl #[.slice Ao34 t274.length co34, .slice A0 l0.length c0] rfl (by (try simp only [List.map_toArray, List.map_cons, List.map_nil]); first | done | rfl | (simp only [List.length_drop, List.length_take]; rfl)) ?_; (with_reducible refine (trickleref03_Same.calls _ _ t274 _ _ l0 true _ ?side1 ?side2 ?side3 ?side4 A30.out).mono ?_); (case side1 => repeat (first | exact (Kd.R_reads' HO276.out).2.2 | (with_reducible refine Kd.C_alloc ?_ _) | (with_reducible refine Kd.C_drewN ?_ _) | (with_reducible refine Kd.C_drew ?_))); (case side2 => exact (Kd.R_reads' HO276.out).2.1); (case side3 => repeat (first | exact (Kd.C_below HR0.out HB.out) | (with_reducible refine Kd.C_alloc ?_ _) | (with_reducible refine Kd.C_drewN ?_ _) | (with_reducible refine Kd.C_drew ?_))); (case side4 => exact HC0.out); rintro e w' ⟨rfl, ⟨nd, rfl⟩⟩; refine ⟨_, rfl, ?_⟩))
                go_ret2
                exact ⟨_, by first | rfl | (simp [errW_none, errW_some] <;> rfl) | (simp [*, errW_none, errW_some] <;> rfl), by (with_reducible repeat (first | apply Kd.R_alloc | apply Kd.R_drewN | apply Kd.R_drew)); exact Kd.R_mono HO_4.out (fun _ hk => trivial), by repeat (first | (with_reducible first | exact HB.out | apply below_alloc | apply pw_below_drewN | apply below_drew1) | exact HB.out)⟩
              · replace c31 := Bool.eq_false_iff.mpr c31
                subst c31
                have H1 : (some (([] : List Int), 2)) = some (r1, r2) := by rw [if_neg (show ¬ (false = true) by decide)] at H; exact H
                clear H
                have H := H1
                clear H1
                simp only [Option.some.injEq, Prod.mk.injEq] at H
                obtain ⟨rfl, rfl⟩ := H
                obtain ⟨Ao35, co35, eo35⟩ := Kd.R_slice HO_4.out
                subst eo35
                go_wp2_with (first | ((with_reducible refine gate_callee (f := 57) rfl ?_); refine goesL_ (some 65) rfl rfl Tryd.func57 (by kernel_rfl) rfl #[.slice Ao35 x4_2.length co35] rfl (by (try simp only [List.map_toArray, List.map_cons, List.map_nil]); first | done | rfl | (simp only [List.length_drop, List.length_take]; rfl)) ?_; (with_reducible refine (trickleref03_Encode.calls k2 _ _ x4_2 t274 _ ?side1 ?side2 A29.out).mono ?_); (case side1 => repeat (first | exact (Kd.R_reads' HO_4.out).2.2 | (with_reducible refine Kd.C_alloc ?_ _) | (with_reducible refine Kd.C_drewN ?_ _) | (with_reducible refine Kd.C_drew ?_))); (case side2 => exact (Kd.R_reads' HO_4.out).2.1); rintro e w36 ⟨v275, rfl, ho0, hb⟩; refine ⟨_, rfl, ?_⟩; have n0_ := Aside0.mk (Kd.R_elder' (by (with_reducible repeat (first | apply Kd.R_alloc | apply Kd.R_drewN | apply Kd.R_drew)); exact HO_4.out) (Kd.R_base ho0) hb); have n1_ := Aside0.mk (Kd.R_lower (Kd.R_new' ho0 (Kd.R_lt (by (with_reducible repeat (first | apply Kd.R_alloc | apply Kd.R_drewN | apply Kd.R_drew)); exact HO_4.out))) (below_size (by repeat (first | (with_reducible first | exact HB.out | apply below_alloc | apply pw_below_drewN | apply below_drew1) | exact HB.out)))); have n2_ := Aside0.mk (below_step (by repeat (first | (with_reducible first | exact HB.out | apply below_alloc | apply pw_below_drewN | apply below_drew1) | exact HB.out)) hb); clear HO_4; clear HB; have HO_4 := n0_; have HO276 := n1_; have HB := n2_; clear n0_ n1_ n2_; (try clear hb); (try clear hb2); (try clear hk); (try clear hi); (try clear ho0); obtain ⟨Ao37, co37, eo37⟩ := Kd.R_slice HO276.out; subst eo37) | ((with_reducible refine gate_callee (f := 58) rfl ?_); refine goesL_ (some 67) rfl rfl Tryd.func58 (by kernel_rfl) rfl #[.slice Ao37 t274.length co37, .slice A0 l0.length c0] rfl (by (try simp only [List.map_toArray, List.map_cons, List.map_nil]); first | done | rfl | (simp only [List.length_drop, List.length_take]; rfl)) ?_; (with_reducible refine (trickleref03_Same.calls _ _ t274 _ _ l0 false _ ?side1 ?side2 ?side3 ?side4 A30.out).mono ?_); (case side1 => repeat (first | exact (Kd.R_reads' HO276.out).2.2 | (with_reducible refine Kd.C_alloc ?_ _) | (with_reducible refine Kd.C_drewN ?_ _) | (with_reducible refine Kd.C_drew ?_))); (case side2 => exact (Kd.R_reads' HO276.out).2.1); (case side3 => repeat (first | exact (Kd.C_below HR0.out HB.out) | (with_reducible refine Kd.C_alloc ?_ _) | (with_reducible refine Kd.C_drewN ?_ _) | (with_reducible refine Kd.C_drew ?_))); (case side4 => exact HC0.out); rintro e w' ⟨rfl, ⟨nd, rfl⟩⟩; refine ⟨_, rfl, ?_⟩))
                go_ret2
                exact ⟨_, by first | rfl | (simp [errW_none, errW_some] <;> rfl) | (simp [*, errW_none, errW_some] <;> rfl), by first | exact Kd.R_nil _ _ _ _ _ | exact Kd.N_nil _ _ _ _ _ | exact Kd.V_nil _ _ _ _ _ | exact Kd.Q_nil _ _ _ _ _ | exact Kd.S_nil _ _ _ _ _, by repeat (first | (with_reducible first | exact HB.out | apply below_alloc | apply pw_below_drewN | apply below_drew1) | exact HB.out)⟩

/-! ### trickleref03_Split: function 61 -/
def trickleref03_Split.l0 : Nat → List Int → Int → List (List Int) → Int → Int → Int → Option ((List (List Int)) × Int)
  | 0, _, _, _, _, _, _ => none
  | k + 1, x0, x1, x6, x7, x8, x9 => if x9 < (x0.length : Int) then (if 0 ≤ x9 then (if (rd x0 x9) = 0 then (if x9 > x8 then (if 0 ≤ x8 then (if x8 ≤ (wrap64 (x9 + 1)) then (if (wrap64 (x9 + 1)) ≤ (x0.length : Int) then ((trickleref03_Decode.f k ((x0.take ((wrap64 (x9 + 1)) : Int).toNat).drop (x8 : Int).toNat)).bind fun bt280 => (if bt280.2 = 0 then (if (bt280.1.length : Int) ≤ x1 then (if x6.length < 5864062014805 then (trickleref03_Split.l0 k x0 x1 (x6 ++ [bt280.1]) x7 (wrap64 (x9 + 1)) (wrap64 (x9 + 1))) else (none)) else (trickleref03_Split.l0 k x0 x1 x6 (wrap64 (x7 + 1)) (wrap64 (x9 + 1)) (wrap64 (x9 + 1)))) else (trickleref03_Split.l0 k x0 x1 x6 (wrap64 (x7 + 1)) (wrap64 (x9 + 1)) (wrap64 (x9 + 1))))) else (none)) else (none)) else (none)) else (trickleref03_Split.l0 k x0 x1 x6 x7 (wrap64 (x9 + 1)) (wrap64 (x9 + 1)))) else (trickleref03_Split.l0 k x0 x1 x6 x7 x8 (wrap64 (x9 + 1)))) else (none)) else (some (x6, x7))
def trickleref03_Split.f (k : Nat) (l0 : List Int) (a1 : Int) : Option ((List (List Int)) × Int) := trickleref03_Split.l0 k l0 a1 ([] : List (List Int)) 0 0 0
set_option maxHeartbeats 8000000 in
set_option maxRecDepth 100000 in
theorem trickleref03_Split.calls (k : Nat) (A0 : Option Addr) (c0 : Nat) (l0 : List Int) (a1 : Int) (r1 : List (List Int)) (r2 : Int) (w : World) (hr0 : Kd.C (Kd.int .u8) w A0 l0.length l0) (hc0 : l0.length ≤ c0) (h : trickleref03_Split.f k l0 a1 = some (r1, r2)) :
    Calls Tryd.prog 61 #[.slice A0 l0.length c0, .int .i64 a1] w fun e w' => ∃ v0_ : Value, e = .returned (.tuple #[v0_, .int .i64 r2]) ∧ Kd.S (Kd.slice 5 (Kd.int .u8)) 24 w' w.heap.size (fun _ => True) v0_ r1 ∧ Below w.heap.size w w' := by
  have HR0 := Aside0.mk hr0
  have HC0 := Aside0.mk hc0
  clear hr0 hc0
  have HB := Aside0.mk (Below.refl w.heap.size w)
  have H : (trickleref03_Split.l0 k l0 a1 ([] : List (List Int)) 0 0 0) = some (r1, r2) := h
  clear h
  have H' := Aside0.mk H
  clear H
  go_enter Tryd.func61, Tryd.ntmps61
  go_wp2
  go_loopg [6, 7, 8, 9] k (fun kq v6 v7 v8 v9 w' => ∃ (x6_1 : List (List Int)) (x7_1 : Int) (x8_1 : Int) (x9_1 : Int), v7 = .int .i64 x7_1 ∧ v8 = .int .i64 x8_1 ∧ v9 = .int .i64 x9_1 ∧ Aside0 (trickleref03_Split.l0 kq l0 a1 x6_1 x7_1 x8_1 x9_1 = some (r1, r2)) ∧ Aside0 (kq ≤ k) ∧ Aside0 (Kd.S (Kd.slice 5 (Kd.int .u8)) 24 w' w.heap.size (fun _ => True) v6 x6_1) ∧ Aside0 (Below w.heap.size w w'))
  case atStart => exact ⟨(([] : List (List Int))), (0), (0), (0), (by first | rfl | (simp; done) | (simp [*]; done)), (by first | rfl | (simp; done) | (simp [*]; done)), (by first | rfl | (simp; done) | (simp [*]; done)), H', ⟨Nat.le_refl _⟩, ⟨by first | exact Kd.S_nil _ _ _ _ _ | exact Kd.N_nil _ _ _ _ _ | exact Kd.V_nil _ _ _ _ _ | exact Kd.Q_nil _ _ _ _ _ | exact Kd.R_nil _ _ _ _ _⟩, ⟨by repeat (first | (with_reducible first | exact HB.out | apply below_alloc | apply pw_below_drewN | apply below_drew1) | exact HB.out)⟩⟩
  case round =>
    clear H'
    try clear p2
    obtain ⟨x6_1, x7_1, x8_1, x9_1, rfl, rfl, rfl, HA, HK1, HO_6, HB⟩ := hrel
    cases gk with
    | zero => exact absurd HA.out (by simp [trickleref03_Split.l0])
    | succ k1 =>
      have H := HA.out
      clear HA
      simp only [trickleref03_Split.l0] at H
      by_cases c3 : x9_1 < (l0.length : Int)
      · rw [if_pos c3] at H
        have c3b0 : decide (x9_1 < (l0.length : Int)) = true := decide_eq_true c3
        clear c3
        by_cases c4 : 0 ≤ x9_1
        · rw [if_pos c4] at H
          have c4b0 : decide (0 ≤ x9_1) = true := decide_eq_true c4
          clear c4
          by_cases c5 : (rd l0 x9_1) = 0
          · rw [if_pos c5] at H
            have c5b0 : ((rd l0 x9_1) == 0) = true := beq_iff_eq.mpr c5
            have c5b1 : ((rd l0 x9_1) != 0) = false := bne_eq_false_iff_eq.mpr c5
            clear c5
            by_cases c6 : x9_1 > x8_1
            · rw [if_pos c6] at H
              have c6b0 : decide (x8_1 < x9_1) = true := decide_eq_true c6
              clear c6
              by_cases c7 : 0 ≤ x8_1
              · rw [if_pos c7] at H
                have c7b0 := eq_true c7
                have c7b1 : decide (0 ≤ x8_1) = true := decide_eq_true c7
                clear c7
                by_cases c8 : x8_1 ≤ (wrap64 (x9_1 + 1))
                · rw [if_pos c8] at H
                  have c8b0 := eq_true c8
                  have c8b1 : decide (x8_1 ≤ (wrap64 (x9_1 + 1))) = true := decide_eq_true c8
                  by_cases c9 : (wrap64 (x9_1 + 1)) ≤ (l0.length : Int)
                  · rw [if_pos c9] at H
                    have c9b0 := eq_true c9
                    have c9b1 : decide ((wrap64 (x9_1 + 1)) ≤ (l0.length : Int)) = true := decide_eq_true c9
                    replace H := Option.bind_eq_some_iff.mp H
                    obtain ⟨⟨t280, t281⟩, A100, H⟩ := H
                    replace H : (if t281 = 0 then (if (t280.length : Int) ≤ a1 then (if x6_1.length < 5864062014805 then (trickleref03_Split.l0 k1 l0 a1 (x6_1 ++ [t280]) x7_1 (wrap64 (x9_1 + 1)) (wrap64 (x9_1 + 1))) else (none)) else (trickleref03_Split.l0 k1 l0 a1 x6_1 (wrap64 (x7_1 + 1)) (wrap64 (x9_1 + 1)) (wrap64 (x9_1 + 1)))) else (trickleref03_Split.l0 k1 l0 a1 x6_1 (wrap64 (x7_1 + 1)) (wrap64 (x9_1 + 1)) (wrap64 (x9_1 + 1)))) = some (r1, r2) := H
                    have A10 := Aside0.mk A100
                    clear A100
                    by_cases c11 : t281 = 0
                    · rw [if_pos c11] at H
                      have c11b0 : (t281 == 0) = true := beq_iff_eq.mpr c11
                      have c11b1 : (t281 != 0) = false := bne_eq_false_iff_eq.mpr c11
                      clear c11
                      by_cases c12 : (t280.length : Int) ≤ a1
                      · rw [if_pos c12] at H
                        have c12b0 : decide ((t280.length : Int) ≤ a1) = true := decide_eq_true c12
                        clear c12
                        by_cases c13 : x6_1.length < 5864062014805
                        · rw [if_pos c13] at H
                          have LMc13 := Aside0.mk c13
                          clear c13
                          obtain ⟨y284, hy284⟩ : ∃ y_ : List (List Int), y_ = (x6_1 ++ [t280]) := ⟨_, rfl⟩
                          replace H : (trickleref03_Split.l0 k1 l0 a1 y284 x7_1 (wrap64 (x9_1 + 1)) (wrap64 (x9_1 + 1))) = some (r1, r2) := by first | (rw [hy284]; with_reducible exact H) | (have H2_ := (Option.bind_some _ _).symm.trans H; rw [hy284]; with_reducible exact H2_) | (have H2_ := (Option.bind_some _ _).symm.trans H; with_reducible exact H2_) | with_reducible exact H | (rw [hy284]; exact H) | exact H
                          have Ny284 := Aside0.mk hy284
                          clear hy284
                          have H' := Aside0.mk H
                          clear H
                          have p278 : 0 ≤ (x9_1 : Int) := of_decide_eq_true (by first | (with_reducible assumption) | assumption)
                          have q278 : x9_1 < (l0.length : Int) := of_decide_eq_true (by first | (with_reducible assumption) | assumption)
                          obtain ⟨ad278, e278, hx278_0⟩ := Kd.at_int HR0.out x9_1 p278 q278
                          cases e278
                          replace hx278_0 := (HB.out.cell (World.block_lt_of_cell? w _ hx278_0)).trans hx278_0
                          replace p278 := eq_true p278
                          replace q278 := eq_true q278
                          obtain ⟨i014, hi014, _, hsz14, _⟩ := info_parts info5
                          obtain ⟨A14, hcut14, hA14, hC14⟩ := print_mid_of (P := Tryd.prog) (Value.int .u8) 0 24 5 .i64 .i64 Tryd.underlying24 hi014 hsz14 (some ad278) c0 l0 x8_1 (wrap64 (x9_1 + 1)) (of_decide_eq_true (by first | (with_reducible assumption) | assumption)) (by first | omega | exact of_decide_eq_true (by first | (with_reducible assumption) | assumption)) (of_decide_eq_true (by first | (with_reducible assumption) | assumption)) HC0.out
                          have HR279 := Aside0.mk (Kd.C_of_reads (h1 := fun _ => rfl) (hA14 _ (Kd.reads_of_C HR0.out)))
                          have HC279 := Aside0.mk hC14
                          clear hA14 hC14 hi014 hsz14
                          go_wp2_with (first | ((with_reducible refine gate_callee (f := 71) rfl ?_); refine goesL_ (some 32) rfl rfl Tryd.func71 (by kernel_rfl) rfl #[.slice A14 ((l0.take ((wrap64 (x9_1 + 1)) : Int).toNat).drop (x8_1 : Int).toNat).length (c0 - x8_1.toNat)] rfl (by (try simp only [List.map_toArray, List.map_cons, List.map_nil]); first | done | (rw [show ((l0.take ((wrap64 (x9_1 + 1)) : Int).toNat).drop (x8_1 : Int).toNat).length = ((wrap64 (x9_1 + 1)).toNat - x8_1.toNat) from (by rw [List.length_drop, List.length_take]; have h_ : ((wrap64 (x9_1 + 1)) : Int) ≤ (l0.length : Int) := of_decide_eq_true (by first | (with_reducible assumption) | assumption); omega)] <;> rfl) | rfl | (simp only [List.length_drop, List.length_take]; rfl)) ?_; (with_reducible refine (trickleref03_Decode.calls k1 _ _ ((l0.take ((wrap64 (x9_1 + 1)) : Int).toNat).drop (x8_1 : Int).toNat) t280 t281 _ ?side1 ?side2 A10.out).mono ?_); (case side1 => repeat (first | exact (Kd.C_below HR279.out HB.out) | (with_reducible refine Kd.C_alloc ?_ _) | (with_reducible refine Kd.C_drewN ?_ _) | (with_reducible refine Kd.C_drew ?_))); (case side2 => exact HC279.out); rintro e w15 ⟨v282, rfl, ho0, hb⟩; refine ⟨_, rfl, ?_⟩; have n0_ := Aside0.mk (Kd.S_elder' (by (with_reducible repeat (first | apply Kd.S_alloc | apply Kd.S_drewN | apply Kd.S_drew)); exact HO_6.out) (Kd.R_base ho0) hb); have n1_ := Aside0.mk (Kd.R_lower ho0 (below_size (by repeat (first | (with_reducible first | exact HB.out | apply below_alloc | apply pw_below_drewN | apply below_drew1) | exact HB.out)))); have n2_ := Aside0.mk (below_step (by repeat (first | (with_reducible first | exact HB.out | apply below_alloc | apply pw_below_drewN | apply below_drew1) | exact HB.out)) hb); clear HO_6; clear HB; have HO_6 := n0_; have HO283 := n1_; have HB := n2_; clear n0_ n1_ n2_; (try clear hb); (try clear hb2); (try clear hk); (try clear hi); (try clear ho0); obtain ⟨Ao16, co16, eo16⟩ := Kd.R_slice HO283.out; subst eo16) | ((with_reducible refine gate_builtin (b := .append) (xs := #[.tmp 43, .tmp 45]) rfl ?_); (try (refine gate_guard (by rfl) ?_; dsimp only)); at_builtin; refine Kd.S_append (Kd.slice 5 (Kd.int .u8)) (w0 := w) w.heap.size rfl (.tmp 43) (.tmp 45) 50 24 (.slice none 0 0) 24 rfl Tryd.underlying50 info24 rfl (by decide) (by omega) u6 x6_1 t280 [.slice Ao16 t280.length co16] (fun _ => True) (fun k_ => some k_ = (.slice Ao16 t280.length co16 : Value).ownBlock) rfl rfl ?aP (fun k_ hk_ => ((Kd.R_mono (ok' := fun k_ => ((fun _ => True)) k_ ∧ some k_ ≠ (u6 : Value).ownBlock) (Kd.R_apart' (HO283.out) (Kd.S_typed HO_6.out) (by decide)) (fun k_ hk => ⟨trivial, hk.2⟩))).1 k_ hk_.symm) ?aF ?aO ?aB ?aS ?aL ?_; (case aP => exact Kd.M_row (Kd.R_mono (Kd.R_tight rfl (Kd.R_mono (ok' := fun k_ => ((fun _ => True)) k_ ∧ some k_ ≠ (u6 : Value).ownBlock) (Kd.R_apart' (HO283.out) (Kd.S_typed HO_6.out) (by decide)) (fun k_ hk => ⟨trivial, hk.2⟩))) (fun _ h_ => h_))); (case aB => exact (by repeat (first | (with_reducible first | exact HB.out | apply below_alloc | apply pw_below_drewN | apply below_drew1) | exact HB.out))); (case aF => exact (fun _ _ => trivial)); (case aO => exact (by (with_reducible repeat (first | apply Kd.S_alloc | apply Kd.S_drewN | apply Kd.S_drew)); exact Kd.S_mono HO_6.out (fun k_ hk => ⟨trivial, fun e_ => hk.2 e_⟩))); (case aS => exact (below_size (by repeat (first | (with_reducible first | exact HB.out | apply below_alloc | apply pw_below_drewN | apply below_drew1) | exact HB.out)))); (case aL => have := LMc13.out; omega); intro v285 w17 ho hb hg hat; rw [← Ny284.out] at ho; have n0_ := Aside0.mk (hb); have n1_ := Aside0.mk (ho); clear HB; clear HO_6; clear HO283; have HB := n0_; have HO286 := n1_; clear n0_ n1_; clear ho hb hg hat))
                          go_roundg k1
                          case measure => have := HK1.out; omega
                          case rel => exact ⟨(y284), (x7_1), (wrap64 (x9_1 + 1)), (wrap64 (x9_1 + 1)), (by first | rfl | (simp; done) | (simp [*]; done)), (by first | rfl | (simp; done) | (simp [*]; done)), (by first | rfl | (simp; done) | (simp [*]; done)), H', ⟨by have := HK1.out; omega⟩, ⟨by (with_reducible repeat (first | apply Kd.S_alloc | apply Kd.S_drewN | apply Kd.S_drew)); exact HO286.out⟩, ⟨by repeat (first | (with_reducible first | exact HB.out | apply below_alloc | apply pw_below_drewN | apply below_drew1) | exact HB.out)⟩⟩
                        · rw [if_neg c13] at H
                          exact absurd H (by simp)
                      · rw [if_neg c12] at H
                        have c12b0 : decide ((t280.length : Int) ≤ a1) = false := decide_eq_false c12
                        clear c12
                        have H' := Aside0.mk H
                        clear H
                        have p278 : 0 ≤ (x9_1 : Int) := of_decide_eq_true (by first | (with_reducible assumption) | assumption)
                        have q278 : x9_1 < (l0.length : Int) := of_decide_eq_true (by first | (with_reducible assumption) | assumption)
                        obtain ⟨ad278, e278, hx278_0⟩ := Kd.at_int HR0.out x9_1 p278 q278
                        cases e278
                        replace hx278_0 := (HB.out.cell (World.block_lt_of_cell? w _ hx278_0)).trans hx278_0
                        replace p278 := eq_true p278
                        replace q278 := eq_true q278
                        obtain ⟨i018, hi018, _, hsz18, _⟩ := info_parts info5
                        obtain ⟨A18, hcut18, hA18, hC18⟩ := print_mid_of (P := Tryd.prog) (Value.int .u8) 0 24 5 .i64 .i64 Tryd.underlying24 hi018 hsz18 (some ad278) c0 l0 x8_1 (wrap64 (x9_1 + 1)) (of_decide_eq_true (by first | (with_reducible assumption) | assumption)) (by first | omega | exact of_decide_eq_true (by first | (with_reducible assumption) | assumption)) (of_decide_eq_true (by first | (with_reducible assumption) | assumption)) HC0.out
                        have HR279 := Aside0.mk (Kd.C_of_reads (h1 := fun _ => rfl) (hA18 _ (Kd.reads_of_C HR0.out)))
                        have HC279 := Aside0.mk hC18
                        clear hA18 hC18 hi018 hsz18
                        go_wp2_with (first | ((with_reducible refine gate_callee (f := 71) rfl ?_); refine goesL_ (some 32) rfl rfl Tryd.func71 (by kernel_rfl) rfl #[.slice A18 ((l0.take ((wrap64 (x9_1 + 1)) : Int).toNat).drop (x8_1 : Int).toNat).length (c0 - x8_1.toNat)] rfl (by (try simp only [List.map_toArray, List.map_cons, List.map_nil]); first | done | (rw [show ((l0.take ((wrap64 (x9_1 + 1)) : Int).toNat).drop (x8_1 : Int).toNat).length = ((wrap64 (x9_1 + 1)).toNat - x8_1.toNat) from (by rw [List.length_drop, List.length_take]; have h_ : ((wrap64 (x9_1 + 1)) : Int) ≤ (l0.length : Int) := of_decide_eq_true (by first | (with_reducible assumption) | assumption); omega)] <;> rfl) | rfl | (simp only [List.length_drop, List.length_take]; rfl)) ?_; (with_reducible refine (trickleref03_Decode.calls k1 _ _ ((l0.take ((wrap64 (x9_1 + 1)) : Int).toNat).drop (x8_1 : Int).toNat) t280 t281 _ ?side1 ?side2 A10.out).mono ?_); (case side1 => repeat (first | exact (Kd.C_below HR279.out HB.out) | (with_reducible refine Kd.C_alloc ?_ _) | (with_reducible refine Kd.C_drewN ?_ _) | (with_reducible refine Kd.C_drew ?_))); (case side2 => exact HC279.out); rintro e w19 ⟨v282, rfl, ho0, hb⟩; refine ⟨_, rfl, ?_⟩; have n0_ := Aside0.mk (Kd.S_elder' (by (with_reducible repeat (first | apply Kd.S_alloc | apply Kd.S_drewN | apply Kd.S_drew)); exact HO_6.out) (Kd.R_base ho0) hb); have n1_ := Aside0.mk (Kd.R_lower ho0 (below_size (by repeat (first | (with_reducible first | exact HB.out | apply below_alloc | apply pw_below_drewN | apply below_drew1) | exact HB.out)))); have n2_ := Aside0.mk (below_step (by repeat (first | (with_reducible first | exact HB.out | apply below_alloc | apply pw_below_drewN | apply below_drew1) | exact HB.out)) hb); clear HO_6; clear HB; have HO_6 := n0_; have HO283 := n1_; have HB := n2_; clear n0_ n1_ n2_; (try clear hb); (try clear hb2); (try clear hk); (try clear hi); (try clear ho0); obtain ⟨Ao20, co20, eo20⟩ := Kd.R_slice HO283.out; subst eo20))
                        go_roundg k1
                        case measure => have := HK1.out; omega
                        case rel => exact ⟨(x6_1), (wrap64 (x7_1 + 1)), (wrap64 (x9_1 + 1)), (wrap64 (x9_1 + 1)), (by first | rfl | (simp; done) | (simp [*]; done)), (by first | rfl | (simp; done) | (simp [*]; done)), (by first | rfl | (simp; done) | (simp [*]; done)), H', ⟨by have := HK1.out; omega⟩, ⟨by (with_reducible repeat (first | apply Kd.S_alloc | apply Kd.S_drewN | apply Kd.S_drew)); exact Kd.S_mono HO_6.out (fun _ hk => trivial)⟩, ⟨by repeat (first | (with_reducible first | exact HB.out | apply below_alloc | apply pw_below_drewN | apply below_drew1) | exact HB.out)⟩⟩
                    · rw [if_neg c11] at H
                      have c11b0 : (t281 == 0) = false := beq_eq_false_iff_ne.mpr c11
                      have c11b1 : (t281 != 0) = true := bne_iff_ne.mpr c11
                      have H' := Aside0.mk H
                      clear H
                      have p278 : 0 ≤ (x9_1 : Int) := of_decide_eq_true (by first | (with_reducible assumption) | assumption)
                      have q278 : x9_1 < (l0.length : Int) := of_decide_eq_true (by first | (with_reducible assumption) | assumption)
                      obtain ⟨ad278, e278, hx278_0⟩ := Kd.at_int HR0.out x9_1 p278 q278
                      cases e278
                      replace hx278_0 := (HB.out.cell (World.block_lt_of_cell? w _ hx278_0)).trans hx278_0
                      replace p278 := eq_true p278
                      replace q278 := eq_true q278
                      obtain ⟨i021, hi021, _, hsz21, _⟩ := info_parts info5
                      obtain ⟨A21, hcut21, hA21, hC21⟩ := print_mid_of (P := Tryd.prog) (Value.int .u8) 0 24 5 .i64 .i64 Tryd.underlying24 hi021 hsz21 (some ad278) c0 l0 x8_1 (wrap64 (x9_1 + 1)) (of_decide_eq_true (by first | (with_reducible assumption) | assumption)) (by first | omega | exact of_decide_eq_true (by first | (with_reducible assumption) | assumption)) (of_decide_eq_true (by first | (with_reducible assumption) | assumption)) HC0.out
                      have HR279 := Aside0.mk (Kd.C_of_reads (h1 := fun _ => rfl) (hA21 _ (Kd.reads_of_C HR0.out)))
                      have HC279 := Aside0.mk hC21
                      clear hA21 hC21 hi021 hsz21
                      go_wp2_with (first | ((with_reducible refine gate_callee (f := 71) rfl ?_); refine goesL_ (some 32) rfl rfl Tryd.func71 (by kernel_rfl) rfl #[.slice A21 ((l0.take ((wrap64 (x9_1 + 1)) : Int).toNat).drop (x8_1 : Int).toNat).length (c0 - x8_1.toNat)] rfl (by (try simp only [List.map_toArray, List.map_cons, List.map_nil]); first | done | (rw [show ((l0.take ((wrap64 (x9_1 + 1)) : Int).toNat).drop (x8_1 : Int).toNat).length = ((wrap64 (x9_1 + 1)).toNat - x8_1.toNat) from (by rw [List.length_drop, List.length_take]; have h_ : ((wrap64 (x9_1 + 1)) : Int) ≤ (l0.length : Int) := of_decide_eq_true (by first | (with_reducible assumption) | assumption); omega)] <;> rfl) | rfl | (simp only [List.length_drop, List.length_take]; rfl)) ?_; (with_reducible refine (trickleref03_Decode.calls k1 _ _ ((l0.take ((wrap64 (x9_1 + 1)) : Int).toNat).drop (x8_1 : Int).toNat) t280 t281 _ ?side1 ?side2 A10.out).mono ?_); (case side1 => repeat (first | exact (Kd.C_below HR279.out HB.out) | (with_reducible refine Kd.C_alloc ?_ _) | (with_reducible refine Kd.C_drewN ?_ _) | (with_reducible refine Kd.C_drew ?_))); (case side2 => exact HC279.out); rintro e w22 ⟨v282, rfl, ho0, hb⟩; refine ⟨_, rfl, ?_⟩; have n0_ := Aside0.mk (Kd.S_elder' (by (with_reducible repeat (first | apply Kd.S_alloc | apply Kd.S_drewN | apply Kd.S_drew)); exact HO_6.out) (Kd.R_base ho0) hb); have n1_ := Aside0.mk (Kd.R_lower ho0 (below_size (by repeat (first | (with_reducible first | exact HB.out | apply below_alloc | apply pw_below_drewN | apply below_drew1) | exact HB.out)))); have n2_ := Aside0.mk (below_step (by repeat (first | (with_reducible first | exact HB.out | apply below_alloc | apply pw_below_drewN | apply below_drew1) | exact HB.out)) hb); clear HO_6; clear HB; have HO_6 := n0_; have HO283 := n1_; have HB := n2_; clear n0_ n1_ n2_; (try clear hb); (try clear hb2); (try clear hk); (try clear hi); (try clear ho0)))
                      go_roundg k1
                      case measure => have := HK1.out; omega
                      case rel => exact ⟨(x6_1), (wrap64 (x7_1 + 1)), (wrap64 (x9_1 + 1)), (wrap64 (x9_1 + 1)), (by first | rfl | (simp; done) | (simp [*]; done)), (by first | rfl | (simp; done) | (simp [*]; done)), (by first | rfl | (simp; done) | (simp [*]; done)), H', ⟨by have := HK1.out; omega⟩, ⟨by (with_reducible repeat (first | apply Kd.S_alloc | apply Kd.S_drewN | apply Kd.S_drew)); exact Kd.S_mono HO_6.out (fun _ hk => trivial)⟩, ⟨by repeat (first | (with_reducible first | exact HB.out | apply below_alloc | apply pw_below_drewN | apply below_drew1) | exact HB.out)⟩⟩
                  · rw [if_neg c9] at H
                    exact absurd H (by simp)
                · rw [if_neg c8] at H
                  exact absurd H (by simp)
              · rw [if_neg c7] at H
                exact absurd H (by simp)
            · rw [if_neg c6] at H
              have c6b0 : decide (x8_1 < x9_1) = false := decide_eq_false c6
              clear c6
              have H' := Aside0.mk H
              clear H
              have p278 : 0 ≤ (x9_1 : Int) := of_decide_eq_true (by first | (with_reducible assumption) | assumption)
              have q278 : x9_1 < (l0.length : Int) := of_decide_eq_true (by first | (with_reducible assumption) | assumption)
              obtain ⟨ad278, e278, hx278_0⟩ := Kd.at_int HR0.out x9_1 p278 q278
              cases e278
              replace hx278_0 := (HB.out.cell (World.block_lt_of_cell? w _ hx278_0)).trans hx278_0
              replace p278 := eq_true p278
              replace q278 := eq_true q278
              go_wp2
              go_roundg k1
              case measure => have := HK1.out; omega
              case rel => exact ⟨(x6_1), (x7_1), (wrap64 (x9_1 + 1)), (wrap64 (x9_1 + 1)), (by first | rfl | (simp; done) | (simp [*]; done)), (by first | rfl | (simp; done) | (simp [*]; done)), (by first | rfl | (simp; done) | (simp [*]; done)), H', ⟨by have := HK1.out; omega⟩, ⟨by (with_reducible repeat (first | apply Kd.S_alloc | apply Kd.S_drewN | apply Kd.S_drew)); exact HO_6.out⟩, ⟨by repeat (first | (with_reducible first | exact HB.out | apply below_alloc | apply pw_below_drewN | apply below_drew1) | exact HB.out)⟩⟩
          · rw [if_neg c5] at H
            have c5b0 : ((rd l0 x9_1) == 0) = false := beq_eq_false_iff_ne.mpr c5
            have c5b1 : ((rd l0 x9_1) != 0) = true := bne_iff_ne.mpr c5
            have H' := Aside0.mk H
            clear H
            have p278 : 0 ≤ (x9_1 : Int) := of_decide_eq_true (by first | (with_reducible assumption) | assumption)
            have q278 : x9_1 < (l0.length : Int) := of_decide_eq_true (by first | (with_reducible assumption) | assumption)
            obtain ⟨ad278, e278, hx278_0⟩ := Kd.at_int HR0.out x9_1 p278 q278
            cases e278
            replace hx278_0 := (HB.out.cell (World.block_lt_of_cell? w _ hx278_0)).trans hx278_0
            replace p278 := eq_true p278
            replace q278 := eq_true q278
            go_wp2
            go_roundg k1
            case measure => have := HK1.out; omega
            case rel => exact ⟨(x6_1), (x7_1), (x8_1), (wrap64 (x9_1 + 1)), (by first | rfl | (simp; done) | (simp [*]; done)), (by first | rfl | (simp; done) | (simp [*]; done)), (by first | rfl | (simp; done) | (simp [*]; done)), H', ⟨by have := HK1.out; omega⟩, ⟨by (with_reducible repeat (first | apply Kd.S_alloc | apply Kd.S_drewN | apply Kd.S_drew)); exact HO_6.out⟩, ⟨by repeat (first | (with_reducible first | exact HB.out | apply below_alloc | apply pw_below_drewN | apply below_drew1) | exact HB.out)⟩⟩
        · rw [if_neg c4] at H
          exact absurd H (by simp)
      · rw [if_neg c3] at H
        have c3b0 : decide (x9_1 < (l0.length : Int)) = false := decide_eq_false c3
        clear c3
        simp only [Option.some.injEq, Prod.mk.injEq] at H
        obtain ⟨rfl, rfl⟩ := H
        go_wp2
        go_ret2
        exact ⟨_, by first | rfl | (simp [errW_none, errW_some] <;> rfl) | (simp [*, errW_none, errW_some] <;> rfl), by (with_reducible repeat (first | apply Kd.S_alloc | apply Kd.S_drewN | apply Kd.S_drew)); exact HO_6.out, by repeat (first | (with_reducible first | exact HB.out | apply below_alloc | apply pw_below_drewN | apply below_drew1) | exact HB.out)⟩

/-! ### trickleref43_Split: function 39 -/
def trickleref43_Split.f (k : Nat) (l0 : List Int) : Option ((List (List Int))) := (trickleref03_Split.f k l0 47).bind fun bt287 => (some bt287.1)
set_option maxHeartbeats 8000000 in
set_option maxRecDepth 100000 in
theorem trickleref43_Split.calls (k : Nat) (A0 : Option Addr) (c0 : Nat) (l0 : List Int) (r : List (List Int)) (w : World) (hr0 : Kd.C (Kd.int .u8) w A0 l0.length l0) (hc0 : l0.length ≤ c0) (h : trickleref43_Split.f k l0 = some r) :
    Calls Tryd.prog 39 #[.slice A0 l0.length c0] w fun e w' => ∃ v0_ : Value, e = .returned (v0_) ∧ Kd.S (Kd.slice 5 (Kd.int .u8)) 24 w' w.heap.size (fun _ => True) v0_ r ∧ Below w.heap.size w w' := by
  have HR0 := Aside0.mk hr0
  have HC0 := Aside0.mk hc0
  clear hr0 hc0
  have HB := Aside0.mk (Below.refl w.heap.size w)
  have H : ((trickleref03_Split.f k l0 47).bind fun bt287 => (some bt287.1)) = some r := h
  clear h
  replace H := Option.bind_eq_some_iff.mp H
  obtain ⟨⟨t287, t288⟩, A20, H⟩ := H
  replace H : (some t287) = some r := H
  have A2 := Aside0.mk A20
  clear A20
  obtain rfl := Option.some.inj H
  go_enter Tryd.func39, Tryd.ntmps39
  go_wp2_with (first | ((with_reducible refine gate_callee (f := 61) rfl ?_); refine goesL_ (some 7) rfl rfl Tryd.func61 (by kernel_rfl) rfl #[.slice A0 l0.length c0, .int .i64 47] rfl (by (try simp only [List.map_toArray, List.map_cons, List.map_nil]); first | done | rfl | (simp only [List.length_drop, List.length_take]; rfl)) ?_; (with_reducible refine (trickleref03_Split.calls k _ _ l0 47 t287 t288 _ ?side1 ?side2 A2.out).mono ?_); (case side1 => repeat (first | exact HR0.out | (with_reducible refine Kd.C_alloc ?_ _) | (with_reducible refine Kd.C_drewN ?_ _) | (with_reducible refine Kd.C_drew ?_))); (case side2 => exact HC0.out); rintro e w3 ⟨v289, rfl, ho0, hb⟩; refine ⟨_, rfl, ?_⟩; have n0_ := Aside0.mk (Kd.S_lower ho0 (below_size (by repeat (first | (with_reducible first | exact HB.out | apply below_alloc | apply pw_below_drewN | apply below_drew1) | exact HB.out)))); have n1_ := Aside0.mk (below_step (by repeat (first | (with_reducible first | exact HB.out | apply below_alloc | apply pw_below_drewN | apply below_drew1) | exact HB.out)) hb); clear HB; have HO290 := n0_; have HB := n1_; clear n0_ n1_; (try clear hb); (try clear hb2); (try clear hk); (try clear hi); (try clear ho0)))
  go_ret
  exact ⟨_, by first | rfl | (simp [errW_none, errW_some] <;> rfl) | (simp [*, errW_none, errW_some] <;> rfl), by (with_reducible repeat (first | apply Kd.S_alloc | apply Kd.S_drewN | apply Kd.S_drew)); exact HO290.out, by repeat (first | (with_reducible first | exact HB.out | apply below_alloc | apply pw_below_drewN | apply below_drew1) | exact HB.out)⟩

end Go.Proofs.YtfhnpphceeoeeaaDoor.PX
/- Both Streams; both Decodes. -/
namespace Go.Proofs.YtfhnpphceeoeeaaDoor.PX
open Go.RowKit Go.Proofs.YtfhnpphceeoeeaaDoorW.PrintWords Go.Proofs.YtfhnpphceeoeeaaDoorW.PrintLast Go.Proofs.YtfhnpphceeoeeaaDoorW.PrintMore
set_option linter.unusedVariables false
set_option linter.unusedSimpArgs false
theorem rdL_nat (l : List (List Int)) (j : Nat) (h : j < l.length) : rd_L1 l (j : Int) = l[j] := by
  unfold rd_L1
  rw [Int.toNat_natCast, List.getD_eq_getElem?_getD, List.getElem?_eq_getElem h, Option.getD_some]
theorem cob_len (l : List Int) : (cob l).length ≤ 2 * l.length + 2 := (enc_len (l.length + 1) l (Nat.lt_succ_self _)).2
theorem stream_loop (ls : List (List Int)) (hn : ls.length ≤ 1000) (hb : ∀ p ∈ ls, Bytes p ∧ p.length ≤ 1000) : ∀ (d j : Nat) (acc : List Int), j + d = ls.length → acc.length ≤ 10000 * j → Ev (fun k => frame_Stream.l0 k acc ls (ls.length : Int) (j : Int)) (acc ++ (ls.drop j).flatMap cob)
  | 0, j, acc, hj, ha => by
    refine Ev.step (fun k => by rw [frame_Stream.l0]) (Ev.neg (by omega) ?_)
    rw [List.drop_of_length_le (by omega), List.flatMap_nil, List.append_nil]
    exact Ev.now _
  | d + 1, j, acc, hj, ha => by
    have hjl : j < ls.length := by omega
    obtain ⟨b1, b2⟩ := hb _ (List.getElem_mem hjl)
    have hl := cob_len ls[j]
    have w : wrap64 ((j : Int) + 1) = ((j + 1 : Nat) : Int) := wrap_nat hjl (by omega)
    refine Ev.step (fun k => by rw [frame_Stream.l0]) ?_
    rw [rdL_nat ls j hjl, w]
    clear w
    refine Ev.pos (by omega) (Ev.pos (by omega) (Ev.pos (by omega) ?_))
    refine Ev.bind (cob_encode _ b1 (by omega)) ?_
    refine Ev.pos (by omega) (Ev.cast (stream_loop ls hn hb d (j + 1) _ (by omega) (by rw [List.length_append]; omega)) ?_)
    rw [List.drop_eq_getElem_cons hjl, List.flatMap_cons, List.append_assoc]
theorem rstream_loop (ls : List (List Int)) (hn : ls.length ≤ 1000) (hb : ∀ p ∈ ls, Bytes p ∧ p.length ≤ 1000) : ∀ (d j : Nat) (acc : List Int), j + d = ls.length → acc.length ≤ 10000 * j → Ev (fun k => trickleref43_Stream.l0 k ls acc (j : Int)) (acc ++ (ls.drop j).flatMap cob)
  | 0, j, acc, hj, ha => by
    refine Ev.step (fun k => by rw [trickleref43_Stream.l0]) (Ev.neg (by omega) ?_)
    rw [List.drop_of_length_le (by omega), List.flatMap_nil, List.append_nil]
    exact Ev.now _
  | d + 1, j, acc, hj, ha => by
    have hjl : j < ls.length := by omega
    obtain ⟨b1, b2⟩ := hb _ (List.getElem_mem hjl)
    have hl := cob_len ls[j]
    have w : wrap64 ((j : Int) + 1) = ((j + 1 : Nat) : Int) := wrap_nat hjl (by omega)
    refine Ev.step (fun k => by rw [trickleref43_Stream.l0]) ?_
    rw [rdL_nat ls j hjl, w]
    clear w
    refine Ev.pos (by omega) (Ev.pos (by omega) ?_)
    refine Ev.bind (cob_rencode _ (by omega)) ?_
    refine Ev.pos (by omega) (Ev.cast (rstream_loop ls hn hb d (j + 1) _ (by omega) (by rw [List.length_append]; omega)) ?_)
    rw [List.drop_eq_getElem_cons hjl, List.flatMap_cons, List.append_assoc]
theorem stream_ev (ls : List (List Int)) (hn : ls.length ≤ 1000) (hb : ∀ p ∈ ls, Bytes p ∧ p.length ≤ 1000) : Ev (fun k => frame_Stream.f k ls) (ls.flatMap cob) := by
  have h := stream_loop ls hn hb ls.length 0 [] (by omega) (by simp)
  rw [List.nil_append, List.drop_zero] at h
  exact Ev.congr (fun k => by rw [frame_Stream.f]; rfl) h
theorem rstream_ev (ls : List (List Int)) (hn : ls.length ≤ 1000) (hb : ∀ p ∈ ls, Bytes p ∧ p.length ≤ 1000) : Ev (fun k => trickleref43_Stream.f k ls) (ls.flatMap cob) := by
  have h := rstream_loop ls hn hb ls.length 0 [] (by omega) (by simp)
  rw [List.nil_append, List.drop_zero] at h
  exact Ev.congr (fun k => by rw [trickleref43_Stream.f]; rfl) h
end Go.Proofs.YtfhnpphceeoeeaaDoor.PX
-- Written by a program of this session (wip/xprint.py, over the kit's print tool). Lean checks it.
namespace Go.Proofs.YtfhnpphceeoeeaaDoor.PX
open Go.RowKit Go.Proofs.YtfhnpphceeoeeaaDoorW.PrintWords Go.Proofs.YtfhnpphceeoeeaaDoorW.PrintLast Go.Proofs.YtfhnpphceeoeeaaDoorW.PrintMore
attribute [local go_sem] max2_int min2_int max_two min_two max_three min_three max_four min_four   -- for this text's walks alone
set_option linter.unusedVariables false
set_option linter.unusedSimpArgs false

/-! ### trickleref43_Encode: function 21 -/
def trickleref43_Encode.T3 : Bool × List (List Nat × List Nat) := (true, [([], []), ([0], [0]), ([1], [1]), ([2], [2]), ([], []), ([4], [4]), ([5], [5]), ([3, 6, 6], [3, 6]), ([7, 7, 0, 1, 2, 3, 4, 5, 6, 7], [7])])
def trickleref43_Encode.B3 : List Nat := [0, 1, 3, 7, 0, 16, 48, 127, 255]
theorem trickleref43_Encode.tab3 : rtab .any (opsOf Tryd.f21 3) = trickleref43_Encode.T3 := by kernel_rfl
theorem trickleref43_Encode.bits3 : waitsOk trickleref43_Encode.T3.2 trickleref43_Encode.B3 = true := by kernel_rfl
end Go.Proofs.YtfhnpphceeoeeaaDoor.PX
/- Frames in plain words, 1: numbers as bytes, the packet of a frame, what is decoded of bytes. -/
namespace Go.Proofs.YtfhnpphceeoeeaaDoor.PX
open Go.RowKit Go.Proofs.YtfhnpphceeoeeaaDoorW.PrintWords Go.Proofs.YtfhnpphceeoeeaaDoorW.PrintLast Go.Proofs.YtfhnpphceeoeeaaDoorW.PrintMore
set_option linter.unusedVariables false
set_option linter.unusedSimpArgs false
/-- The bytes of a number, the low one first. -/
def leN : Nat → Int → List Int
  | 0, _ => []
  | n + 1, a => a % 256 :: leN n (a / 256)
theorem Bytes.drop {l : List Int} (h : Bytes l) (n : Nat) : Bytes (l.drop n) := fun x hx => h x (List.mem_of_mem_drop hx)
theorem Bytes.take {l : List Int} (h : Bytes l) (n : Nat) : Bytes (l.take n) := fun x hx => h x (List.mem_of_mem_take hx)
theorem Bytes.append {a b : List Int} (h : Bytes a) (k : Bytes b) : Bytes (a ++ b) := fun x hx => (List.mem_append.mp hx).elim (h x) (k x)
/-- The packet of a frame: its head and body, and the checksum of both. -/
def pk (k s : Int) (b : List Int) : List Int := (k % 256 :: leN 4 s) ++ b
def tailB (l : List Int) : List Int := [I16 (crc l) / 256 % 256, I16 (crc l) % 256]
def enc (k s : Int) (b : List Int) : List Int := pk k s b ++ tailB (pk k s b)
end Go.Proofs.YtfhnpphceeoeeaaDoor.PX
/- cobs.Decode computes decodeR. -/
namespace Go.Proofs.YtfhnpphceeoeeaaDoor.PX
open Go.RowKit Go.Proofs.YtfhnpphceeoeeaaDoorW.PrintWords Go.Proofs.YtfhnpphceeoeeaaDoorW.PrintLast Go.Proofs.YtfhnpphceeoeeaaDoorW.PrintMore
set_option linter.unusedVariables false
set_option linter.unusedSimpArgs false
theorem enc_bytesC : ∀ (f : Nat) (l : List Int), Bytes l → Bytes (encC f l)
  | 0, l, h => fun x hx => by cases hx
  | f + 1, l, h => fun x hx => by
    obtain ⟨h1, h2⟩ := run_le l
    rw [encC] at hx
    rcases List.mem_cons.mp hx with rfl | hx
    · omega
    · rcases List.mem_append.mp hx with hx | hx
      · exact h x (List.mem_of_mem_take hx)
      · split at hx
        · rw [List.mem_singleton.mp hx]; omega
        · refine enc_bytesC f _ ?_ x hx
          intro y hy
          split at hy <;> exact h y (List.mem_of_mem_drop hy)
theorem str_inj : ∀ (a b : List Int), Bytes a → Bytes b → a.map (fun n => UInt8.ofNat n.toNat) = b.map (fun n => UInt8.ofNat n.toNat) → a = b
  | [], [], _, _, _ => rfl
  | [], y :: b, _, _, h => by simp at h
  | x :: a, [], _, _, h => by simp at h
  | x :: a, y :: b, ha, hb, h => by
    rw [List.map_cons, List.map_cons] at h
    injection h with h1 h2
    have hx := ha x (by simp)
    have hy := hb y (by simp)
    have e := congrArg UInt8.toNat h1
    rw [UInt8.toNat_ofNat', UInt8.toNat_ofNat'] at e
    rw [show x = y by omega, str_inj a b (fun z hz => ha z (by simp [hz])) (fun z hz => hb z (by simp [hz])) h2]
theorem str_eq (a b : List Int) (ha : Bytes a) (hb : Bytes b) : ((strOfNums a).toList == (strOfNums b).toList) = decide (a = b) := by
  rw [Bool.eq_iff_iff, beq_iff_eq, decide_eq_true_eq]
  constructor
  · intro h
    rw [Lib.strOfNums_toList, Lib.strOfNums_toList] at h
    exact str_inj a b ha hb h
  · rintro rfl; rfl
def fin (x0 x : List Int) : List Int × Int := if cob x = x0 then (x, 0) else ([], 2)
def finO (x0 : List Int) : Option (List Int) → List Int × Int
  | none => ([], 2)
  | some x => fin x0 x
theorem decode_loop (x0 : List Int) (hx0 : Bytes x0) : ∀ (f : Nat) (rest acc : List Int), rest.length < f → Bytes rest → Bytes acc → acc.length + rest.length ≤ 10000 → Ev (fun k => cobs_Decode.l0 k x0 acc rest) (finO x0 (dec f acc rest))
  | 0, rest, acc, h, _, _, _ => by omega
  | f + 1, [], acc, h, hr, ha, hn => by
    refine Ev.step (fun k => by rw [cobs_Decode.l0]) ?_
    refine Ev.neg (by simp) ?_
    refine Ev.bind (cob_encode acc ha (by simpa using hn)) ?_
    refine Ev.const (a := decide (cob acc = x0)) (by unfold bytes_Equal.f; rw [str_eq (cob acc) x0 (enc_bytesC (acc.length + 1) acc ha) hx0]) ?_
    rw [dec, finO, fin]
    by_cases h : cob acc = x0
    · rw [if_pos h]; exact Ev.pos (decide_eq_true h) (Ev.now _)
    · rw [if_neg h]; exact Ev.neg (by rw [decide_eq_true_eq]; exact h) (Ev.now _)
  | f + 1, c :: t, acc, h, hr, ha, hn => by
    have hc := hr c (by simp)
    have ht : Bytes t := fun x hx => hr x (by simp [hx])
    rw [List.length_cons] at h hn
    have e0 : rd (c :: t) 0 = c := rfl
    have e1 : wrap64 (wrap64 c - 1) = c - 1 := by rw [wrap_id (i := c) (by omega) (by omega), wrap_id (by omega) (by omega)]
    refine Ev.step (fun k => by rw [cobs_Decode.l0]) ?_
    rw [e0, e1, List.length_cons]
    clear e0 e1
    refine Ev.pos (by omega) (Ev.pos (by omega) ?_)
    have no : Ev (fun k => cobs_Decode.j2 k x0 acc (c :: t) (c - 1) true) ([], 2) := Ev.step (fun k => by rw [cobs_Decode.j2]) (Ev.pos rfl (Ev.now _))
    by_cases h1 : c - 1 < 0
    · rw [dec, if_pos (by omega)]
      exact Ev.pos h1 no
    refine Ev.neg h1 ?_
    by_cases h2 : c - 1 ≥ ((t.length + 1 : Nat) : Int)
    · rw [dec, if_pos (by omega), decide_eq_true h2]
      exact no
    rw [dec, if_neg (by omega), decide_eq_false h2]
    obtain ⟨n, hcn⟩ : ∃ n : Nat, c - 1 = n := Int.eq_ofNat_of_zero_le (by omega)
    rw [hcn, Int.toNat_natCast]
    have w : wrap64 (1 + (n : Int)) = ((n + 1 : Nat) : Int) := by rw [wrap_id (by omega) (by omega)]; omega
    refine Ev.step (fun k => by rw [cobs_Decode.j2]) ?_
    rw [w, Int.toNat_natCast, List.take_succ_cons, List.drop_succ_cons, List.drop_zero, List.drop_succ_cons, List.length_cons]
    clear w
    have hlt : (t.take n).length = n := by rw [List.length_take]; omega
    have hld : (t.drop n).length = t.length - n := List.length_drop ..
    refine Ev.neg (by decide) (Ev.pos (by omega) (Ev.pos (by omega) (Ev.someb ?_)))
    refine Ev.pos (by omega) (Ev.someb (Ev.pos (by omega) (Ev.someb ?_)))
    have bt : Bytes (acc ++ t.take n) := Bytes.append ha (Bytes.take ht n)
    have bd : Bytes (t.drop n) := Bytes.drop ht n
    by_cases h3 : t.drop n = []
    · rw [h3]
      refine Ev.neg (by simp) ?_
      rw [if_neg (by simp), List.append_nil]
      have := decode_loop x0 hx0 f [] (acc ++ t.take n) (by simp; omega) (fun x hx => by cases hx) bt (by simp [hlt]; omega)
      exact this
    · have hpos : 0 < (t.drop n).length := List.length_pos_iff.mpr h3
      refine Ev.pos (by omega) ?_
      by_cases h4 : (n : Int) < 254
      · rw [if_pos ⟨h3, h4⟩]
        refine Ev.pos h4 (Ev.pos (by rw [List.length_append, hlt]; omega) ?_)
        exact decode_loop x0 hx0 f (t.drop n) _ (by omega) bd (Bytes.append bt (fun x hx => by rw [List.mem_singleton.mp hx]; omega)) (by rw [List.length_append, List.length_append, hlt, List.length_singleton]; omega)
      · rw [if_neg (fun e => h4 e.2), List.append_nil]
        exact Ev.neg h4 (decode_loop x0 hx0 f (t.drop n) _ (by omega) bd bt (by rw [List.length_append, hlt]; omega))
theorem decode_evC (b : List Int) (hb : Bytes b) (hn : b.length ≤ 10000) : Ev (fun k => cobs_Decode.f k b) (decodeR b) := by
  have no : Ev (fun k => cobs_Decode.j0 k b true) ([], 3) := Ev.step (fun k => by rw [cobs_Decode.j0]) (Ev.pos rfl (Ev.now _))
  refine Ev.congr (fun k => by rw [cobs_Decode.f]) ?_
  unfold decodeR
  by_cases h0 : b = []
  · subst h0
    rw [if_pos (.inl rfl)]
    exact Ev.pos (by simp) no
  have hpos : 0 < b.length := List.length_pos_iff.mpr h0
  have w : wrap64 ((b.length : Int) - 1) = ((b.length - 1 : Nat) : Int) := by rw [wrap_id (by omega) (by omega)]; omega
  have hj : b.length - 1 < b.length := by omega
  rw [w, rd_nat b _ hj]
  refine Ev.neg (by omega) (Ev.pos (by omega) (Ev.pos (by omega) ?_))
  have hlast : b.getLast? = some b[b.length - 1] := by rw [List.getLast?_eq_getElem?, List.getElem?_eq_getElem hj]
  rw [hlast]
  by_cases hz : b[b.length - 1] = 0
  · rw [hz, show ((0 : Int) != 0) = false from rfl, if_neg (by simp [h0])]
    refine Ev.step (fun k => by rw [cobs_Decode.j0]) ?_
    rw [w, Int.toNat_natCast]
    refine Ev.neg (by decide) (Ev.pos (by omega) (Ev.pos (by omega) ?_))
    have hd : b.take (b.length - 1) = b.dropLast := (List.dropLast_eq_take ..).symm
    rw [hd]
    have h := decode_loop b hb (b.length + 1) b.dropLast [] (by rw [List.length_dropLast]; omega) (fun x hx => hb x (List.dropLast_subset _ hx)) (fun x hx => by cases hx) (by rw [List.length_dropLast, List.length_nil]; omega)
    refine Ev.cast h ?_
    cases dec (b.length + 1) [] b.dropLast with
    | none => rfl
    | some x => rfl
  · rw [show (b[b.length - 1] != 0) = true from bne_iff_ne.mpr hz, if_pos (.inr (by simpa using hz))]
    exact no
end Go.Proofs.YtfhnpphceeoeeaaDoor.PX
/- The reference's Decode computes decodeR. -/
namespace Go.Proofs.YtfhnpphceeoeeaaDoor.PX
open Go.RowKit Go.Proofs.YtfhnpphceeoeeaaDoorW.PrintWords Go.Proofs.YtfhnpphceeoeeaaDoorW.PrintLast Go.Proofs.YtfhnpphceeoeeaaDoorW.PrintMore
set_option linter.unusedVariables false
set_option linter.unusedSimpArgs false
theorem rdecode_loop (x0 : List Int) (hb : Bytes x0) (hpos : 0 < x0.length) (hn : x0.length ≤ 5000) : ∀ (f p : Nat) (acc : List Int), x0.length - 1 - p < f → p ≤ x0.length - 1 → Bytes acc → acc.length + (x0.length - 1 - p) ≤ 10000 → Ev (fun k => trickleref03_Decode.l0 k x0 acc (p : Int)) (finO x0 (dec f acc (x0.dropLast.drop p)))
  | 0, p, acc, h, _, _, _ => by omega
  | f + 1, p, acc, h, hp, ha, hs => by
    have w : wrap64 ((x0.length : Int) - 1) = ((x0.length - 1 : Nat) : Int) := by rw [wrap_id (by omega) (by omega)]; omega
    refine Ev.step (fun k => by rw [trickleref03_Decode.l0]) ?_
    rw [w]
    by_cases hend : p < x0.length - 1
    case neg =>
      rw [List.drop_of_length_le (by rw [List.length_dropLast]; omega), dec, finO, fin]
      refine Ev.neg (by omega) (Ev.bind (cob_rencode acc (by omega)) ?_)
      refine Ev.const (a := decide (cob acc = x0)) (by unfold trickleref03_Same.f; rw [str_eq (cob acc) x0 (enc_bytesC (acc.length + 1) acc ha) hb]) ?_
      by_cases h : cob acc = x0
      · rw [if_pos h]; exact Ev.pos (decide_eq_true h) (Ev.now _)
      · rw [if_neg h]; exact Ev.neg (by rw [decide_eq_true_eq]; exact h) (Ev.now _)
    have hpl : p < x0.length := by omega
    have hpd : p < x0.dropLast.length := by rw [List.length_dropLast]; omega
    obtain ⟨c, hcx⟩ : ∃ c, c = x0[p] := ⟨_, rfl⟩
    have hc := hb x0[p] (List.getElem_mem hpl)
    rw [← hcx] at hc
    have hdrop : x0.dropLast.drop p = c :: x0.dropLast.drop (p + 1) := by rw [List.drop_eq_getElem_cons hpd, List.getElem_dropLast, hcx]
    have hlt : (x0.dropLast.drop (p + 1)).length = x0.length - 1 - (p + 1) := by rw [List.length_drop, List.length_dropLast]
    have w1 : wrap64 c = c := wrap_id (by omega) (by omega)
    have no : Ev (fun k => trickleref03_Decode.j2 k x0 acc (p : Int) c true) ([], 2) := Ev.step (fun k => by rw [trickleref03_Decode.j2]) (Ev.pos rfl (Ev.now _))
    rw [rd_nat x0 p hpl, ← hcx, w1, hdrop, dec]
    clear w1
    refine Ev.pos (by omega) (Ev.pos (by omega) (Ev.pos (by omega) ?_))
    by_cases h1 : c = 0
    · rw [if_pos (by omega)]
      refine Ev.pos h1 no
    refine Ev.neg h1 ?_
    obtain ⟨n, hcn⟩ : ∃ n : Nat, c = ((n + 1 : Nat) : Int) := ⟨(c - 1).toNat, by omega⟩
    have w2 : wrap64 ((p : Int) + c) = ((p + n + 1 : Nat) : Int) := by rw [wrap_id (by omega) (by omega)]; omega
    rw [w2]
    by_cases h2 : ((p + n + 1 : Nat) : Int) > ((x0.length - 1 : Nat) : Int)
    · rw [if_pos (by omega), decide_eq_true h2]
      exact no
    rw [if_neg (by omega), decide_eq_false h2]
    have w3 : wrap64 ((p : Int) + 1) = ((p + 1 : Nat) : Int) := by rw [wrap_id (by omega) (by omega)]; omega
    refine Ev.step (fun k => by rw [trickleref03_Decode.j2]) ?_
    rw [w, w2, w3, Int.toNat_natCast, Int.toNat_natCast]
    clear w w2 w3
    have hcut : (x0.take (p + n + 1)).drop (p + 1) = (x0.dropLast.drop (p + 1)).take n := by
      rw [List.dropLast_eq_take, List.drop_take, List.drop_take, List.take_take, show p + n + 1 - (p + 1) = n by omega, Nat.min_eq_left (by omega)]
    have hdd : (x0.dropLast.drop (p + 1)).drop (c - 1).toNat = x0.dropLast.drop (p + n + 1) := by
      rw [show (c - 1).toNat = n by omega, List.drop_drop]
      congr 1
      omega
    have hcn2 : (c - 1).toNat = n := by omega
    rw [hcut, hdd, hcn2]
    have hln : ((x0.dropLast.drop (p + 1)).take n).length = n := by rw [List.length_take, hlt]; omega
    have hll : (x0.dropLast.drop (p + n + 1)).length = x0.length - 1 - (p + n + 1) := by rw [List.length_drop, List.length_dropLast]
    have bdl : Bytes x0.dropLast := fun x hx => hb x (List.dropLast_subset _ hx)
    have bt : Bytes (acc ++ (x0.dropLast.drop (p + 1)).take n) := Bytes.append ha (Bytes.take (Bytes.drop bdl _) n)
    refine Ev.neg (by decide) (Ev.pos (by omega) (Ev.pos (by omega) (Ev.pos (by omega) (Ev.pos (by omega) (Ev.someb ?_)))))
    have go : ∀ tail, Bytes tail → tail.length ≤ 1 → Ev (fun k => trickleref03_Decode.l0 k x0 (acc ++ (x0.dropLast.drop (p + 1)).take n ++ tail) ((p + n + 1 : Nat) : Int)) (finO x0 (dec f (acc ++ (x0.dropLast.drop (p + 1)).take n ++ tail) (x0.dropLast.drop (p + n + 1)))) := fun tail htl hl1 =>
      rdecode_loop x0 hb hpos hn f (p + n + 1) _ (by omega) (by omega) (Bytes.append bt htl) (by rw [List.length_append, List.length_append, hln]; omega)
    have go0 := go [] (fun x hx => by cases hx) (by simp)
    rw [List.append_nil] at go0
    by_cases h3 : c < 255
    · refine Ev.pos h3 ?_
      by_cases h4 : p + n + 1 < x0.length - 1
      · have hne : x0.dropLast.drop (p + n + 1) ≠ [] := by
          intro e
          have := congrArg List.length e
          rw [hll, List.length_nil] at this
          omega
        rw [if_pos ⟨hne, by omega⟩]
        exact Ev.pos (by omega) (Ev.pos (by rw [List.length_append, hln]; omega) (go [0] (fun x hx => by rw [List.mem_singleton.mp hx]; omega) (by simp)))
      · have he : x0.dropLast.drop (p + n + 1) = [] := List.drop_of_length_le (by rw [List.length_dropLast]; omega)
        rw [if_neg (fun e => e.1 he), List.append_nil]
        exact Ev.neg (by omega) go0
    · rw [if_neg (fun e => by omega), List.append_nil]
      exact Ev.neg h3 go0
theorem rdecode_evC (b : List Int) (hb : Bytes b) (hn : b.length ≤ 5000) : Ev (fun k => trickleref03_Decode.f k b) (decodeR b) := by
  have no : Ev (fun k => trickleref03_Decode.j0 k b true) ([], 3) := Ev.step (fun k => by rw [trickleref03_Decode.j0]) (Ev.pos rfl (Ev.now _))
  refine Ev.congr (fun k => by rw [trickleref03_Decode.f]) ?_
  unfold decodeR
  by_cases h0 : b = []
  · subst h0
    rw [if_pos (.inl rfl)]
    exact Ev.pos (by simp) no
  have hpos : 0 < b.length := List.length_pos_iff.mpr h0
  have w : wrap64 ((b.length : Int) - 1) = ((b.length - 1 : Nat) : Int) := by rw [wrap_id (by omega) (by omega)]; omega
  have hj : b.length - 1 < b.length := by omega
  rw [w, rd_nat b _ hj]
  clear w
  refine Ev.neg (by omega) (Ev.pos (by omega) (Ev.pos (by omega) ?_))
  have hlast : b.getLast? = some b[b.length - 1] := by rw [List.getLast?_eq_getElem?, List.getElem?_eq_getElem hj]
  rw [hlast]
  by_cases hz : b[b.length - 1] = 0
  · rw [hz, show ((0 : Int) != 0) = false from rfl, if_neg (by simp [h0])]
    refine Ev.step (fun k => by rw [trickleref03_Decode.j0]) ?_
    refine Ev.neg (by decide) ?_
    have h := rdecode_loop b hb hpos hn (b.length + 1) 0 [] (by omega) (by omega) (fun x hx => by cases hx) (by rw [List.length_nil]; omega)
    rw [List.drop_zero] at h
    refine Ev.cast h ?_
    cases dec (b.length + 1) [] b.dropLast with
    | none => rfl
    | some x => rfl
  · rw [show (b[b.length - 1] != 0) = true from bne_iff_ne.mpr hz, if_pos (.inr (by simpa using hz))]
    exact no
end Go.Proofs.YtfhnpphceeoeeaaDoor.PX
/- frame.Split: what it computes, and that the call computes it (the splitter is a block of the call's own; its pending bytes are a row of the call's own). -/
namespace Go.Proofs.YtfhnpphceeoeeaaDoor.PX
open Go.RowKit Go.Proofs.YtfhnpphceeoeeaaDoorW.PrintWords Go.Proofs.YtfhnpphceeoeeaaDoorW.PrintLast Go.Proofs.YtfhnpphceeoeeaaDoorW.PrintMore
set_option linter.unusedVariables false
set_option linter.unusedSimpArgs false
def splD (k : Nat) : List Int → List Int → List (List Int) → Option (List (List Int))
  | [], _, out => some out
  | c :: r, pend, out =>
    if pend.length < 1000000 then
      if c = 0 then
        if pend = [] then splD k r [] out
        else (cobs_Decode.f k (pend ++ [c])).bind fun p =>
          if p.2 = 0 then
            if (p.1.length : Int) ≤ 47 then if out.length < 1000000 then splD k r [] (out ++ [p.1]) else none
            else splD k r [] out
          else splD k r [] out
      else splD k r (pend ++ [c]) out
    else none
def frame_Split.f (k : Nat) (l0 : List Int) : Option (List (List Int)) := splD k l0 [] []
theorem V_of_R {W : World} {base : Nat} {ok : Nat → Prop} {v : Value} {xs : List Int} (h : Kd.R (Kd.int .u8) 5 W base ok v xs) : Kd.V (Kd.int .u8) 5 W W.heap.size ok v xs := by
  obtain ⟨A, c, rfl, hl, _⟩ := Kd.R_reads h
  refine ⟨A, c, rfl, hl, fun W' hW => ?_⟩
  exact (Kd.R_reads' (Kd.R_move (Kd.R_bound h) (fun k hk => hW k hk.1 hk.2.2.1))).2.2
set_option maxHeartbeats 8000000 in
set_option maxRecDepth 100000 in
theorem write_calls (k : Nat) (A0 : Option Addr) (c0 : Nat) (l0 : List Int) (r : List (List Int)) (w0 w : World) (g : Nat) (hb : Below w0.heap.size w0 w) (hg : w0.heap.size ≤ g)
    (hblk : w.heap[g]? = some (.cells #[.int .i64 47, .slice none 0 0, .int .i64 0] 89 (0, 0))) (hr0 : Kd.C (Kd.int .u8) w0 A0 l0.length l0) (h : splD k l0 [] [] = some r) :
    Calls Tryd.prog 60 #[.pointer (some ⟨g, 0, none⟩), .slice A0 l0.length c0] w fun e w' => ∃ v0_ : Value, e = .returned (v0_) ∧ Kd.S (Kd.slice 5 (Kd.int .u8)) 24 w' w0.heap.size (fun _ => True) v0_ r ∧ Below w0.heap.size w0 w' := by
  have HR0 := Aside0.mk hr0
  have HB := Aside0.mk hb
  have HG := Aside0.mk hg
  have HK := Aside0.mk hblk
  have H' := Aside0.mk h
  have HL : Aside0 (l0.length ≤ 9223372036854775807) := ⟨hr0.2.1⟩
  clear hr0 hb hg hblk h
  go_enter Tryd.func60, Tryd.ntmps60
  go_wp2
  go_loopg [5, 13] l0.length (fun kq v5 v13 W => ∃ (j : Int) (pend : List Int) (out : List (List Int)) (pv : Value) (sk : Int), v13 = .int .i64 j ∧ Aside0 (0 ≤ j ∧ j + kq = l0.length) ∧ Aside0 (splD k (l0.drop j.toNat) pend out = some r) ∧ Aside0 (W.heap[g]? = some (.cells #[.int .i64 47, pv, .int .i64 sk] 89 (0, 0))) ∧ Aside0 (Kd.R (Kd.int .u8) 5 W w0.heap.size (fun k_ => w0.heap.size ≤ k_) pv pend) ∧ Aside0 (Kd.S (Kd.slice 5 (Kd.int .u8)) 24 W w0.heap.size (fun k_ => True ∧ some k_ ≠ pv.ownBlock) v5 out) ∧ Aside0 (Below w0.heap.size w0 W))
  case atStart => exact ⟨0, [], [], .slice none 0 0, 0, rfl, ⟨by omega, by omega⟩, ⟨H'.out⟩, HK, ⟨Kd.R_nil _ _ _ _ _⟩, ⟨Kd.S_nil _ _ _ _ _⟩, HB⟩
  case round =>
    clear H' HB HK
    obtain ⟨j, pend, out, pv, sk, rfl, HJ, HD, HK, HP, HO, HB⟩ := hrel
    by_cases c2 : j < (l0.length : Int)
    · have hjn : j.toNat < l0.length := by have := HJ.out; omega
      have hd := HD.out
      rw [List.drop_eq_getElem_cons hjn] at hd
      obtain ⟨ad, e0, hx⟩ := Kd.at_int HR0.out j HJ.out.1 c2
      cases e0
      have hcr : rd l0 j = l0[j.toNat] := by simp [rd, List.getD_eq_getElem?_getD, List.getElem?_eq_getElem hjn]
      replace hx := (HB.out.cell (World.block_lt_of_cell? w0 _ hx)).trans hx
      rw [hcr] at hx
      obtain ⟨c, hc⟩ : ∃ c, c = l0[j.toNat] := ⟨_, rfl⟩
      rw [← hc] at hx hd
      have hnx : l0.drop (j.toNat + 1) = l0.drop (wrap64 (j + 1)).toNat := by
        have h1_ := HL.out
        have h2_ := HJ.out
        congr 1
        unfold wrap64
        omega
      have hw1 : wrap64 (j + 1) = j + 1 := by
        have h1_ := HL.out
        have h2_ := HJ.out
        unfold wrap64
        omega
      rw [hnx] at hd
      have HW1 := Aside0.mk hw1
      clear hcr hc hnx hw1
      unfold splD at hd
      by_cases hp : pend.length < 1000000
      case neg => rw [if_neg hp] at hd; cases hd
      rw [if_pos hp] at hd
      have HPL := Aside0.mk hp
      have c2b0 : decide (j < (l0.length : Int)) = true := decide_eq_true c2
      have pj := eq_true HJ.out.1
      have qj := eq_true c2
      have HSZ : Aside0 (w0.heap.size ≤ wr.heap.size) := ⟨below_size HB.out⟩
      have k1 : wr.cell? ⟨g, 1, none⟩ = some pv := by rw [blk_cell HK.out 1]; rfl
      have hpo : Aside0 (Kd.R (Kd.int .u8) 5 wr w0.heap.size (fun k_ => w0.heap.size ≤ k_) pv pend) := HP
      obtain ⟨pa, pc, hpe⟩ := Kd.R_slice HP.out
      subst hpe
      clear hp c2 hjn HD hpo
      cases gk with
      | zero => exact absurd (of_decide_eq_true c2b0) (by have := HJ.out; omega)
      | succ kq2 =>
        by_cases hc0 : c = 0
        case neg =>
          rw [if_neg hc0] at hd
          have z0 : (c == 0) = false := beq_eq_false_iff_ne.mpr hc0
          have z1 : (c != 0) = true := bne_iff_ne.mpr hc0
          have z2 : decide (c = 0) = false := decide_eq_false hc0
          go_wp2_with ((with_reducible refine gate_builtin (b := .append) (xs := #[.tmp 21, .tmp 23]) rfl ?_); at_builtin; refine Kd.R_append (Kd.int .u8) (w0 := w0) w0.heap.size rfl (.tmp 21) (.tmp 23) 24 5 (.int .u8 0) 1 rfl Tryd.underlying24 info5 rfl (by decide) (by omega) (.slice pa pend.length pc) pend c [.int .u8 c] (fun k_ => (w0.heap.size ≤ k_)) (fun _ => False) rfl rfl rfl (fun _ hk => hk.elim) (fun k_ hk => Nat.le_trans HSZ.out hk) HP.out HB.out HSZ.out ?aL ?_)
          case aL => have := HPL.out; omega
          intro pv1 w1 ho hb1 hg1 hat1
          have HK1 : Aside0 (w1.heap[g]? = some (.cells #[.int .i64 47, .slice pa pend.length pc, .int .i64 sk] 89 (0, 0))) := ⟨blk_grown HK.out hg1 (Kd.R_ne HP.out HK.out (by decide))⟩
          have HO1 : Aside0 (Kd.S (Kd.slice 5 (Kd.int .u8)) 24 w1 w0.heap.size (fun k_ => True ∧ some k_ ≠ pv1.ownBlock) u5 out) := ⟨Kd.S_after HO.out hg1 hat1⟩
          have HP1 := Aside0.mk ho
          have HB1 := Aside0.mk hb1
          have HN1 : Aside0 (pend ++ [c] ≠ []) := ⟨by simp⟩
          obtain ⟨pl, hpl⟩ : ∃ pl, pl = pend ++ [c] := ⟨_, rfl⟩
          rw [← hpl] at HP1 HN1
          clear ho hb1 hg1 hat1 HK HO HP HB
          obtain ⟨A1, c1, hpe⟩ := Kd.R_slice HP1.out
          subst hpe
          have d0 : w1.cell? ⟨g, 0, none⟩ = some (.int .i64 47) := by rw [blk_cell HK1.out 0]; rfl
          have d1 : w1.cell? ⟨g, 1, none⟩ = some (.slice pa pend.length pc) := by rw [blk_cell HK1.out 1]; rfl
          have d2 : w1.cell? ⟨g, 2, none⟩ = some (.int .i64 sk) := by rw [blk_cell HK1.out 2]; rfl
          have f1 : w1.frozen? ⟨g, 1, none⟩ = false := blk_frozen HK1.out 1
          have f2 : w1.frozen? ⟨g, 2, none⟩ = false := blk_frozen HK1.out 2
          have HPL1 := Aside0.mk hpl
          clear hpl k1
          rw [← HPL1.out] at hd
          go_wp2
          go_roundg kq2
          case measure => have := HJ.out; omega
          case rel => exact ⟨(wrap64 (j + 1)), pl, out, (.slice A1 pl.length c1), sk, rfl, ⟨by rw [HW1.out]; have := HJ.out; omega⟩, ⟨hd⟩, ⟨blk_set HK1.out 1 _⟩, ⟨Kd.R_set HP1.out HK1.out (by decide) 1 _⟩, ⟨Kd.S_set HO1.out HK1.out (by decide) 1 _⟩, ⟨below_set HB1.out HG.out⟩⟩
        rw [if_pos hc0] at hd
        have z0 : (c == 0) = true := beq_iff_eq.mpr hc0
        have z1 : (c != 0) = false := bne_eq_false_iff_eq.mpr hc0
        have HC0 := Aside0.mk hc0
        clear hc0
        by_cases hpn : pend = []
        case pos =>
          rw [if_pos hpn] at hd
          have HPN := Aside0.mk hpn
          clear hpn
          go_wp2_with ((with_reducible refine gate_builtin (b := .append) (xs := #[.tmp 21, .tmp 23]) rfl ?_); at_builtin; refine Kd.R_append (Kd.int .u8) (w0 := w0) w0.heap.size rfl (.tmp 21) (.tmp 23) 24 5 (.int .u8 0) 1 rfl Tryd.underlying24 info5 rfl (by decide) (by omega) (.slice pa pend.length pc) pend c [.int .u8 c] (fun k_ => (w0.heap.size ≤ k_)) (fun _ => False) rfl rfl rfl (fun _ hk => hk.elim) (fun k_ hk => Nat.le_trans HSZ.out hk) HP.out HB.out HSZ.out ?aL ?_)
          case aL => have := HPL.out; omega
          intro pv1 w1 ho hb1 hg1 hat1
          have HK1 : Aside0 (w1.heap[g]? = some (.cells #[.int .i64 47, .slice pa pend.length pc, .int .i64 sk] 89 (0, 0))) := ⟨blk_grown HK.out hg1 (Kd.R_ne HP.out HK.out (by decide))⟩
          have HO1 : Aside0 (Kd.S (Kd.slice 5 (Kd.int .u8)) 24 w1 w0.heap.size (fun k_ => True ∧ some k_ ≠ pv1.ownBlock) u5 out) := ⟨Kd.S_after HO.out hg1 hat1⟩
          have HP1 := Aside0.mk ho
          have HB1 := Aside0.mk hb1
          have HN1 : Aside0 (pend ++ [c] ≠ []) := ⟨by simp⟩
          obtain ⟨pl, hpl⟩ : ∃ pl, pl = pend ++ [c] := ⟨_, rfl⟩
          rw [← hpl] at HP1 HN1
          clear ho hb1 hg1 hat1 HK HO HP HB
          obtain ⟨A1, c1, hpe⟩ := Kd.R_slice HP1.out
          subst hpe
          have d0 : w1.cell? ⟨g, 0, none⟩ = some (.int .i64 47) := by rw [blk_cell HK1.out 0]; rfl
          have d1 : w1.cell? ⟨g, 1, none⟩ = some (.slice pa pend.length pc) := by rw [blk_cell HK1.out 1]; rfl
          have d2 : w1.cell? ⟨g, 2, none⟩ = some (.int .i64 sk) := by rw [blk_cell HK1.out 2]; rfl
          have f1 : w1.frozen? ⟨g, 1, none⟩ = false := blk_frozen HK1.out 1
          have f2 : w1.frozen? ⟨g, 2, none⟩ = false := blk_frozen HK1.out 2
          have HPL1 := Aside0.mk hpl
          clear hpl k1
          have HK2 : Aside0 (((w1.setCell ⟨g, 1, none⟩ (.slice A1 pl.length c1)).setCell ⟨g, 1, none⟩ (.slice none 0 0)).heap[g]? = some (.cells #[.int .i64 47, .slice none 0 0, .int .i64 sk] 89 (0, 0))) := ⟨blk_set (blk_set HK1.out 1 _) 1 _⟩
          have HP2 : Aside0 (Kd.R (Kd.int .u8) 5 ((w1.setCell ⟨g, 1, none⟩ (.slice A1 pl.length c1)).setCell ⟨g, 1, none⟩ (.slice none 0 0)) w0.heap.size (fun k_ => w0.heap.size ≤ k_) (.slice A1 pl.length c1) pl) := ⟨Kd.R_set (Kd.R_set HP1.out HK1.out (by decide) 1 _) (blk_set HK1.out 1 _) (by decide) 1 _⟩
          have HO2 : Aside0 (Kd.S (Kd.slice 5 (Kd.int .u8)) 24 ((w1.setCell ⟨g, 1, none⟩ (.slice A1 pl.length c1)).setCell ⟨g, 1, none⟩ (.slice none 0 0)) w0.heap.size (fun k_ => True ∧ some k_ ≠ (Value.slice none 0 0).ownBlock) u5 out) := ⟨Kd.S_apart_nil (Kd.S_drop (Kd.S_set (Kd.S_set HO1.out HK1.out (by decide) 1 _) (blk_set HK1.out 1 _) (by decide) 1 _))⟩
          have HB2 : Aside0 (Below w0.heap.size w0 ((w1.setCell ⟨g, 1, none⟩ (.slice A1 pl.length c1)).setCell ⟨g, 1, none⟩ (.slice none 0 0))) := ⟨below_set (below_set HB1.out HG.out) HG.out⟩
          have hl1 : pl.length = 1 := by rw [HPL1.out, HPN.out]; rfl
          have hl2 : ((pl.length : Int) == 1) = true := by rw [hl1]; rfl
          have hl3 : (pl.length == 1) = true := by rw [hl1]; rfl
          clear hl1
          go_wp2
          go_roundg kq2
          case measure => have := HJ.out; omega
          case rel => exact ⟨(wrap64 (j + 1)), [], out, (.slice none 0 0), sk, rfl, ⟨by rw [HW1.out]; have := HJ.out; omega⟩, ⟨hd⟩, ⟨HK2.out⟩, ⟨Kd.R_nil _ _ _ _ _⟩, ⟨HO2.out⟩, ⟨HB2.out⟩⟩
        by_cases he0 : True
        case neg => exact absurd trivial he0
        rw [if_neg hpn] at hd
        go_wp2_with ((with_reducible refine gate_builtin (b := .append) (xs := #[.tmp 21, .tmp 23]) rfl ?_); at_builtin; refine Kd.R_append (Kd.int .u8) (w0 := w0) w0.heap.size rfl (.tmp 21) (.tmp 23) 24 5 (.int .u8 0) 1 rfl Tryd.underlying24 info5 rfl (by decide) (by omega) (.slice pa pend.length pc) pend c [.int .u8 c] (fun k_ => (w0.heap.size ≤ k_)) (fun _ => False) rfl rfl rfl (fun _ hk => hk.elim) (fun k_ hk => Nat.le_trans HSZ.out hk) HP.out HB.out HSZ.out ?aL ?_)
        case aL => have := HPL.out; omega
        intro pv1 w1 ho hb1 hg1 hat1
        have HK1 : Aside0 (w1.heap[g]? = some (.cells #[.int .i64 47, .slice pa pend.length pc, .int .i64 sk] 89 (0, 0))) := ⟨blk_grown HK.out hg1 (Kd.R_ne HP.out HK.out (by decide))⟩
        have HO1 : Aside0 (Kd.S (Kd.slice 5 (Kd.int .u8)) 24 w1 w0.heap.size (fun k_ => True ∧ some k_ ≠ pv1.ownBlock) u5 out) := ⟨Kd.S_after HO.out hg1 hat1⟩
        have HP1 := Aside0.mk ho
        have HB1 := Aside0.mk hb1
        have HN1 : Aside0 (pend ++ [c] ≠ []) := ⟨by simp⟩
        obtain ⟨pl, hpl⟩ : ∃ pl, pl = pend ++ [c] := ⟨_, rfl⟩
        rw [← hpl] at HP1 HN1
        clear ho hb1 hg1 hat1 HK HO HP HB
        obtain ⟨A1, c1, hpe⟩ := Kd.R_slice HP1.out
        subst hpe
        have d0 : w1.cell? ⟨g, 0, none⟩ = some (.int .i64 47) := by rw [blk_cell HK1.out 0]; rfl
        have d1 : w1.cell? ⟨g, 1, none⟩ = some (.slice pa pend.length pc) := by rw [blk_cell HK1.out 1]; rfl
        have d2 : w1.cell? ⟨g, 2, none⟩ = some (.int .i64 sk) := by rw [blk_cell HK1.out 2]; rfl
        have f1 : w1.frozen? ⟨g, 1, none⟩ = false := blk_frozen HK1.out 1
        have f2 : w1.frozen? ⟨g, 2, none⟩ = false := blk_frozen HK1.out 2
        have HPL1 := Aside0.mk hpl
        clear hpl k1
        rw [← HPL1.out] at hd
        obtain ⟨⟨p1, p2⟩, hdc, hd⟩ := Option.bind_eq_some_iff.mp hd
        dsimp only at hd
        have HDC := Aside0.mk hdc
        clear hdc
        have HK2 : Aside0 (((w1.setCell ⟨g, 1, none⟩ (.slice A1 pl.length c1)).setCell ⟨g, 1, none⟩ (.slice none 0 0)).heap[g]? = some (.cells #[.int .i64 47, .slice none 0 0, .int .i64 sk] 89 (0, 0))) := ⟨blk_set (blk_set HK1.out 1 _) 1 _⟩
        have HP2 : Aside0 (Kd.R (Kd.int .u8) 5 ((w1.setCell ⟨g, 1, none⟩ (.slice A1 pl.length c1)).setCell ⟨g, 1, none⟩ (.slice none 0 0)) w0.heap.size (fun k_ => w0.heap.size ≤ k_) (.slice A1 pl.length c1) pl) := ⟨Kd.R_set (Kd.R_set HP1.out HK1.out (by decide) 1 _) (blk_set HK1.out 1 _) (by decide) 1 _⟩
        have HO2 : Aside0 (Kd.S (Kd.slice 5 (Kd.int .u8)) 24 ((w1.setCell ⟨g, 1, none⟩ (.slice A1 pl.length c1)).setCell ⟨g, 1, none⟩ (.slice none 0 0)) w0.heap.size (fun k_ => True ∧ some k_ ≠ (Value.slice none 0 0).ownBlock) u5 out) := ⟨Kd.S_apart_nil (Kd.S_drop (Kd.S_set (Kd.S_set HO1.out HK1.out (by decide) 1 _) (blk_set HK1.out 1 _) (by decide) 1 _))⟩
        have HB2 : Aside0 (Below w0.heap.size w0 ((w1.setCell ⟨g, 1, none⟩ (.slice A1 pl.length c1)).setCell ⟨g, 1, none⟩ (.slice none 0 0))) := ⟨below_set (below_set HB1.out HG.out) HG.out⟩
        have hl0 : 2 ≤ pl.length := by
          rw [HPL1.out, List.length_append, List.length_singleton]
          cases pend with
          | nil => exact absurd rfl hpn
          | cons a b => simp
        have hl2 : ((pl.length : Int) == 1) = false := beq_eq_false_iff_ne.mpr (by omega)
        have hl3 : decide ((pl.length : Int) = 1) = false := decide_eq_false (by omega)
        have hl4 : (pl.length == 1) = false := beq_eq_false_iff_ne.mpr (by omega)
        clear hl0 hpn
        by_cases he : p2 = 0
        case neg =>
          rw [if_neg he] at hd
          have y0 : (p2 == 0) = false := beq_eq_false_iff_ne.mpr he
          have y1 : (p2 != 0) = true := bne_iff_ne.mpr he
          clear he
          go_wp2_with (go_at_call 70; (with_reducible refine (cobs_Decode.calls k (fun k_ => w0.heap.size ≤ k_) _ _ pl p1 p2 _ ?side1 HDC.out).mono ?_))
          case side1 => exact V_of_R HP2.out
          rintro e w3 ⟨v0, rfl, hR, hbel⟩
          have HK3 : Aside0 (w3.heap[g]? = some (.cells #[.int .i64 47, .slice none 0 0, .int .i64 sk] 89 (0, 0))) := ⟨blk_below HK2.out hbel⟩
          have HO3 : Aside0 (Kd.S (Kd.slice 5 (Kd.int .u8)) 24 w3 w0.heap.size (fun k_ => (True ∧ some k_ ≠ (Value.slice none 0 0).ownBlock) ∧ k_ < w1.heap.size) u5 out) := ⟨by have h_ := Kd.S_old HO2.out hbel; simpa using h_⟩
          have HB3 : Aside0 (Below w0.heap.size w0 w3) := ⟨below_step HB2.out hbel⟩
          have HS3 : Aside0 (w0.heap.size ≤ w3.heap.size) := ⟨below_size HB3.out⟩
          have HS31 : Aside0 (w1.heap.size ≤ w3.heap.size) := ⟨by have := hbel.size; simpa using this⟩
          have HS1 : Aside0 (w0.heap.size ≤ w1.heap.size) := ⟨below_size HB1.out⟩
          have HV0 : Aside0 (Kd.R (Kd.int .u8) 5 w3 w0.heap.size (fun k_ => w1.heap.size ≤ k_) v0 p1) := ⟨by have h_ := Kd.R_lower hR (below_size HB2.out); simpa using h_⟩
          clear hR hbel HK2 HP2 HO2 HB2 HP1 HO1 HK1 d0 d1 d2 f1 f2
          have d0 : w3.cell? ⟨g, 0, none⟩ = some (.int .i64 47) := (by rw [blk_cell HK3.out 0]; rfl)
          have d2 : w3.cell? ⟨g, 2, none⟩ = some (.int .i64 sk) := (by rw [blk_cell HK3.out 2]; rfl)
          have f2 : w3.frozen? ⟨g, 2, none⟩ = false := blk_frozen HK3.out 2
          obtain ⟨A3, c3, hpe⟩ := Kd.R_slice HV0.out
          subst hpe
          go_wp2
          go_roundg kq2
          case measure => have := HJ.out; omega
          case rel => exact ⟨(wrap64 (j + 1)), [], out, (.slice none 0 0), (wrap64 (sk + 1)), rfl, ⟨by rw [HW1.out]; have := HJ.out; omega⟩, ⟨hd⟩, ⟨blk_set HK3.out 2 _⟩, ⟨Kd.R_nil _ _ _ _ _⟩, ⟨Kd.S_set (Kd.S_drop HO3.out) HK3.out (by decide) 2 _⟩, ⟨below_set HB3.out HG.out⟩⟩
        by_cases hl : (p1.length : Int) ≤ 47
        case neg =>
          rw [if_pos he] at hd
          subst he
          rw [if_neg hl] at hd
          have y2 : decide ((47 : Int) < (p1.length : Int)) = true := decide_eq_true (by omega)
          have y3 : decide (47 < p1.length) = true := decide_eq_true (by omega)
          clear hl
          go_wp2_with (go_at_call 70; (with_reducible refine (cobs_Decode.calls k (fun k_ => w0.heap.size ≤ k_) _ _ pl p1 0 _ ?side1 HDC.out).mono ?_))
          case side1 => exact V_of_R HP2.out
          rintro e w3 ⟨v0, rfl, hR, hbel⟩
          have HK3 : Aside0 (w3.heap[g]? = some (.cells #[.int .i64 47, .slice none 0 0, .int .i64 sk] 89 (0, 0))) := ⟨blk_below HK2.out hbel⟩
          have HO3 : Aside0 (Kd.S (Kd.slice 5 (Kd.int .u8)) 24 w3 w0.heap.size (fun k_ => (True ∧ some k_ ≠ (Value.slice none 0 0).ownBlock) ∧ k_ < w1.heap.size) u5 out) := ⟨by have h_ := Kd.S_old HO2.out hbel; simpa using h_⟩
          have HB3 : Aside0 (Below w0.heap.size w0 w3) := ⟨below_step HB2.out hbel⟩
          have HS3 : Aside0 (w0.heap.size ≤ w3.heap.size) := ⟨below_size HB3.out⟩
          have HS31 : Aside0 (w1.heap.size ≤ w3.heap.size) := ⟨by have := hbel.size; simpa using this⟩
          have HS1 : Aside0 (w0.heap.size ≤ w1.heap.size) := ⟨below_size HB1.out⟩
          have HV0 : Aside0 (Kd.R (Kd.int .u8) 5 w3 w0.heap.size (fun k_ => w1.heap.size ≤ k_) v0 p1) := ⟨by have h_ := Kd.R_lower hR (below_size HB2.out); simpa using h_⟩
          clear hR hbel HK2 HP2 HO2 HB2 HP1 HO1 HK1 d0 d1 d2 f1 f2
          have d0 : w3.cell? ⟨g, 0, none⟩ = some (.int .i64 47) := (by rw [blk_cell HK3.out 0]; rfl)
          have d2 : w3.cell? ⟨g, 2, none⟩ = some (.int .i64 sk) := (by rw [blk_cell HK3.out 2]; rfl)
          have f2 : w3.frozen? ⟨g, 2, none⟩ = false := blk_frozen HK3.out 2
          obtain ⟨A3, c3, hpe⟩ := Kd.R_slice HV0.out
          subst hpe
          go_wp2
          go_roundg kq2
          case measure => have := HJ.out; omega
          case rel => exact ⟨(wrap64 (j + 1)), [], out, (.slice none 0 0), (wrap64 (sk + 1)), rfl, ⟨by rw [HW1.out]; have := HJ.out; omega⟩, ⟨hd⟩, ⟨blk_set HK3.out 2 _⟩, ⟨Kd.R_nil _ _ _ _ _⟩, ⟨Kd.S_set (Kd.S_drop HO3.out) HK3.out (by decide) 2 _⟩, ⟨below_set HB3.out HG.out⟩⟩
        rw [if_pos he] at hd
        subst he
        rw [if_pos hl] at hd
        have y2 : decide ((47 : Int) < (p1.length : Int)) = false := decide_eq_false (by omega)
        have y3 : decide (47 < p1.length) = false := decide_eq_false (by omega)
        clear hl
        by_cases hol : out.length < 1000000
        case neg => rw [if_neg hol] at hd; cases hd
        rw [if_pos hol] at hd
        have HOL := Aside0.mk hol
        clear hol
        go_wp2_with (go_at_call 70; (with_reducible refine (cobs_Decode.calls k (fun k_ => w0.heap.size ≤ k_) _ _ pl p1 0 _ ?side1 HDC.out).mono ?_))
        case side1 => exact V_of_R HP2.out
        rintro e w3 ⟨v0, rfl, hR, hbel⟩
        have HK3 : Aside0 (w3.heap[g]? = some (.cells #[.int .i64 47, .slice none 0 0, .int .i64 sk] 89 (0, 0))) := ⟨blk_below HK2.out hbel⟩
        have HO3 : Aside0 (Kd.S (Kd.slice 5 (Kd.int .u8)) 24 w3 w0.heap.size (fun k_ => (True ∧ some k_ ≠ (Value.slice none 0 0).ownBlock) ∧ k_ < w1.heap.size) u5 out) := ⟨by have h_ := Kd.S_old HO2.out hbel; simpa using h_⟩
        have HB3 : Aside0 (Below w0.heap.size w0 w3) := ⟨below_step HB2.out hbel⟩
        have HS3 : Aside0 (w0.heap.size ≤ w3.heap.size) := ⟨below_size HB3.out⟩
        have HS31 : Aside0 (w1.heap.size ≤ w3.heap.size) := ⟨by have := hbel.size; simpa using this⟩
        have HS1 : Aside0 (w0.heap.size ≤ w1.heap.size) := ⟨below_size HB1.out⟩
        have HV0 : Aside0 (Kd.R (Kd.int .u8) 5 w3 w0.heap.size (fun k_ => w1.heap.size ≤ k_) v0 p1) := ⟨by have h_ := Kd.R_lower hR (below_size HB2.out); simpa using h_⟩
        clear hR hbel HK2 HP2 HO2 HB2 HP1 HO1 HK1 d0 d1 d2 f1 f2
        have d0 : w3.cell? ⟨g, 0, none⟩ = some (.int .i64 47) := (by rw [blk_cell HK3.out 0]; rfl)
        have d2 : w3.cell? ⟨g, 2, none⟩ = some (.int .i64 sk) := (by rw [blk_cell HK3.out 2]; rfl)
        have f2 : w3.frozen? ⟨g, 2, none⟩ = false := blk_frozen HK3.out 2
        obtain ⟨A3, c3, hpe⟩ := Kd.R_slice HV0.out
        subst hpe
        obtain ⟨oa, oc, hoe⟩ := Kd.S_slice HO3.out
        subst hoe
        go_wp2_with ((with_reducible refine gate_builtin (b := .append) (xs := #[.tmp 62, .tmp 64]) rfl ?_); at_builtin; refine Kd.S_append (Kd.slice 5 (Kd.int .u8)) (w0 := w0) w0.heap.size rfl (.tmp 62) (.tmp 64) 50 24 (.slice none 0 0) 24 rfl Tryd.underlying50 info24 rfl (by decide) (by omega) (.slice oa out.length oc) out p1 [.slice A3 p1.length c3] (fun k_ => True ∧ some k_ ≠ (Value.slice none 0 0).ownBlock) (fun k_ => w1.heap.size ≤ k_ ∧ k_ ≠ w1.heap.size + 0 ∨ w1.heap.size ≤ k_) rfl rfl ?aP ?aK ?aF ?aO HB3.out HS3.out ?aL ?_)
        case aP => exact ⟨_, rfl, Kd.R_mono HV0.out (fun _ hk => .inr hk)⟩
        case aK => exact fun k_ hk => ⟨⟨trivial, by simp [Value.ownBlock]⟩, fun e_ => by have h1_ := (Kd.S_R HO3.out).1 k_ e_.symm; have h2_ := h1_.2; omega⟩
        case aF => exact fun k_ _ => ⟨trivial, by simp [Value.ownBlock]⟩
        case aO => exact Kd.S_mono HO3.out (fun k_ hk => ⟨hk.1, fun h2 => by have := hk.2; omega⟩)
        case aL => have := HOL.out; omega
        intro ov1 w4 ho hb1 hg1 hat1
        have HK4 : Aside0 (w4.heap[g]? = some (.cells #[.int .i64 47, .slice none 0 0, .int .i64 sk] 89 (0, 0))) := ⟨blk_grown HK3.out hg1 (Kd.S_ne HO3.out HK3.out (by decide))⟩
        have HO4 := Aside0.mk ho
        have HB4 := Aside0.mk hb1
        clear ho hb1 hg1 hat1
        go_wp2
        go_roundg kq2
        case measure => have := HJ.out; omega
        case rel => exact ⟨(wrap64 (j + 1)), [], (out ++ [p1]), (.slice none 0 0), sk, rfl, ⟨by rw [HW1.out]; have := HJ.out; omega⟩, ⟨hd⟩, ⟨HK4.out⟩, ⟨Kd.R_nil _ _ _ _ _⟩, ⟨Kd.S_mono HO4.out (fun _ hk => ⟨trivial, hk⟩)⟩, ⟨HB4.out⟩⟩
    · have c2b0 : decide (j < (l0.length : Int)) = false := decide_eq_false c2
      have hd := HD.out
      rw [List.drop_of_length_le (by have := HJ.out; omega)] at hd
      unfold splD at hd
      obtain rfl := Option.some.inj hd
      clear hd HD c2
      go_wp2
      go_ret
      exact ⟨_, rfl, Kd.S_mono HO.out (fun _ _ => trivial), HB.out⟩
theorem new_calls (w : World) : Calls Tryd.prog 59 #[.int .i64 47] w fun e w1 => e = .returned (.tuple #[.pointer (some ⟨w.heap.size, 0, none⟩), .int .i64 0]) ∧ w1 = w.alloc (.cells #[.int .i64 47, .slice none 0 0, .int .i64 0] 89) := by
  go_enter Tryd.func59, Tryd.ntmps59
  go_wp2
  go_ret2
  exact ⟨rfl, rfl⟩
set_option maxHeartbeats 4000000 in
set_option maxRecDepth 100000 in
theorem frame_Split.calls (k : Nat) (A0 : Option Addr) (c0 : Nat) (l0 : List Int) (r : List (List Int)) (w : World) (hr0 : Kd.C (Kd.int .u8) w A0 l0.length l0) (hc0 : l0.length ≤ c0) (h : frame_Split.f k l0 = some r) :
    Calls Tryd.prog 38 #[.slice A0 l0.length c0] w fun e w' => ∃ v0_ : Value, e = .returned (v0_) ∧ Kd.S (Kd.slice 5 (Kd.int .u8)) 24 w' w.heap.size (fun _ => True) v0_ r ∧ Below w.heap.size w w' := by
  have HR0 := Aside0.mk hr0
  have H' : Aside0 (splD k l0 [] [] = some r) := ⟨h⟩
  clear hr0 hc0 h
  go_enter Tryd.func38, Tryd.ntmps38
  go_wp2_with (first | (go_at_call 59; (with_reducible refine (new_calls _).mono ?_); rintro e w1 ⟨rfl, rfl⟩) | (go_at_call 60; (with_reducible refine (write_calls k _ _ l0 r w _ w.heap.size ?b ?g ?q HR0.out H'.out).mono ?_)))
  case b => exact below_alloc (Below.refl _ _) _
  case g => exact Nat.le_refl _
  case q => exact blk_new w _
  rintro e w3 ⟨v0, rfl, hS, hb⟩
  have HO := Aside0.mk hS
  have HB := Aside0.mk hb
  clear hS hb
  go_wp2
  go_ret
  exact ⟨_, rfl, HO.out, HB.out⟩
end Go.Proofs.YtfhnpphceeoeeaaDoor.PX
/- Both Splits in plain words; the comparison of two lists of packets. -/
namespace Go.Proofs.YtfhnpphceeoeeaaDoor.PX
open Go.RowKit Go.Proofs.YtfhnpphceeoeeaaDoorW.PrintWords Go.Proofs.YtfhnpphceeoeeaaDoorW.PrintLast Go.Proofs.YtfhnpphceeoeeaaDoorW.PrintMore
set_option linter.unusedVariables false
set_option linter.unusedSimpArgs false
theorem split_go : ∀ (l pend : List Int) (out : List (List Int)), Bytes l → Bytes pend → pend.length + l.length ≤ 5000 → out.length + l.length ≤ 5000 → Ev (fun k => splD k l pend out) (splS pend out l)
  | [], pend, out, _, _, _, _ => Ev.congr (fun k => by rw [splD]) (Ev.cast (Ev.now _) (by rw [splS]))
  | c :: r, pend, out, hl, hp, h1, h2 => by
    have hr : Bytes r := fun x hx => hl x (by simp [hx])
    have hc : Bytes (pend ++ [c]) := fun x hx => by
      rcases List.mem_append.1 hx with hx | hx
      · exact hp x hx
      · exact hl x (by simp at hx; simp [hx])
    have hn : Bytes [] := fun x hx => by cases hx
    rw [List.length_cons] at h1 h2
    refine Ev.congr (fun k => by rw [splD]) (Ev.pos (by omega) ?_)
    by_cases c0 : c = 0
    · refine Ev.pos c0 ?_
      by_cases p0 : pend = []
      · refine Ev.pos p0 (Ev.cast (split_go r [] out hr hn (by rw [List.length_nil]; omega) (by omega)) ?_)
        rw [splS, if_neg (by simpa using c0), p0, if_pos (show (([] : List Int) ++ [c]).length = 1 from rfl)]
      · have hlen : ¬ (pend ++ [c]).length = 1 := by
          rw [List.length_append, List.length_singleton]
          have := List.length_pos_iff.mpr p0
          omega
        refine Ev.neg p0 (Ev.bind (decode_evC (pend ++ [c]) hc (by rw [List.length_append, List.length_singleton]; omega)) ?_)
        rw [splS, if_neg (by simpa using c0), if_neg hlen]
        by_cases e0 : (decodeR (pend ++ [c])).2 = 0
        · refine Ev.pos e0 ?_
          by_cases hl47 : (decodeR (pend ++ [c])).1.length ≤ 47
          · rw [if_pos ⟨e0, hl47⟩]
            refine Ev.pos (by omega) (Ev.pos (by omega) (split_go r [] _ hr hn (by rw [List.length_nil]; omega) (by rw [List.length_append, List.length_singleton]; omega)))
          · rw [if_neg (fun h => hl47 h.2)]
            exact Ev.neg (by omega) (split_go r [] out hr hn (by rw [List.length_nil]; omega) (by omega))
        · rw [if_neg (fun h => e0 h.1)]
          exact Ev.neg e0 (split_go r [] out hr hn (by rw [List.length_nil]; omega) (by omega))
    · refine Ev.neg c0 (Ev.cast (split_go r (pend ++ [c]) out hr hc (by rw [List.length_append, List.length_singleton]; omega) (by omega)) ?_)
      rw [splS, if_pos c0]
theorem split_ev (l : List Int) (hl : Bytes l) (hn : l.length ≤ 5000) : Ev (fun k => frame_Split.f k l) (splS [] [] l) :=
  split_go l [] [] hl (fun x hx => by cases hx) (by simpa using hn) (by simpa using hn)
theorem bytes_cut {l : List Int} (h : Bytes l) (a b : Nat) : Bytes ((l.take a).drop b) := fun x hx => h x (List.mem_of_mem_take (List.mem_of_mem_drop hx))
theorem rsplit_go (x0 : List Int) (hx0 : Bytes x0) (hn : x0.length ≤ 5000) : ∀ (d st j : Nat) (out : List (List Int)) (sk : Int), j + d = x0.length → st ≤ j → out.length ≤ j → ∃ s, Ev (fun k => trickleref03_Split.l0 k x0 47 out sk (st : Int) (j : Int)) (splS ((x0.take j).drop st) out (x0.drop j), s)
  | 0, st, j, out, sk, hj, hs, ho => by
    refine ⟨sk, Ev.step (fun k => by rw [trickleref03_Split.l0]) (Ev.neg (by omega) (Ev.cast (Ev.now _) ?_))⟩
    rw [List.drop_of_length_le (show x0.length ≤ j by omega), splS]
  | d + 1, st, j, out, sk, hj, hs, ho => by
    have hjl : j < x0.length := by omega
    have w : wrap64 ((j : Int) + 1) = ((j + 1 : Nat) : Int) := wrap_nat hjl (by omega)
    have hsn : (x0.take (j + 1)).drop st = (x0.take j).drop st ++ [x0[j]] := by
      rw [List.take_succ_eq_append_getElem hjl, List.drop_append_of_le_length (by rw [List.length_take]; omega)]
    have hnil : (x0.take (j + 1)).drop (j + 1) = [] := List.drop_of_length_le (by rw [List.length_take]; omega)
    have hlen : ((x0.take j).drop st ++ [x0[j]]).length = j - st + 1 := by
      rw [List.length_append, List.length_drop, List.length_take, List.length_singleton]; omega
    rw [drop_cons x0 j hjl]
    by_cases c0 : x0[j] = 0
    · by_cases p0 : st = j
      · obtain ⟨s, h⟩ := rsplit_go x0 hx0 hn d (j + 1) (j + 1) out sk (by omega) (Nat.le_refl _) (by omega)
        refine ⟨s, Ev.step (fun k => by rw [trickleref03_Split.l0]) ?_⟩
        rw [rd_nat x0 j hjl, w]
        clear w
        refine Ev.pos (by omega) (Ev.pos (by omega) (Ev.pos c0 (Ev.neg (by omega) (Ev.cast h ?_))))
        rw [splS, if_neg (by simpa using c0), if_pos (by rw [hlen]; omega), hnil]
      · have hdec := rdecode_evC _ (bytes_cut hx0 (j + 1) st) (by rw [hsn, hlen]; omega)
        have hstep : ∀ (out1 : List (List Int)) (sk1 : Int), out1.length ≤ j + 1 → ∃ s, Ev (fun k => trickleref03_Split.l0 k x0 47 out1 sk1 ((j + 1 : Nat) : Int) ((j + 1 : Nat) : Int)) (splS [] out1 (x0.drop (j + 1)), s) := fun out1 sk1 h1 => by
          obtain ⟨s, h⟩ := rsplit_go x0 hx0 hn d (j + 1) (j + 1) out1 sk1 (by omega) (Nat.le_refl _) h1
          rw [hnil] at h
          exact ⟨s, h⟩
        have key : ∀ (R : List (List Int) × Int) , Ev (fun k => if (decodeR ((x0.take (j + 1)).drop st)).2 = 0 then (if ((decodeR ((x0.take (j + 1)).drop st)).1.length : Int) ≤ 47 then (if out.length < 5864062014805 then (trickleref03_Split.l0 k x0 47 (out ++ [(decodeR ((x0.take (j + 1)).drop st)).1]) sk ((j + 1 : Nat) : Int) ((j + 1 : Nat) : Int)) else none) else (trickleref03_Split.l0 k x0 47 out (wrap64 (sk + 1)) ((j + 1 : Nat) : Int) ((j + 1 : Nat) : Int))) else (trickleref03_Split.l0 k x0 47 out (wrap64 (sk + 1)) ((j + 1 : Nat) : Int) ((j + 1 : Nat) : Int))) R →
            Ev (fun k => trickleref03_Split.l0 k x0 47 out sk (st : Int) (j : Int)) R := by
          intro R hR
          refine Ev.step (fun k => by rw [trickleref03_Split.l0]) ?_
          rw [rd_nat x0 j hjl, w]
          clear w
          refine Ev.pos (by omega) (Ev.pos (by omega) (Ev.pos c0 (Ev.pos (by omega) (Ev.pos (by omega) (Ev.pos (by omega) (Ev.pos (by omega) ?_))))))
          simp only [Int.toNat_natCast]
          exact Ev.bind hdec hR
        rw [splS, if_neg (by simpa using c0), if_neg (by rw [hlen]; omega), ← hsn]
        by_cases e0 : (decodeR ((x0.take (j + 1)).drop st)).2 = 0
        · by_cases h47 : (decodeR ((x0.take (j + 1)).drop st)).1.length ≤ 47
          · obtain ⟨s, h⟩ := hstep (out ++ [(decodeR ((x0.take (j + 1)).drop st)).1]) sk (by rw [List.length_append, List.length_singleton]; omega)
            refine ⟨s, key _ (Ev.pos e0 (Ev.pos (by omega) (Ev.pos (by omega) (Ev.cast h ?_))))⟩
            rw [if_pos ⟨e0, h47⟩]
          · obtain ⟨s, h⟩ := hstep out (wrap64 (sk + 1)) (by omega)
            refine ⟨s, key _ (Ev.pos e0 (Ev.neg (by omega) (Ev.cast h ?_)))⟩
            rw [if_neg (fun h => h47 h.2)]
        · obtain ⟨s, h⟩ := hstep out (wrap64 (sk + 1)) (by omega)
          refine ⟨s, key _ (Ev.neg e0 (Ev.cast h ?_))⟩
          rw [if_neg (fun h => e0 h.1)]
    · obtain ⟨s, h⟩ := rsplit_go x0 hx0 hn d st (j + 1) out sk (by omega) (by omega) (by omega)
      refine ⟨s, Ev.step (fun k => by rw [trickleref03_Split.l0]) ?_⟩
      rw [rd_nat x0 j hjl, w]
      clear w
      refine Ev.pos (by omega) (Ev.pos (by omega) (Ev.neg c0 (Ev.cast h ?_)))
      rw [splS, if_pos c0, hsn]
theorem rsplit_ev (l : List Int) (hl : Bytes l) (hn : l.length ≤ 5000) : Ev (fun k => trickleref43_Split.f k l) (splS [] [] l) := by
  obtain ⟨s, h⟩ := rsplit_go l hl hn l.length 0 0 [] 0 (by omega) (Nat.le_refl _) (Nat.le_refl _)
  refine Ev.congr (fun k => by rw [trickleref43_Split.f]) (Ev.bind (Ev.congr (fun k => by rw [trickleref03_Split.f]; rfl) h) (Ev.cast (Ev.now _) ?_))
  rfl
theorem same_go (a b : List (List Int)) (h : a = b) (hn : a.length ≤ 1000000) : ∀ (d j : Nat), j + d = a.length → Ev (fun k => trickleref03_SamePackets.l0 k a b (j : Int)) true
  | 0, j, hj => Ev.step (fun k => by rw [trickleref03_SamePackets.l0]) (Ev.neg (by omega) (Ev.now _))
  | d + 1, j, hj => by
    have hjl : j < a.length := by omega
    subst h
    have w : wrap64 ((j : Int) + 1) = ((j + 1 : Nat) : Int) := wrap_nat hjl (by omega)
    refine Ev.step (fun k => by rw [trickleref03_SamePackets.l0]) ?_
    rw [rdL_nat a j hjl, w]
    clear w
    refine Ev.pos (by omega) (Ev.pos (by omega) (Ev.pos (by omega) ?_))
    refine Ev.const (a := true) ?_ (Ev.pos rfl (same_go a a rfl hn d (j + 1) (by omega)))
    unfold trickleref03_Same.f
    simp
theorem same_ev (a : List (List Int)) (hn : a.length ≤ 1000000) : Ev (fun k => trickleref03_SamePackets.f k a a) true :=
by
  have h := same_go a a rfl hn a.length 0 (by omega)
  exact Ev.congr (f := fun k => if (a.length : Int) = (a.length : Int) then trickleref03_SamePackets.l0 k a a 0 else some false) (fun k => by rw [trickleref03_SamePackets.f]) (Ev.pos rfl h)
theorem splS_len : ∀ (l pend : List Int) (out : List (List Int)), (splS pend out l).length ≤ out.length + l.length
  | [], pend, out => by rw [splS]; simp
  | c :: r, pend, out => by
    rw [splS, List.length_cons]
    split
    · have := splS_len r (pend ++ [c]) out; omega
    · split
      · have := splS_len r [] out; omega
      · split
        · have := splS_len r [] (out ++ [(decodeR (pend ++ [c])).1]); rw [List.length_append, List.length_singleton] at this; omega
        · have := splS_len r [] out; omega
end Go.Proofs.YtfhnpphceeoeeaaDoor.PX
