/- Parts of the proof, merged in build order: PXx8, Dg2, PureDiagOffset, Handed. -/
import Derived.Test.YtahgghbhpmpgfaaDoorV1
import Derived.Lib.SplitLaws
import Derived.Lib.IndexLaws
import Derived.Handed
import Derived.SevenTiedAt
import Derived.ProofKit
import Derived.ChangeOld
-- Written by a program of this session (wip/xprint.py, over the kit's print tool). Lean checks it.
namespace Go.Proofs.YtahgghbhpmpgfaaDoor.PX
open Go.RowKit Go.Proofs.YtahgghbhpmpgfaaDoorW.PrintWords Go.Proofs.YtahgghbhpmpgfaaDoorW.PrintLast Go.Proofs.YtahgghbhpmpgfaaDoorW.PrintMore
attribute [local go_sem] max2_int min2_int max_two min_two max_three min_three max_four min_four   -- for this text's walks alone
set_option linter.unusedVariables false
set_option linter.unusedSimpArgs false

/-! ### diag_Offset: function 21 -/
mutual
def diag_Offset.j0 : Nat → Int → Int → List ByteArray → Bool → Option (Int × Bool)
  | 0, _, _, _, _ => none
  | k + 1, x1, x2, x8, x36 => if x36 = true then (some (0, false)) else (if 0 ≤ (wrap64 (x1 - 1)) then (if (wrap64 (x1 - 1)) ≤ (x8.length : Int) then ((some (x8.take ((wrap64 (x1 - 1)) : Int).toNat : List ByteArray)).bind fun y176 => (diag_Offset.l0 k (wrap64 (x2 - 1)) y176 (y176.length : Int) 0)) else (none)) else (none))
def diag_Offset.l0 : Nat → Int → List ByteArray → Int → Int → Option (Int × Bool)
  | 0, _, _, _, _ => none
  | k + 1, x9, x42, x43, x44 => if x44 < x43 then (if 0 ≤ x44 then (if x44 < (x42.length : Int) then (diag_Offset.l0 k (wrap64 (x9 + (wrap64 (((rdOf ByteArray.empty x42 x44).size : Int) + 1)))) x42 x43 (wrap64 (x44 + 1))) else (none)) else (none)) else (some (x9, true))
end
def diag_Offset.f (k : Nat) (a0 : ByteArray) (a1 : Int) (a2 : Int) : Option (Int × Bool) := (strings_Split.f a0 (⟨#[10]⟩ : ByteArray)).bind fun t172 => (if a1 < 1 then (diag_Offset.j0 k a1 a2 t172 true) else (if a1 > (t172.length : Int) then (diag_Offset.j0 k a1 a2 t172 true) else (if a2 < 1 then (diag_Offset.j0 k a1 a2 t172 true) else (if 0 ≤ (wrap64 (a1 - 1)) then (if (wrap64 (a1 - 1)) < (t172.length : Int) then (diag_Offset.j0 k a1 a2 t172 (decide (a2 > (wrap64 (((rdOf ByteArray.empty t172 (wrap64 (a1 - 1))).size : Int) + 1))))) else (none)) else (none)))))
set_option maxHeartbeats 8000000 in
set_option maxRecDepth 100000 in
theorem diag_Offset.calls (k : Nat) (a0 : ByteArray) (a1 : Int) (a2 : Int) (r1 : Int) (r2 : Bool) (w : World) (hG : GW w) (h : diag_Offset.f k a0 a1 a2 = some (r1, r2)) :
    Calls Tryd.prog 21 #[.string a0, .int .i64 a1, .int .i64 a2] w fun e w' => e = .returned (.tuple #[.int .i64 r1, .bool r2]) ∧ Below w.heap.size w w' := by
  have HG := Aside0.mk hG
  clear hG
  have HB := Aside0.mk (Below.refl w.heap.size w)
  have H : ((strings_Split.f a0 (⟨#[10]⟩ : ByteArray)).bind fun t172 => (if a1 < 1 then (diag_Offset.j0 k a1 a2 t172 true) else (if a1 > (t172.length : Int) then (diag_Offset.j0 k a1 a2 t172 true) else (if a2 < 1 then (diag_Offset.j0 k a1 a2 t172 true) else (if 0 ≤ (wrap64 (a1 - 1)) then (if (wrap64 (a1 - 1)) < (t172.length : Int) then (diag_Offset.j0 k a1 a2 t172 (decide (a2 > (wrap64 (((rdOf ByteArray.empty t172 (wrap64 (a1 - 1))).size : Int) + 1))))) else (none)) else (none)))))) = some (r1, r2) := h
  clear h
  replace H := Option.bind_eq_some_iff.mp H
  obtain ⟨t172, A40, H⟩ := H
  replace H : (if a1 < 1 then (diag_Offset.j0 k a1 a2 t172 true) else (if a1 > (t172.length : Int) then (diag_Offset.j0 k a1 a2 t172 true) else (if a2 < 1 then (diag_Offset.j0 k a1 a2 t172 true) else (if 0 ≤ (wrap64 (a1 - 1)) then (if (wrap64 (a1 - 1)) < (t172.length : Int) then (diag_Offset.j0 k a1 a2 t172 (decide (a2 > (wrap64 (((rdOf ByteArray.empty t172 (wrap64 (a1 - 1))).size : Int) + 1))))) else (none)) else (none))))) = some (r1, r2) := H
  have A4 := Aside0.mk A40
  clear A40
  have HC5 := Aside0.mk H
  clear H
  go_enter Tryd.func21, Tryd.ntmps21
  go_upto_region 2 with (first | ((with_reducible refine gate_callee (f := 37) rfl ?_); refine goesL_ (some 13) rfl rfl Tryd.func37 (by kernel_rfl) rfl #[.string a0, .string (⟨#[10]⟩ : ByteArray)] rfl (by (try simp only [List.map_toArray, List.map_cons, List.map_nil]); first | done | rfl | (simp only [List.length_drop, List.length_take]; rfl)) ?_; (with_reducible refine (strings_Split.calls a0 (⟨#[10]⟩ : ByteArray) t172 _ ?side1 A4.out).mono ?_); (case side1 => refine GW.below HG.out ?_; repeat (first | (with_reducible first | exact HB.out | apply below_alloc | apply pw_below_drewN | apply below_drew1) | exact HB.out)); rintro e w6 ⟨v173, rfl, ho0, hb⟩; refine ⟨_, rfl, ?_⟩; have n0_ := Aside0.mk (Kd.R_lower ho0 (below_size (by repeat (first | (with_reducible first | exact HB.out | apply below_alloc | apply pw_below_drewN | apply below_drew1) | exact HB.out)))); have n1_ := Aside0.mk (below_step (by repeat (first | (with_reducible first | exact HB.out | apply below_alloc | apply pw_below_drewN | apply below_drew1) | exact HB.out)) hb); clear HB; have HO174 := n0_; have HB := n1_; clear n0_ n1_; (try clear hb); (try clear hb2); (try clear hk); (try clear hi); (try clear ho0)))
  (try simp only [Act.put, List.setIfInBounds_toArray, List.set_cons_zero, List.set_cons_succ])
  go_cut [36] (fun v36 wc => ∃ (kq : Nat) (x36_4 : Bool), v36 = .bool x36_4 ∧ Aside0 (diag_Offset.j0 kq a1 a2 t172 x36_4 = some (r1, r2)) ∧ Aside0 (kq ≤ k) ∧ Aside0 (Kd.R Kd.string 9 wc w.heap.size (fun _ => True) v173 t172) ∧ Aside0 (Below w.heap.size w wc))
  case first =>
    have H := HC5.out
    clear HC5
    by_cases c7 : a1 < 1
    · rw [if_pos c7] at H
      have c7b0 : decide (a1 < 1) = true := decide_eq_true c7
      clear c7
      (first | rw [c7b0] | (simp only [i64_w, i32_w]; rw [c7b0]) | skip)
      have H' := Aside0.mk H
      clear H
      go_wp2
      go_meet
      case rel => exact ⟨_, (true), (by first | rfl | (simp; done) | (simp [*]; done)), H', ⟨by first | omega | exact Nat.le_refl _⟩, ⟨by (with_reducible repeat (first | apply Kd.R_alloc | apply Kd.R_drewN | apply Kd.R_drew)); exact HO174.out⟩, ⟨by repeat (first | (with_reducible first | exact HB.out | apply below_alloc | apply pw_below_drewN | apply below_drew1) | exact HB.out)⟩⟩
    · rw [if_neg c7] at H
      have c7b0 : decide (a1 < 1) = false := decide_eq_false c7
      clear c7
      (first | rw [c7b0] | (simp only [i64_w, i32_w]; rw [c7b0]) | skip)
      by_cases c8 : a1 > (t172.length : Int)
      · rw [if_pos c8] at H
        have c8b0 : decide ((t172.length : Int) < a1) = true := decide_eq_true c8
        clear c8
        have H' := Aside0.mk H
        clear H
        obtain ⟨Ao9, co9, eo9⟩ := Kd.R_slice HO174.out
        subst eo9
        go_wp2
        go_meet
        case rel => exact ⟨_, (true), (by first | rfl | (simp; done) | (simp [*]; done)), H', ⟨by first | omega | exact Nat.le_refl _⟩, ⟨by (with_reducible repeat (first | apply Kd.R_alloc | apply Kd.R_drewN | apply Kd.R_drew)); exact HO174.out⟩, ⟨by repeat (first | (with_reducible first | exact HB.out | apply below_alloc | apply pw_below_drewN | apply below_drew1) | exact HB.out)⟩⟩
      · rw [if_neg c8] at H
        have c8b0 : decide ((t172.length : Int) < a1) = false := decide_eq_false c8
        clear c8
        by_cases c10 : a2 < 1
        · rw [if_pos c10] at H
          have c10b0 : decide (a2 < 1) = true := decide_eq_true c10
          clear c10
          have H' := Aside0.mk H
          clear H
          obtain ⟨Ao11, co11, eo11⟩ := Kd.R_slice HO174.out
          subst eo11
          go_wp2
          go_meet
          case rel => exact ⟨_, (true), (by first | rfl | (simp; done) | (simp [*]; done)), H', ⟨by first | omega | exact Nat.le_refl _⟩, ⟨by (with_reducible repeat (first | apply Kd.R_alloc | apply Kd.R_drewN | apply Kd.R_drew)); exact HO174.out⟩, ⟨by repeat (first | (with_reducible first | exact HB.out | apply below_alloc | apply pw_below_drewN | apply below_drew1) | exact HB.out)⟩⟩
        · rw [if_neg c10] at H
          have c10b0 : decide (a2 < 1) = false := decide_eq_false c10
          clear c10
          obtain ⟨ji12, hji12⟩ : ∃ j_ : Int, (wrap64 (a1 - 1)) = j_ := ⟨_, rfl⟩
          replace H : (if 0 ≤ (ji12) then (if (ji12) < (t172.length : Int) then (diag_Offset.j0 k a1 a2 t172 (decide (a2 > (wrap64 (((rdOf ByteArray.empty t172 (ji12)).size : Int) + 1))))) else (none)) else (none)) = some (r1, r2) := by first | (rw [hji12] at H; exact H) | (simp only [hji12] at H ⊢; exact H)
          have hji12w : (IntKind.i64.wrap (a1 - 1)) = ji12 := (i64_w _).trans hji12
          by_cases c13 : 0 ≤ (ji12)
          · rw [if_pos c13] at H
            have c13b0 : decide (0 ≤ (ji12)) = true := decide_eq_true c13
            clear c13
            by_cases c14 : (ji12) < (t172.length : Int)
            · rw [if_pos c14] at H
              have c14b0 : decide ((ji12) < (t172.length : Int)) = true := decide_eq_true c14
              clear c14
              have H' := Aside0.mk H
              clear H
              obtain ⟨Ao15, co15, eo15⟩ := Kd.R_slice HO174.out
              subst eo15
              have p175 : 0 ≤ ((ji12) : Int) := of_decide_eq_true (by first | (with_reducible assumption) | assumption)
              have q175 : (ji12) < (t172.length : Int) := of_decide_eq_true (by first | (with_reducible assumption) | assumption)
              obtain ⟨ad175, e175, hx175_0⟩ := Kd.at_string (Kd.R_reads' HO174.out).2.2 (ji12) p175 q175
              cases e175
              replace p175 := eq_true p175
              replace q175 := eq_true q175
              go_wp2
              go_meet
              case rel => exact ⟨_, (decide (a2 > (wrap64 (((rdOf ByteArray.empty t172 (ji12)).size : Int) + 1)))), (by first | rfl | (simp; done) | (simp only [← hji12] <;> (first | rfl | simp)) | (simp [*]; done)), H', ⟨by first | omega | exact Nat.le_refl _⟩, ⟨by (with_reducible repeat (first | apply Kd.R_alloc | apply Kd.R_drewN | apply Kd.R_drew)); exact HO174.out⟩, ⟨by repeat (first | (with_reducible first | exact HB.out | apply below_alloc | apply pw_below_drewN | apply below_drew1) | exact HB.out)⟩⟩
            · rw [if_neg c14] at H
              exact absurd H (by simp)
          · rw [if_neg c13] at H
            exact absurd H (by simp)
  case rest =>
    clear HC5
    try clear c1
    try clear p1
    try clear q1
    try clear hx1
    try clear c2
    try clear p2
    try clear c3
    try clear p6
    try clear c7
    try clear c7b0
    try clear c8
    try clear c8b0
    try clear c10
    try clear c10b0
    try clear c13
    try clear c13b0
    try clear c14
    try clear c14b0
    try clear hx175_0
    try clear p175
    try clear q175
    obtain ⟨kq, x36_4, rfl, HA, HJ4, HO_8, HB⟩ := hcut
    cases kq with
    | zero => exact absurd HA.out (by simp [diag_Offset.j0])
    | succ kj4 =>
      have H := HA.out
      clear HA
      simp only [diag_Offset.j0] at H
      by_cases c16 : x36_4 = true
      · subst c16
        have H1 : (some (0, false)) = some (r1, r2) := by rw [if_pos rfl] at H; exact H
        clear H
        have H := H1
        clear H1
        simp only [Option.some.injEq, Prod.mk.injEq] at H
        obtain ⟨rfl, rfl⟩ := H
        go_wp2
        go_ret2
        exact ⟨by first | rfl | (simp [errW_none, errW_some] <;> rfl) | (simp [*, errW_none, errW_some] <;> rfl), by repeat (first | (with_reducible first | exact HB.out | apply below_alloc | apply pw_below_drewN | apply below_drew1) | exact HB.out)⟩
      · replace c16 := Bool.eq_false_iff.mpr c16
        subst c16
        have H1 : (if 0 ≤ (wrap64 (a1 - 1)) then (if (wrap64 (a1 - 1)) ≤ (t172.length : Int) then ((some (t172.take ((wrap64 (a1 - 1)) : Int).toNat : List ByteArray)).bind fun y176 => (diag_Offset.l0 kj4 (wrap64 (a2 - 1)) y176 (y176.length : Int) 0)) else (none)) else (none)) = some (r1, r2) := by rw [if_neg (show ¬ (false = true) by decide)] at H; exact H
        clear H
        have H := H1
        clear H1
        obtain ⟨ji17, hji17⟩ : ∃ j_ : Int, (wrap64 (a1 - 1)) = j_ := ⟨_, rfl⟩
        replace H : (if 0 ≤ (ji17) then (if (ji17) ≤ (t172.length : Int) then ((some (t172.take ((ji17) : Int).toNat : List ByteArray)).bind fun y176 => (diag_Offset.l0 kj4 (wrap64 (a2 - 1)) y176 (y176.length : Int) 0)) else (none)) else (none)) = some (r1, r2) := by first | (rw [hji17] at H; exact H) | (simp only [hji17] at H ⊢; exact H)
        have hji17w : (IntKind.i64.wrap (a1 - 1)) = ji17 := (i64_w _).trans hji17
        by_cases c18 : 0 ≤ (ji17)
        · rw [if_pos c18] at H
          have c18b0 := eq_true c18
          have c18b1 : decide (0 ≤ (ji17)) = true := decide_eq_true c18
          clear c18
          by_cases c19 : (ji17) ≤ (t172.length : Int)
          · rw [if_pos c19] at H
            have c19b0 := eq_true c19
            have c19b1 : decide ((ji17) ≤ (t172.length : Int)) = true := decide_eq_true c19
            clear c19
            obtain ⟨y176, hy176⟩ : ∃ y_ : List ByteArray, y_ = (t172.take ((ji17) : Int).toNat) := ⟨_, rfl⟩
            replace H : (diag_Offset.l0 kj4 (wrap64 (a2 - 1)) y176 (y176.length : Int) 0) = some (r1, r2) := by first | (rw [hy176]; with_reducible exact H) | (have H2_ := (Option.bind_some _ _).symm.trans H; rw [hy176]; with_reducible exact H2_) | (have H2_ := (Option.bind_some _ _).symm.trans H; with_reducible exact H2_) | with_reducible exact H | (rw [hy176]; exact H) | exact H
            have Ny176 := Aside0.mk hy176
            clear hy176
            have H' := Aside0.mk H
            clear H
            obtain ⟨Ao21, co21, eo21⟩ := Kd.R_slice HO_8.out
            subst eo21
            have q20 : ((ji17) : Int) ≤ ((t172.length : Int) : Int) := of_decide_eq_true (by first | (with_reducible assumption) | assumption)
            obtain ⟨i020, hi020, _, hsz20, _⟩ := info_parts info9
            have hroom20 : t172.length ≤ co21 := (Kd.R_reads' HO_8.out).2.1
            have hC20 : Kd.C Kd.string _ Ao21 t172.length t172 := (Kd.R_reads' HO_8.out).2.2
            have hcut20 := cut_to (P := Tryd.prog) 59 9 .i64 Tryd.underlying59 hi020 Ao21 t172.length co21 (ji17) (of_decide_eq_true (by first | (with_reducible assumption) | assumption)) q20 hroom20
            have hr20 := Kd.C_take (m := ((ji17) : Int).toNat) hC20 (by omega)
            have hy20 : y176.length = ((ji17) : Int).toNat := (by rw [Ny176.out, List.length_take]; omega)
            rw [← Ny176.out] at hr20
            rw [← hy20] at hcut20
            have HR179 := Aside0.mk hr20
            have HC179 := Aside0.mk (show y176.length ≤ co21 from by omega)
            clear hr20 hC20 hroom20 hi020 hsz20
            have KY20 := Aside0.mk hy20
            clear hy20
            have KL20 := Aside0.mk (show ((ji17) : Int).toNat ≤ t172.length from by omega)
            replace q20 := eq_true q20
            go_wp2
            go_loopg [9, 44] kj4 (fun kq v9 v44 w' => ∃ (x9_2 : Int) (x44_2 : Int), v9 = .int .i64 x9_2 ∧ v44 = .int .i64 x44_2 ∧ Aside0 (diag_Offset.l0 kq x9_2 y176 (y176.length : Int) x44_2 = some (r1, r2)) ∧ Aside0 (kq ≤ kj4) ∧ Aside0 (Kd.C Kd.string w' Ao21 y176.length y176) ∧ Aside0 (Below w.heap.size w w'))
            case atStart => exact ⟨(wrap64 (a2 - 1)), (0), (by first | rfl | (simp; done) | (simp [*]; done)), (by first | rfl | (simp; done) | (simp [*]; done)), H', ⟨Nat.le_refl _⟩, ⟨by repeat (first | (with_reducible exact HR179.out) | (with_reducible refine Kd.C_alloc ?_ _) | (with_reducible refine Kd.C_drewN ?_ _) | (with_reducible refine Kd.C_drew ?_) | exact HR179.out)⟩, ⟨by repeat (first | (with_reducible first | exact HB.out | apply below_alloc | apply pw_below_drewN | apply below_drew1) | exact HB.out)⟩⟩
            case round =>
              clear H'
              try clear c1
              try clear p1
              try clear q1
              try clear hx1
              try clear c2
              try clear p2
              try clear q2
              try clear c3
              try clear p6
              try clear c7
              try clear c7b0
              try clear c8
              try clear c8b0
              try clear c10
              try clear c10b0
              try clear c13
              try clear c13b0
              try clear c14
              try clear c14b0
              try clear c16
              try clear p17
              try clear q17
              try clear hx17
              try clear c18
              try clear c18b0
              try clear c18b1
              try clear c19
              try clear c19b0
              try clear c19b1
              try clear q20
              try clear c21
              try clear hx175_0
              try clear p1
              try clear p175
              try clear p2
              try clear p6
              try clear q1
              try clear q175
              try clear q20
              obtain ⟨x9_2, x44_2, rfl, rfl, HA, HK2, HR179, HB⟩ := hrel
              cases gk with
              | zero => exact absurd HA.out (by simp [diag_Offset.l0])
              | succ k2 =>
                have H := HA.out
                clear HA
                simp only [diag_Offset.l0] at H
                by_cases c22 : x44_2 < (y176.length : Int)
                · rw [if_pos c22] at H
                  have c22b0 : decide (x44_2 < (y176.length : Int)) = true := decide_eq_true c22
                  clear c22
                  by_cases c23 : 0 ≤ x44_2
                  · rw [if_pos c23] at H
                    have c23b0 : decide (0 ≤ x44_2) = true := decide_eq_true c23
                    clear c23
                    by_cases c24 : x44_2 < (y176.length : Int)
                    · rw [if_pos c24] at H
                      have c24b0 : decide (x44_2 < (y176.length : Int)) = true := decide_eq_true c24
                      clear c24
                      have H' := Aside0.mk H
                      clear H
                      have p180 : 0 ≤ (x44_2 : Int) := of_decide_eq_true (by first | (with_reducible assumption) | assumption)
                      have q180 : x44_2 < (y176.length : Int) := of_decide_eq_true (by first | (with_reducible assumption) | assumption)
                      obtain ⟨ad180, e180, hx180_0⟩ := Kd.at_string HR179.out x44_2 p180 q180
                      cases e180
                      try replace hx180_0 := (HB.out.cell (World.block_lt_of_cell? w _ hx180_0)).trans hx180_0
                      replace p180 := eq_true p180
                      replace q180 := eq_true q180
                      go_wp2
                      go_roundg k2
                      case measure => have := HJ4.out; have := HK2.out; omega
                      case rel => exact ⟨(wrap64 (x9_2 + (wrap64 (((rdOf ByteArray.empty y176 x44_2).size : Int) + 1)))), (wrap64 (x44_2 + 1)), (by first | rfl | (simp; done) | (simp [*]; done)), (by first | rfl | (simp; done) | (simp [*]; done)), H', ⟨by have := HJ4.out; have := HK2.out; omega⟩, ⟨by repeat (first | (with_reducible exact HR179.out) | (with_reducible refine Kd.C_alloc ?_ _) | (with_reducible refine Kd.C_drewN ?_ _) | (with_reducible refine Kd.C_drew ?_) | exact HR179.out)⟩, ⟨by repeat (first | (with_reducible first | exact HB.out | apply below_alloc | apply pw_below_drewN | apply below_drew1) | exact HB.out)⟩⟩
                    · rw [if_neg c24] at H
                      exact absurd H (by simp)
                  · rw [if_neg c23] at H
                    exact absurd H (by simp)
                · rw [if_neg c22] at H
                  have c22b0 : decide (x44_2 < (y176.length : Int)) = false := decide_eq_false c22
                  clear c22
                  simp only [Option.some.injEq, Prod.mk.injEq] at H
                  obtain ⟨rfl, rfl⟩ := H
                  go_wp2
                  go_ret2
                  exact ⟨by first | rfl | (simp [errW_none, errW_some] <;> rfl) | (simp only [← hji17]; first | rfl | (simp [errW_none, errW_some] <;> rfl)) | (simp [*, errW_none, errW_some] <;> rfl), by repeat (first | (with_reducible first | exact HB.out | apply below_alloc | apply pw_below_drewN | apply below_drew1) | exact HB.out)⟩
          · rw [if_neg c19] at H
            exact absurd H (by simp)
        · rw [if_neg c18] at H
          exact absurd H (by simp)

/-! ### trickleref14_Offset: function 22 -/
def trickleref14_Offset.l0 : Nat → ByteArray → Int → Int → Int → Option (Int × Bool)
  | 0, _, _, _, _ => none
  | k + 1, x0, x1, x2, x8 => if x8 ≤ (x0.size : Int) then ((trickleref14_Position.f k x0 x8).bind fun bt181 => (if bt181.1 = x1 then (if bt181.2 = x2 then (some (x8, true)) else (trickleref14_Offset.l0 k x0 x1 x2 (wrap64 (x8 + 1)))) else (trickleref14_Offset.l0 k x0 x1 x2 (wrap64 (x8 + 1))))) else (some (0, false))
def trickleref14_Offset.f (k : Nat) (a0 : ByteArray) (a1 : Int) (a2 : Int) : Option (Int × Bool) := trickleref14_Offset.l0 k a0 a1 a2 0
set_option maxHeartbeats 8000000 in
set_option maxRecDepth 100000 in
theorem trickleref14_Offset.calls (k : Nat) (a0 : ByteArray) (a1 : Int) (a2 : Int) (r1 : Int) (r2 : Bool) (w : World) (h : trickleref14_Offset.f k a0 a1 a2 = some (r1, r2)) :
    Calls Tryd.prog 22 #[.string a0, .int .i64 a1, .int .i64 a2] w fun e w' => e = .returned (.tuple #[.int .i64 r1, .bool r2]) ∧ Drawn0 w w' := by
  have H : (trickleref14_Offset.l0 k a0 a1 a2 0) = some (r1, r2) := h
  clear h
  have H' := Aside0.mk H
  clear H
  go_enter Tryd.func22, Tryd.ntmps22
  go_wp2
  go_loopg [8] k (fun kq v8 w' => ∃ (x8_1 : Int), v8 = .int .i64 x8_1 ∧ Aside0 (trickleref14_Offset.l0 kq a0 a1 a2 x8_1 = some (r1, r2)) ∧ Aside0 (kq ≤ k) ∧ Drawn0 w w')
  case atStart => exact ⟨(0), (by first | rfl | (simp; done) | (simp [*]; done)), H', ⟨Nat.le_refl _⟩, by repeat (first | exact Drawn0.refl _ | apply Drawn0.step)⟩
  case round =>
    clear H'
    try clear c2
    try clear p2
    obtain ⟨x8_1, rfl, HA, HK1, ⟨m1, rfl⟩⟩ := hrel
    cases gk with
    | zero => exact absurd HA.out (by simp [trickleref14_Offset.l0])
    | succ k1 =>
      have H := HA.out
      clear HA
      simp only [trickleref14_Offset.l0] at H
      by_cases c4 : x8_1 ≤ (a0.size : Int)
      · rw [if_pos c4] at H
        have c4b0 : decide (x8_1 ≤ (a0.size : Int)) = true := decide_eq_true c4
        clear c4
        replace H := Option.bind_eq_some_iff.mp H
        obtain ⟨⟨t181, t182⟩, A50, H⟩ := H
        replace H : (if t181 = a1 then (if t182 = a2 then (some (x8_1, true)) else (trickleref14_Offset.l0 k1 a0 a1 a2 (wrap64 (x8_1 + 1)))) else (trickleref14_Offset.l0 k1 a0 a1 a2 (wrap64 (x8_1 + 1)))) = some (r1, r2) := H
        have A5 := Aside0.mk A50
        clear A50
        by_cases c6 : t181 = a1
        · rw [if_pos c6] at H
          have c6b0 : (t181 == a1) = true := beq_iff_eq.mpr c6
          have c6b1 : (t181 != a1) = false := bne_eq_false_iff_eq.mpr c6
          clear c6
          by_cases c7 : t182 = a2
          · rw [if_pos c7] at H
            have c7b0 : (t182 == a2) = true := beq_iff_eq.mpr c7
            have c7b1 : (t182 != a2) = false := bne_eq_false_iff_eq.mpr c7
            clear c7
            simp only [Option.some.injEq, Prod.mk.injEq] at H
            obtain ⟨rfl, rfl⟩ := H
            go_wp2_with (first | ((with_reducible refine gate_callee (f := 13) rfl ?_); refine goesL_ (some 20) rfl rfl Tryd.func13 (by kernel_rfl) rfl #[.string a0, .int .i64 x8_1] rfl (by (try simp only [List.map_toArray, List.map_cons, List.map_nil]); first | done | rfl | (simp only [List.length_drop, List.length_take]; rfl)) ?_; (with_reducible refine (trickleref14_Position.calls k1 a0 x8_1 t181 t182 _ A5.out).mono ?_); rintro e w' ⟨rfl, ⟨nd, rfl⟩⟩; refine ⟨_, rfl, ?_⟩))
            go_ret2
            exact ⟨by first | rfl | (simp; done) | (simp [*]; done), by repeat (first | exact Drawn0.refl _ | apply Drawn0.step)⟩
          · rw [if_neg c7] at H
            have c7b0 : (t182 == a2) = false := beq_eq_false_iff_ne.mpr c7
            have c7b1 : (t182 != a2) = true := bne_iff_ne.mpr c7
            have H' := Aside0.mk H
            clear H
            go_wp2_with (first | ((with_reducible refine gate_callee (f := 13) rfl ?_); refine goesL_ (some 20) rfl rfl Tryd.func13 (by kernel_rfl) rfl #[.string a0, .int .i64 x8_1] rfl (by (try simp only [List.map_toArray, List.map_cons, List.map_nil]); first | done | rfl | (simp only [List.length_drop, List.length_take]; rfl)) ?_; (with_reducible refine (trickleref14_Position.calls k1 a0 x8_1 t181 t182 _ A5.out).mono ?_); rintro e w' ⟨rfl, ⟨nd, rfl⟩⟩; refine ⟨_, rfl, ?_⟩))
            go_roundg k1
            case measure => have := HK1.out; omega
            case rel => exact ⟨(wrap64 (x8_1 + 1)), (by first | rfl | (simp; done) | (simp [*]; done)), H', ⟨by have := HK1.out; omega⟩, by repeat (first | exact Drawn0.refl _ | apply Drawn0.step)⟩
        · rw [if_neg c6] at H
          have c6b0 : (t181 == a1) = false := beq_eq_false_iff_ne.mpr c6
          have c6b1 : (t181 != a1) = true := bne_iff_ne.mpr c6
          have H' := Aside0.mk H
          clear H
          go_wp2_with (first | ((with_reducible refine gate_callee (f := 13) rfl ?_); refine goesL_ (some 20) rfl rfl Tryd.func13 (by kernel_rfl) rfl #[.string a0, .int .i64 x8_1] rfl (by (try simp only [List.map_toArray, List.map_cons, List.map_nil]); first | done | rfl | (simp only [List.length_drop, List.length_take]; rfl)) ?_; (with_reducible refine (trickleref14_Position.calls k1 a0 x8_1 t181 t182 _ A5.out).mono ?_); rintro e w' ⟨rfl, ⟨nd, rfl⟩⟩; refine ⟨_, rfl, ?_⟩))
          go_roundg k1
          case measure => have := HK1.out; omega
          case rel => exact ⟨(wrap64 (x8_1 + 1)), (by first | rfl | (simp; done) | (simp [*]; done)), H', ⟨by have := HK1.out; omega⟩, by repeat (first | exact Drawn0.refl _ | apply Drawn0.step)⟩
      · rw [if_neg c4] at H
        have c4b0 : decide (x8_1 ≤ (a0.size : Int)) = false := decide_eq_false c4
        clear c4
        simp only [Option.some.injEq, Prod.mk.injEq] at H
        obtain ⟨rfl, rfl⟩ := H
        go_wp2
        go_ret2
        exact ⟨by first | rfl | (simp; done) | (simp [*]; done), by repeat (first | exact Drawn0.refl _ | apply Drawn0.step)⟩

/-! ### tricklelaw14_DiagOffset: function 6 -/
def tricklelaw14_DiagOffset.f (k : Nat) (a0 : ByteArray) (a1 : Int) (a2 : Int) : Option (Bool) := if (a0.size : Int) > 300 then ((tricklelaw14_examples.f k).bind fun t183 => (some t183)) else ((diag_Offset.f k a0 a1 a2).bind fun bt184 => ((trickleref14_Offset.f k a0 a1 a2).bind fun bt186 => (if bt184.1 = bt186.1 then (if (bt184.2 == bt186.2) = true then ((tricklelaw14_examples.f k).bind fun t188 => (some t188)) else (some false)) else (some false))))
set_option maxHeartbeats 8000000 in
set_option maxRecDepth 100000 in
theorem tricklelaw14_DiagOffset.calls (k : Nat) (a0 : ByteArray) (a1 : Int) (a2 : Int) (r : Bool) (w : World) (hG : GW w) (h : tricklelaw14_DiagOffset.f k a0 a1 a2 = some r) :
    Calls Tryd.prog 6 #[.string a0, .int .i64 a1, .int .i64 a2] w fun e w' => e = .returned (.bool r) ∧ Below w.heap.size w w' := by
  have HG := Aside0.mk hG
  clear hG
  have HB := Aside0.mk (Below.refl w.heap.size w)
  have H : (if (a0.size : Int) > 300 then ((tricklelaw14_examples.f k).bind fun t183 => (some t183)) else ((diag_Offset.f k a0 a1 a2).bind fun bt184 => ((trickleref14_Offset.f k a0 a1 a2).bind fun bt186 => (if bt184.1 = bt186.1 then (if (bt184.2 == bt186.2) = true then ((tricklelaw14_examples.f k).bind fun t188 => (some t188)) else (some false)) else (some false))))) = some r := h
  clear h
  by_cases c4 : (a0.size : Int) > 300
  · rw [if_pos c4] at H
    have c4b0 : decide (300 < (a0.size : Int)) = true := decide_eq_true c4
    have c4b1 : decide (300 < a0.size) = true := decide_eq_true (by omega)
    clear c4
    replace H := Option.bind_eq_some_iff.mp H
    obtain ⟨t183, A50, H⟩ := H
    replace H : (some t183) = some r := H
    have A5 := Aside0.mk A50
    clear A50
    obtain rfl := Option.some.inj H
    go_enter Tryd.func6, Tryd.ntmps6
    go_wp2_with (first | ((with_reducible refine gate_callee (f := 11) rfl ?_); refine goesL_ (some 14) rfl rfl Tryd.func11 (by kernel_rfl) rfl #[] rfl (by (try simp only [List.map_toArray, List.map_cons, List.map_nil]); first | done | rfl | (simp only [List.length_drop, List.length_take]; rfl)) ?_; (with_reducible refine (tricklelaw14_examples.calls k  t183 _ ?side1 A5.out).mono ?_); (case side1 => refine GW.below HG.out ?_; repeat (first | (with_reducible first | exact HB.out | apply below_alloc | apply pw_below_drewN | apply below_drew1) | exact HB.out)); rintro e w6 ⟨rfl, hb⟩; refine ⟨_, rfl, ?_⟩; have n0_ := Aside0.mk (below_step (by repeat (first | (with_reducible first | exact HB.out | apply below_alloc | apply pw_below_drewN | apply below_drew1) | exact HB.out)) hb); clear HB; have HB := n0_; clear n0_; (try clear hb); (try clear hb2); (try clear hk); (try clear hi)))
    go_ret
    exact ⟨by first | rfl | (simp [errW_none, errW_some] <;> rfl) | (simp [*, errW_none, errW_some] <;> rfl), by repeat (first | (with_reducible first | exact HB.out | apply below_alloc | apply pw_below_drewN | apply below_drew1) | exact HB.out)⟩
  · rw [if_neg c4] at H
    have c4b0 : decide (300 < (a0.size : Int)) = false := decide_eq_false c4
    have c4b1 : decide (300 < a0.size) = false := decide_eq_false (by omega)
    clear c4
    replace H := Option.bind_eq_some_iff.mp H
    obtain ⟨⟨t184, t185⟩, A70, H⟩ := H
    replace H : ((trickleref14_Offset.f k a0 a1 a2).bind fun bt186 => (if t184 = bt186.1 then (if (t185 == bt186.2) = true then ((tricklelaw14_examples.f k).bind fun t188 => (some t188)) else (some false)) else (some false))) = some r := H
    have A7 := Aside0.mk A70
    clear A70
    replace H := Option.bind_eq_some_iff.mp H
    obtain ⟨⟨t186, t187⟩, A80, H⟩ := H
    replace H : (if t184 = t186 then (if (t185 == t187) = true then ((tricklelaw14_examples.f k).bind fun t188 => (some t188)) else (some false)) else (some false)) = some r := H
    have A8 := Aside0.mk A80
    clear A80
    by_cases c9 : t184 = t186
    · rw [if_pos c9] at H
      have c9b0 : (t184 == t186) = true := beq_iff_eq.mpr c9
      have c9b1 : (t184 != t186) = false := bne_eq_false_iff_eq.mpr c9
      clear c9
      by_cases c10 : (t185 == t187) = true
      · rw [if_pos c10] at H
        have c10b0 : (t185 == t187) = true := c10
        (try (have c10b1 : decide (t185 = t187) = true := by simpa using c10))
        (try (have c10b2 : (t185 == t187) = true := by simpa using c10))
        clear c10
        replace H := Option.bind_eq_some_iff.mp H
        obtain ⟨t188, A110, H⟩ := H
        replace H : (some t188) = some r := H
        have A11 := Aside0.mk A110
        clear A110
        obtain rfl := Option.some.inj H
        go_enter Tryd.func6, Tryd.ntmps6
        go_wp2_with (first | ((with_reducible refine gate_callee (f := 21) rfl ?_); refine goesL_ (some 19) rfl rfl Tryd.func21 (by kernel_rfl) rfl #[.string a0, .int .i64 a1, .int .i64 a2] rfl (by (try simp only [List.map_toArray, List.map_cons, List.map_nil]); first | done | rfl | (simp only [List.length_drop, List.length_take]; rfl)) ?_; (with_reducible refine (diag_Offset.calls k a0 a1 a2 t184 t185 _ ?side1 A7.out).mono ?_); (case side1 => refine GW.below HG.out ?_; repeat (first | (with_reducible first | exact HB.out | apply below_alloc | apply pw_below_drewN | apply below_drew1) | exact HB.out)); rintro e w12 ⟨rfl, hb⟩; refine ⟨_, rfl, ?_⟩; have n0_ := Aside0.mk (below_step (by repeat (first | (with_reducible first | exact HB.out | apply below_alloc | apply pw_below_drewN | apply below_drew1) | exact HB.out)) hb); clear HB; have HB := n0_; clear n0_; (try clear hb); (try clear hb2); (try clear hk); (try clear hi)) | ((with_reducible refine gate_callee (f := 22) rfl ?_); refine goesL_ (some 26) rfl rfl Tryd.func22 (by kernel_rfl) rfl #[.string a0, .int .i64 a1, .int .i64 a2] rfl (by (try simp only [List.map_toArray, List.map_cons, List.map_nil]); first | done | rfl | (simp only [List.length_drop, List.length_take]; rfl)) ?_; (with_reducible refine (trickleref14_Offset.calls k a0 a1 a2 t186 t187 _ A8.out).mono ?_); rintro e w' ⟨rfl, ⟨nd, rfl⟩⟩; refine ⟨_, rfl, ?_⟩) | (go_at_call 11; (with_reducible refine (tricklelaw14_examples.calls k  t188 _ ?side1 A11.out).mono ?_); (case side1 => refine GW.below HG.out ?_; repeat (first | (with_reducible first | exact HB.out | apply below_alloc | apply pw_below_drewN | apply below_drew1) | exact HB.out)); rintro e w13 ⟨rfl, hb⟩; have n0_ := Aside0.mk (below_step (by repeat (first | (with_reducible first | exact HB.out | apply below_alloc | apply pw_below_drewN | apply below_drew1) | exact HB.out)) hb); clear HB; have HB := n0_; clear n0_; (try clear hb); (try clear hb2); (try clear hk); (try clear hi)))
        go_ret
        exact ⟨by first | rfl | (simp [errW_none, errW_some] <;> rfl) | (simp [*, errW_none, errW_some] <;> rfl), by repeat (first | (with_reducible first | exact HB.out | apply below_alloc | apply pw_below_drewN | apply below_drew1) | exact HB.out)⟩
      · rw [if_neg c10] at H
        have c10b0 : (t185 == t187) = false := by simpa using c10
        (try (have c10b1 : decide (t185 = t187) = false := by simpa using c10))
        (try (have c10b2 : (t185 == t187) = false := by simpa using c10))
        (try (have c10b3 : ¬ (t185 = t187) := by simpa using c10))
        clear c10
        obtain rfl := Option.some.inj H
        go_enter Tryd.func6, Tryd.ntmps6
        go_wp2_with (first | ((with_reducible refine gate_callee (f := 21) rfl ?_); refine goesL_ (some 19) rfl rfl Tryd.func21 (by kernel_rfl) rfl #[.string a0, .int .i64 a1, .int .i64 a2] rfl (by (try simp only [List.map_toArray, List.map_cons, List.map_nil]); first | done | rfl | (simp only [List.length_drop, List.length_take]; rfl)) ?_; (with_reducible refine (diag_Offset.calls k a0 a1 a2 t184 t185 _ ?side1 A7.out).mono ?_); (case side1 => refine GW.below HG.out ?_; repeat (first | (with_reducible first | exact HB.out | apply below_alloc | apply pw_below_drewN | apply below_drew1) | exact HB.out)); rintro e w14 ⟨rfl, hb⟩; refine ⟨_, rfl, ?_⟩; have n0_ := Aside0.mk (below_step (by repeat (first | (with_reducible first | exact HB.out | apply below_alloc | apply pw_below_drewN | apply below_drew1) | exact HB.out)) hb); clear HB; have HB := n0_; clear n0_; (try clear hb); (try clear hb2); (try clear hk); (try clear hi)) | ((with_reducible refine gate_callee (f := 22) rfl ?_); refine goesL_ (some 26) rfl rfl Tryd.func22 (by kernel_rfl) rfl #[.string a0, .int .i64 a1, .int .i64 a2] rfl (by (try simp only [List.map_toArray, List.map_cons, List.map_nil]); first | done | rfl | (simp only [List.length_drop, List.length_take]; rfl)) ?_; (with_reducible refine (trickleref14_Offset.calls k a0 a1 a2 t186 t187 _ A8.out).mono ?_); rintro e w' ⟨rfl, ⟨nd, rfl⟩⟩; refine ⟨_, rfl, ?_⟩))
        go_ret
        exact ⟨by first | rfl | (simp [errW_none, errW_some] <;> rfl) | (simp [*, errW_none, errW_some] <;> rfl), by repeat (first | (with_reducible first | exact HB.out | apply below_alloc | apply pw_below_drewN | apply below_drew1) | exact HB.out)⟩
    · rw [if_neg c9] at H
      have c9b0 : (t184 == t186) = false := beq_eq_false_iff_ne.mpr c9
      have c9b1 : (t184 != t186) = true := bne_iff_ne.mpr c9
      obtain rfl := Option.some.inj H
      go_enter Tryd.func6, Tryd.ntmps6
      go_wp2_with (first | ((with_reducible refine gate_callee (f := 21) rfl ?_); refine goesL_ (some 19) rfl rfl Tryd.func21 (by kernel_rfl) rfl #[.string a0, .int .i64 a1, .int .i64 a2] rfl (by (try simp only [List.map_toArray, List.map_cons, List.map_nil]); first | done | rfl | (simp only [List.length_drop, List.length_take]; rfl)) ?_; (with_reducible refine (diag_Offset.calls k a0 a1 a2 t184 t185 _ ?side1 A7.out).mono ?_); (case side1 => refine GW.below HG.out ?_; repeat (first | (with_reducible first | exact HB.out | apply below_alloc | apply pw_below_drewN | apply below_drew1) | exact HB.out)); rintro e w15 ⟨rfl, hb⟩; refine ⟨_, rfl, ?_⟩; have n0_ := Aside0.mk (below_step (by repeat (first | (with_reducible first | exact HB.out | apply below_alloc | apply pw_below_drewN | apply below_drew1) | exact HB.out)) hb); clear HB; have HB := n0_; clear n0_; (try clear hb); (try clear hb2); (try clear hk); (try clear hi)) | ((with_reducible refine gate_callee (f := 22) rfl ?_); refine goesL_ (some 26) rfl rfl Tryd.func22 (by kernel_rfl) rfl #[.string a0, .int .i64 a1, .int .i64 a2] rfl (by (try simp only [List.map_toArray, List.map_cons, List.map_nil]); first | done | rfl | (simp only [List.length_drop, List.length_take]; rfl)) ?_; (with_reducible refine (trickleref14_Offset.calls k a0 a1 a2 t186 t187 _ A8.out).mono ?_); rintro e w' ⟨rfl, ⟨nd, rfl⟩⟩; refine ⟨_, rfl, ?_⟩))
      go_ret
      exact ⟨by first | rfl | (simp [errW_none, errW_some] <;> rfl) | (simp [*, errW_none, errW_some] <;> rfl), by repeat (first | (with_reducible first | exact HB.out | apply below_alloc | apply pw_below_drewN | apply below_drew1) | exact HB.out)⟩

end Go.Proofs.YtahgghbhpmpgfaaDoor.PX
/- Lines of a text: strings.Split at a line feed, and what the offsets of a line and column are. -/
namespace Go.Proofs.YtahgghbhpmpgfaaDoor.PX
open Go.RowKit Go.Proofs.YtahgghbhpmpgfaaDoorW.PrintWords Go.Proofs.YtahgghbhpmpgfaaDoorW.PrintLast Go.Proofs.YtahgghbhpmpgfaaDoorW.PrintMore
set_option linter.unusedVariables false
set_option linter.unusedSimpArgs false
/-- The lines of a text. -/
def spl : List UInt8 → List (List UInt8)
  | [] => [[]]
  | c :: r => if c = 10 then [] :: spl r else match spl r with
    | [] => [[c]]
    | h :: t => (c :: h) :: t
theorem spl_cons (b : List UInt8) : ∃ h t, spl b = h :: t := by
  cases b with
  | nil => exact ⟨_, _, rfl⟩
  | cons c r =>
    unfold spl
    split
    · exact ⟨_, _, rfl⟩
    · split <;> exact ⟨_, _, rfl⟩
theorem index_ne (c : UInt8) (r : List UInt8) (h : c ≠ 10) : Lib.index (c :: r) [10] = if Lib.index r [10] == -1 then -1 else Lib.index r [10] + 1 := by
  have hn : Lib.NoOcc (c :: r) [10] 1 := by
    refine (Lib.NoOcc.zero _ _).succ ?_
    simp [Lib.occAt, List.isPrefixOf]
    exact fun e => h e.symm
  have := Lib.index_drop hn (by simp)
  simpa using this
theorem splitK_spl : ∀ b : List UInt8, Lib.splitK [10] 0 (Lib.count b [10]) b = spl b
  | [] => rfl
  | c :: r => by
    have ih := splitK_spl r
    by_cases hc : c = 10
    · subst hc
      rw [Lib.count_cons_eq, Nat.add_comm, Lib.splitK, spl, if_pos rfl]
      have h0 : Lib.index (10 :: r) [10] = 0 := Lib.index_first (i := 0) (Nat.zero_le _) (by simp [Lib.occAt, List.isPrefixOf]) (fun _ h => absurd h (Nat.not_lt_zero _))
      rw [h0, if_neg (by decide)]
      show List.take 0 _ :: Lib.splitK [10] 0 (Lib.count r [10]) (List.drop 1 (10 :: r)) = _
      rw [List.take_zero, List.drop_succ_cons, List.drop_zero, ih]
    · rw [Lib.count_cons_ne c 10 r hc, spl, if_neg hc, ← ih]
      cases hk : Lib.count r [10] with
      | zero => rfl
      | succ m =>
        have hne : Lib.index r [10] ≠ -1 := fun e => by
          have := Lib.count_miss e
          omega
        have hge : 0 ≤ Lib.index r [10] := by
          have := Lib.index_ge r [10]
          omega
        have hnb : ¬ ((Lib.index r [10] == -1) = true) := by rw [beq_iff_eq]; exact hne
        have hnb2 : ¬ ((Lib.index r [10] + 1 == -1) = true) := by rw [beq_iff_eq]; omega
        have e1 : (Lib.index r [10] + 1).toNat = (Lib.index r [10]).toNat + 1 := by omega
        rw [Lib.splitK, Lib.splitK, index_ne c r hc]
        simp only [if_neg hnb, if_neg hnb2, e1]
        rfl
def startO (L : List (List UInt8)) (t : Nat) : Nat := ((L.take t).map (fun p => p.length + 1)).sum
theorem startO_zero (L : List (List UInt8)) : startO L 0 = 0 := by simp [startO]
theorem startO_succ (p : List UInt8) (L : List (List UInt8)) (t : Nat) : startO (p :: L) (t + 1) = p.length + 1 + startO L t := by simp [startO]
theorem pos_at : ∀ (b : List UInt8) (a c t q : Nat) (h : t < (spl b).length), q ≤ ((spl b)[t]).length →
    startO (spl b) t + q ≤ b.length ∧ (b.take (startO (spl b) t + q)).foldl stepP (a, c) = if t = 0 then (a, c + q) else (a + t, q + 1)
  | [], a, c, t, q, h, hq => by
    have ht : t = 0 := by simp [spl] at h; omega
    subst ht
    have hq0 : q = 0 := by simpa [spl] using hq
    subst hq0
    simp [startO_zero]
  | x :: r, a, c, t, q, h, hq => by
    by_cases hx : x = 10
    · subst hx
      have hs : spl (10 :: r) = [] :: spl r := by rw [spl, if_pos rfl]
      simp only [hs] at h hq ⊢
      cases t with
      | zero =>
        have hq0 : q = 0 := by simpa using hq
        subst hq0
        simp [startO_zero]
      | succ t =>
        simp only [List.getElem_cons_succ] at hq
        have ih := pos_at r (a + 1) 1 t q (by simpa using h) hq
        rw [startO_succ]
        have e : ([] : List UInt8).length + 1 + startO (spl r) t + q = (startO (spl r) t + q) + 1 := by simp; omega
        rw [e, List.take_succ_cons, List.foldl_cons]
        have ih1 := ih.1
        refine ⟨by rw [List.length_cons]; omega, ?_⟩
        rw [show stepP (a, c) 10 = (a + 1, 1) from rfl, ih.2]
        by_cases h0 : t = 0
        · subst h0
          rw [if_pos rfl, if_neg (show ¬ (0 + 1 = 0) by omega), Nat.add_comm 1 q]
        · rw [if_neg h0, if_neg (show ¬ (t + 1 = 0) by omega), Nat.add_assoc, Nat.add_comm 1 t]
    · obtain ⟨hd, tl, hr⟩ := spl_cons r
      have hs : spl (x :: r) = (x :: hd) :: tl := by rw [spl, if_neg hx, hr]
      have hst : stepP (a, c) x = (a, c + 1) := if_neg hx
      simp only [hs] at h hq ⊢
      cases t with
      | zero =>
        simp only [List.getElem_cons_zero, List.length_cons] at hq
        rw [startO_zero, Nat.zero_add]
        cases q with
        | zero => simp
        | succ q =>
          have ih := pos_at r a (c + 1) 0 q (by rw [hr]; simp) (by simp only [hr, List.getElem_cons_zero]; omega)
          rw [startO_zero, Nat.zero_add] at ih
          have ih1 := ih.1
          rw [List.take_succ_cons, List.foldl_cons, hst, ih.2]
          refine ⟨by rw [List.length_cons]; omega, ?_⟩
          rw [if_pos rfl, if_pos rfl]
          congr 1
          omega
      | succ t =>
        simp only [List.getElem_cons_succ] at hq
        have ht : t + 1 < (spl r).length := by rw [hr]; simpa using h
        have ih := pos_at r a (c + 1) (t + 1) q ht (by simp only [hr, List.getElem_cons_succ]; exact hq)
        rw [hr, startO_succ] at ih
        rw [startO_succ, List.length_cons]
        have e : hd.length + 1 + 1 + startO tl t + q = (hd.length + 1 + startO tl t + q) + 1 := by omega
        have ih1 := ih.1
        rw [e, List.take_succ_cons, List.foldl_cons, hst, ih.2]
        exact ⟨by rw [List.length_cons]; omega, rfl⟩
theorem pos_cover : ∀ (b : List UInt8) (i : Nat), i ≤ b.length → ∃ t q, ∃ h : t < (spl b).length, q ≤ ((spl b)[t]).length ∧ i = startO (spl b) t + q
  | [], i, hi => ⟨0, 0, by simp [spl], by simp, by rw [startO_zero]; simp at hi; omega⟩
  | x :: r, i, hi => by
    rw [List.length_cons] at hi
    obtain ⟨hd, tl, hr⟩ := spl_cons r
    by_cases hx : x = 10
    · have hs : spl (x :: r) = [] :: spl r := by rw [spl, if_pos hx]
      simp only [hs]
      cases i with
      | zero => exact ⟨0, 0, by simp, by simp, by rw [startO_zero]⟩
      | succ i =>
        obtain ⟨t, q, h, hq, e⟩ := pos_cover r i (by omega)
        refine ⟨t + 1, q, by simpa using h, by simpa using hq, ?_⟩
        rw [startO_succ, e]
        simp
        omega
    · have hs : spl (x :: r) = (x :: hd) :: tl := by rw [spl, if_neg hx, hr]
      simp only [hs]
      cases i with
      | zero => exact ⟨0, 0, by simp, by simp, by rw [startO_zero]⟩
      | succ i =>
        obtain ⟨t, q, h, hq, e⟩ := pos_cover r i (by omega)
        cases t with
        | zero =>
          simp only [hr, List.getElem_cons_zero] at hq
          rw [startO_zero] at e
          exact ⟨0, q + 1, by simp, by simp; omega, by rw [startO_zero]; omega⟩
        | succ t =>
          simp only [hr, List.getElem_cons_succ] at hq
          rw [hr, startO_succ] at e
          refine ⟨t + 1, q, by rw [hr] at h; simpa using h, by simpa using hq, ?_⟩
          rw [startO_succ, e, List.length_cons]
          omega
/-- The position at a place of a line. -/
theorem posOf_at (b : List UInt8) (t q : Nat) (h : t < (spl b).length) (hq : q ≤ ((spl b)[t]).length) : posOf (b.take (startO (spl b) t + q)) = (t + 1, q + 1) := by
  have := (pos_at b 1 1 t q h hq).2
  unfold posOf
  rw [this]
  split
  · rename_i h0; subst h0; rw [Nat.add_comm 1 q]
  · rw [Nat.add_comm 1 t]
def nlB : ByteArray := ⟨#[10]⟩
theorem split_map (s : ByteArray) : (splitL s nlB).map bs = spl (bs s) := by
  unfold splitL
  have h := Lib.splitB_data nlB 0 (Lib.countB s nlB) s
  rw [show ((fun x : ByteArray => x.data.toList)) = bs from rfl] at h
  rw [h]
  exact splitK_spl (bs s)
theorem split_len (s : ByteArray) : (splitL s nlB).length = (spl (bs s)).length := by rw [← split_map, List.length_map]
theorem split_f (s : ByteArray) (hs : (bs s).length ≤ 300) : strings_Split.f s (⟨#[10]⟩ : ByteArray) = some (splitL s nlB) := by
  have h1 := Lib.splitB_all nlB (by decide) 0 _ s rfl
  have h2 := Lib.countB_le nlB (by decide) _ s (Nat.le_refl _)
  have h3 : (splitL s nlB).length = Lib.countB s nlB + 1 := h1
  unfold strings_Split.f
  rw [show (⟨#[10]⟩ : ByteArray) = nlB from rfl]
  rw [bs_size] at h2
  exact if_pos ⟨by rw [bs_size]; omega, rfl, h3, by omega⟩
/-- The offset of a line and a column, or that there is none. -/
def offR (b : List UInt8) (line col : Int) : Int × Bool :=
  if h : 1 ≤ line ∧ line.toNat - 1 < (spl b).length ∧ 1 ≤ col then
    (if col.toNat - 1 ≤ ((spl b)[line.toNat - 1]'h.2.1).length then (((startO (spl b) (line.toNat - 1) + (col.toNat - 1) : Nat) : Int), true) else (0, false))
  else (0, false)
theorem rdOf_at (L : List ByteArray) (j : Nat) (h : j < L.length) : rdOf ByteArray.empty L (j : Int) = L[j] := by
  unfold rdOf
  rw [Int.toNat_natCast, List.getD_eq_getElem?_getD, List.getElem?_eq_getElem h, Option.getD_some]
theorem size_at (L : List ByteArray) (M : List (List UInt8)) (hM : L.map bs = M) (j : Nat) (h : j < L.length) (h2 : j < M.length) : (L[j]).size = (M[j]).length := by
  subst hM
  rw [List.getElem_map]
  rfl
/-- The sum of the lengths of the lines before. -/
theorem sum_loop (Y : List ByteArray) (hY : Y.length ≤ 1000) (hsz : ∀ y ∈ Y, y.size ≤ 1000) : ∀ (d j : Nat) (acc : Nat), j + d = Y.length → acc ≤ 2000 * j + 1000 →
    Ev (fun k => diag_Offset.l0 k (acc : Int) Y (Y.length : Int) (j : Int)) (((acc + ((Y.drop j).map (fun y => y.size + 1)).sum : Nat) : Int), true)
  | 0, j, acc, hj, ha => by
    refine Ev.step (fun k => by rw [diag_Offset.l0]) (Ev.neg (by omega) ?_)
    rw [List.drop_of_length_le (by omega)]
    exact Ev.now _
  | d + 1, j, acc, hj, ha => by
    have hjl : j < Y.length := by omega
    have hy := hsz _ (List.getElem_mem hjl)
    have w0 : wrap64 ((j : Int) + 1) = ((j + 1 : Nat) : Int) := wrap_nat hjl (by omega)
    have w1 : wrap64 ((acc : Int) + (wrap64 (((Y[j]).size : Int) + 1))) = ((acc + ((Y[j]).size + 1) : Nat) : Int) := by
      rw [wrap_id (i := ((Y[j]).size : Int) + 1) (by omega) (by omega), wrap_id (by omega) (by omega)]; omega
    refine Ev.step (fun k => by rw [diag_Offset.l0]) ?_
    rw [rdOf_at Y j hjl, w0, w1]
    clear w0 w1
    refine Ev.pos (by omega) (Ev.pos (by omega) (Ev.pos (by omega) ?_))
    refine Ev.cast (sum_loop Y hY hsz d (j + 1) _ (by omega) (by omega)) ?_
    rw [List.drop_eq_getElem_cons hjl, List.map_cons, List.sum_cons, Nat.add_assoc]
theorem offset_ev (s : ByteArray) (hs : (bs s).length ≤ 300) (line col : Int) (hl : -9223372036854775808 ≤ line ∧ line ≤ 9223372036854775807) (hc : -9223372036854775808 ≤ col ∧ col ≤ 9223372036854775807) :
    Ev (fun k => diag_Offset.f k s line col) (offR (bs s) line col) := by
  have no : ∀ L, Ev (fun k => diag_Offset.j0 k line col L true) (0, false) := fun L => Ev.step (fun k => by rw [diag_Offset.j0]) (Ev.pos rfl (Ev.now _))
  refine Ev.congr (fun k => by rw [diag_Offset.f]) (Ev.const (split_f s hs) ?_)
  have hlen := split_len s
  have hmap := split_map s
  generalize splitL s nlB = L at *
  unfold offR
  by_cases h1 : line < 1
  · rw [dif_neg (by omega)]
    exact Ev.pos h1 (no L)
  refine Ev.neg h1 ?_
  by_cases h2 : line > (L.length : Int)
  · rw [dif_neg (by omega)]
    exact Ev.pos h2 (no L)
  refine Ev.neg h2 ?_
  by_cases h3 : col < 1
  · rw [dif_neg (by omega)]
    exact Ev.pos h3 (no L)
  refine Ev.neg h3 ?_
  obtain ⟨t, ht⟩ : ∃ t : Nat, line - 1 = t := Int.eq_ofNat_of_zero_le (by omega)
  obtain ⟨q, hq⟩ : ∃ q : Nat, col - 1 = q := Int.eq_ofNat_of_zero_le (by omega)
  have htl : t < L.length := by omega
  have htm : t < (spl (bs s)).length := by omega
  have hsz := size_at L _ hmap t htl htm
  have w1 : wrap64 (line - 1) = (t : Int) := by rw [wrap_id (by omega) (by omega)]; exact ht
  have hpos := pos_at (bs s) 1 1 t ((spl (bs s))[t]).length htm (Nat.le_refl _)
  have hpl := hpos.1
  have w2 : wrap64 (((L[t]).size : Int) + 1) = ((((spl (bs s))[t]).length + 1 : Nat) : Int) := by rw [hsz, wrap_id (by omega) (by omega)]; omega
  have w3 : wrap64 (col - 1) = (q : Int) := by rw [wrap_id (by omega) (by omega)]; exact hq
  rw [w1, rdOf_at L t htl, w2]
  clear w1 w2
  refine Ev.pos (by omega) (Ev.pos (by omega) ?_)
  rw [dif_pos (show 1 ≤ line ∧ line.toNat - 1 < (spl (bs s)).length ∧ 1 ≤ col by omega)]
  have e1 : line.toNat - 1 = t := by omega
  have e2 : col.toNat - 1 = q := by omega
  simp only [e1, e2]
  by_cases h4 : col > ((((spl (bs s))[t]).length + 1 : Nat) : Int)
  · rw [decide_eq_true h4, if_neg (by omega)]
    exact no L
  rw [decide_eq_false h4, if_pos (by omega)]
  refine Ev.step (fun k => by rw [diag_Offset.j0]) ?_
  refine Ev.neg (by decide) ?_
  have w1 : wrap64 (line - 1) = (t : Int) := by rw [wrap_id (by omega) (by omega)]; exact ht
  rw [w1, w3]
  clear w1 w3
  refine Ev.pos (by omega) (Ev.pos (by omega) (Ev.someb ?_))
  rw [Int.toNat_natCast]
  have hYl : (L.take t).length = t := by rw [List.length_take]; omega
  have hcov : ∀ y ∈ L, y.size ≤ 300 := by
    intro y hy
    obtain ⟨u, hu, rfl⟩ := List.getElem_of_mem hy
    have hum : u < (spl (bs s)).length := by omega
    have := (pos_at (bs s) 1 1 u ((spl (bs s))[u]).length hum (Nat.le_refl _)).1
    rw [size_at L _ hmap u hu hum]
    omega
  have hpm : ∀ u, u ≤ L.length → u ≤ startO (spl (bs s)) u := by
    intro u hu
    unfold startO
    have : ∀ (l : List (List UInt8)), l.length ≤ (l.map (fun p => p.length + 1)).sum := by
      intro l
      induction l with
      | nil => simp
      | cons a r ih => simp only [List.map_cons, List.sum_cons, List.length_cons]; omega
    have := this ((spl (bs s)).take u)
    rw [List.length_take] at this
    omega
  have ht300 := hpm t (by omega)
  refine Ev.cast (sum_loop (L.take t) (by omega) (fun y hy => by have := hcov y (List.mem_of_mem_take hy); omega) (L.take t).length 0 q (by omega) (by omega)) ?_
  rw [List.drop_zero]
  have : ((L.take t).map (fun y => y.size + 1)).sum = startO (spl (bs s)) t := by
    unfold startO
    rw [← hmap, ← List.map_take, List.map_map]
    rfl
  rw [this, Nat.add_comm]
/-- The reference tries every offset. -/
theorem try_at (s : ByteArray) (hs : (bs s).length ≤ 300) (line col : Int) (j : Nat) (hj : j ≤ (bs s).length) (R : Int × Bool)
    (h : (((posOf ((bs s).take j)).1 : Int) = line ∧ ((posOf ((bs s).take j)).2 : Int) = col ∧ R = ((j : Int), true)) ∨ (¬ (((posOf ((bs s).take j)).1 : Int) = line ∧ ((posOf ((bs s).take j)).2 : Int) = col) ∧ Ev (fun k => trickleref14_Offset.l0 k s line col ((j + 1 : Nat) : Int)) R)) :
    Ev (fun k => trickleref14_Offset.l0 k s line col (j : Int)) R := by
  have hcl : clampN (bs s).length (j : Int) = j := by unfold clampN; omega
  have hp := rposition_ev s (by omega) (j : Int)
  rw [hcl] at hp
  have w0 : wrap64 ((j : Int) + 1) = ((j + 1 : Nat) : Int) := by rw [wrap_id (by omega) (by omega)]; omega
  refine Ev.step (fun k => by rw [trickleref14_Offset.l0]) ?_
  rw [w0, bs_size]
  clear w0
  refine Ev.pos (by omega) (Ev.bind hp ?_)
  rcases h with ⟨h1, h2, rfl⟩ | ⟨h1, h2⟩
  · exact Ev.pos h1 (Ev.pos h2 (Ev.now _))
  · by_cases h3 : ((posOf ((bs s).take j)).1 : Int) = line
    · exact Ev.pos h3 (Ev.neg (fun h4 => h1 ⟨h3, h4⟩) h2)
    · exact Ev.neg h3 h2
theorem roffset_yes (s : ByteArray) (hs : (bs s).length ≤ 300) (line col : Int) (t q : Nat) (h : t < (spl (bs s)).length) (hq : q ≤ ((spl (bs s))[t]).length) (h1 : line = ((t + 1 : Nat) : Int)) (h2 : col = ((q + 1 : Nat) : Int)) :
    ∀ (d j : Nat), j + d = startO (spl (bs s)) t + q → Ev (fun k => trickleref14_Offset.l0 k s line col (j : Int)) (((startO (spl (bs s)) t + q : Nat) : Int), true)
  | 0, j, hj => by
    have hb := (pos_at (bs s) 1 1 t q h hq).1
    refine try_at s hs line col j (by omega) _ (.inl ?_)
    have e : j = startO (spl (bs s)) t + q := by omega
    rw [e, posOf_at (bs s) t q h hq, h1, h2]
    exact ⟨rfl, rfl, rfl⟩
  | d + 1, j, hj => by
    have hb := (pos_at (bs s) 1 1 t q h hq).1
    refine try_at s hs line col j (by omega) _ (.inr ⟨?_, roffset_yes s hs line col t q h hq h1 h2 d (j + 1) (by omega)⟩)
    rintro ⟨e1, e2⟩
    obtain ⟨t', q', h', hq', e⟩ := pos_cover (bs s) j (by omega)
    rw [e, posOf_at (bs s) t' q' h' hq', h1] at e1
    rw [e, posOf_at (bs s) t' q' h' hq', h2] at e2
    have a1 : t' = t := by dsimp only at e1; omega
    have a2 : q' = q := by dsimp only at e2; omega
    subst a1 a2
    omega
theorem roffset_no (s : ByteArray) (hs : (bs s).length ≤ 300) (line col : Int) (hno : ∀ t q, ∀ h : t < (spl (bs s)).length, q ≤ ((spl (bs s))[t]).length → ¬ (line = ((t + 1 : Nat) : Int) ∧ col = ((q + 1 : Nat) : Int))) :
    ∀ (d j : Nat), j + d = (bs s).length + 1 → Ev (fun k => trickleref14_Offset.l0 k s line col (j : Int)) (0, false)
  | 0, j, hj => by
    refine Ev.step (fun k => by rw [trickleref14_Offset.l0]) ?_
    rw [bs_size]
    exact Ev.neg (by omega) (Ev.now _)
  | d + 1, j, hj => by
    refine try_at s hs line col j (by omega) _ (.inr ⟨?_, roffset_no s hs line col hno d (j + 1) (by omega)⟩)
    rintro ⟨e1, e2⟩
    obtain ⟨t', q', h', hq', e⟩ := pos_cover (bs s) j (by omega)
    rw [e, posOf_at (bs s) t' q' h' hq'] at e1 e2
    exact hno t' q' h' hq' ⟨e1.symm, e2.symm⟩
theorem roffset_ev (s : ByteArray) (hs : (bs s).length ≤ 300) (line col : Int) : Ev (fun k => trickleref14_Offset.f k s line col) (offR (bs s) line col) := by
  refine Ev.congr (f := fun k => trickleref14_Offset.l0 k s line col ((0 : Nat) : Int)) (fun k => by rw [trickleref14_Offset.f]; rfl) ?_
  unfold offR
  by_cases h : 1 ≤ line ∧ line.toNat - 1 < (spl (bs s)).length ∧ 1 ≤ col
  · rw [dif_pos h]
    by_cases h2 : col.toNat - 1 ≤ ((spl (bs s))[line.toNat - 1]'h.2.1).length
    · rw [if_pos h2]
      exact roffset_yes s hs line col _ _ h.2.1 h2 (by omega) (by omega) _ 0 (Nat.zero_add _)
    · rw [if_neg h2]
      refine roffset_no s hs line col ?_ _ 0 (Nat.zero_add _)
      rintro t q ht hq ⟨e1, e2⟩
      apply h2
      have a1 : line.toNat - 1 = t := by omega
      have a2 : col.toNat - 1 = q := by omega
      simp only [a1, a2]
      exact hq
  · rw [dif_neg h]
    refine roffset_no s hs line col ?_ _ 0 (Nat.zero_add _)
    rintro t q ht hq ⟨e1, e2⟩
    apply h
    omega
end Go.Proofs.YtahgghbhpmpgfaaDoor.PX
/- DiagOffset and DiagInverse in plain words. -/
namespace Go.Proofs.YtahgghbhpmpgfaaDoor.Pure
open Go.RowKit Go.Proofs.YtahgghbhpmpgfaaDoor.PX Go.Proofs.YtahgghbhpmpgfaaDoorW.PrintWords Go.Proofs.YtahgghbhpmpgfaaDoorW.PrintLast
set_option linter.unusedVariables false
theorem DiagOffset (s : ByteArray) (line col : Int) (hs : s.size ≤ 140737488351232) (hl : -9223372036854775808 ≤ line ∧ line ≤ 9223372036854775807) (hc : -9223372036854775808 ≤ col ∧ col ≤ 9223372036854775807) : ∃ n, tricklelaw14_DiagOffset.f n s line col = some true := by
  refine Ev.rounds (Ev.congr (fun n => by rw [tricklelaw14_DiagOffset.f, bs_size]) ?_)
  by_cases h : ((bs s).length : Int) > 300
  · exact Ev.pos h (Ev.bind examples_ev (Ev.now _))
  refine Ev.neg h (Ev.bind (offset_ev s (by omega) line col hl hc) (Ev.bind (roffset_ev s (by omega) line col) ?_))
  exact Ev.pos rfl (Ev.pos (beq_self_eq_true _) (Ev.bind examples_ev (Ev.now _)))
end Go.Proofs.YtahgghbhpmpgfaaDoor.Pure
/- As the library's returnsInHanded_of_change_and, and the contract also gets that the world is shaped. -/
namespace Go.Proofs.YtahgghbhpmpgfaaDoor.PX
open Go Go.ChangeShapes Go.WideShapes Go.RowKit
theorem handed_shaped {H : Type} {enc : TypeId × Value → H} {a : Assume} {C : Checked} {os : Os} {f : FuncId} {fn : Func} {s : ChangeSpec} {conds : List PathCond} {apart fresh handsOn again : Bool} {X : World → Array Value → Prop}
    (hX : ∀ (w w' : World) (args : Array Value), w.heap = w'.heap → X w args → X w' args)
    (own : ownKnob C.prog.godebug = none) (started : os.Started) (noInit : C.prog.inits.idxOf? f = none) (hfn : C.prog.funcs[f]? = some fn)
    (witness : ∃ (w : World) (tape : Tape) (i : Input), w.os = os ∧ (w.forCall tape i).Shaped C.prog ∧ i.vars = [] ∧ Input.okWide C.prog (w.forCall tape i) .any w.heap.size f i ∧
      ((s.pre enc C.prog fn conds apart (w.forCall tape i).memory i.args ∧ X (w.forCall tape i).memory i.args) ∧ sizedMet enc C.prog fn (OpenSpec.ofChange s) apart (w.forCall tape i).memory i.args) ∧ a.holds C.prog (lone (Frame.enter C.prog f i.args .normal) [] (w.forCall tape i)))
    (contract : ∀ (W : World) (base : Nat) (args : Array Value) (ds gs : List (DataW H)) (before : List MemPlace), W.ShapedOpen C.prog →
      (∀ (j : Nat) t v, fn.params[j]? = some t → args[j]? = some v → Value.okWide C.prog W .any base t v) →
      DataW.Whole enc C.prog fn.params.toList s.vars apart W args.toList ds gs before →
      conds.all (PathCond.test C.prog ⟨fn.params.toList, ds, s.plain.varTypes C.prog, gs⟩) = true →
      (DataW.weightsEach C.prog (fn.params.toList ++ s.plain.varTypes C.prog) (ds ++ gs)).all (· ≤ reachBytes) = true → X W args →
      a.holds C.prog (lone (Frame.enter C.prog f args .normal) [] W) →
      Calls C.prog f args W fun e W' => ∃ v, e = .returned v ∧ s.post enc C.prog fn apart fresh handsOn again W args v W') :
    ReturnsInHanded a C os f .any (fun w args => (s.pre enc C.prog fn conds apart w args ∧ X w args) ∧ sizedMet enc C.prog fn (OpenSpec.ofChange s) apart w args) (s.post enc C.prog fn apart fresh handsOn again) := by
  refine returnsInHanded_of_calls own started noInit witness ?_
  intro w tape i _ hsh _ hok hpre hholds
  obtain ⟨_, _, _, fn', hfn', _, _, _, _, hval⟩ := hok
  have e : fn' = fn := Option.some.inj (hfn'.symm.trans hfn)
  subst e
  obtain ⟨⟨⟨ds, gs, before, hw, hc⟩, hx⟩, hz⟩ := hpre
  have hw' := DataW.Whole.of_heap (w' := w.forCall tape i) (by rfl) hw
  refine (contract (w.forCall tape i) w.heap.size i.args ds gs before hsh hval hw' hc (hz.weights hw) (hX _ _ _ (by rfl) hx) hholds).mono fun e W' ⟨v, he, hp⟩ => ?_
  subst he
  exact ChangeSpec.post_blind hp
end Go.Proofs.YtahgghbhpmpgfaaDoor.PX
