/- Parts of the proof, merged in build order: St8, PXx32, Cr3, PureFrameStream, TypesS. -/
import Derived.Test.YtfhnpphceeoeeaaDoorS1
import Derived.Test.YtfhnpphceeoeeaaDoorS2
import Derived.Test.YtfhnpphceeoeeaaDoorS3
import Derived.Test.YtfhnpphceeoeeaaDoorS4
import Derived.Test.YtfhnpphceeoeeaaDoorS5
-- Written by a program of this session (wip/xprint.py, over the kit's print tool). Lean checks it.
namespace Go.Proofs.YtfhnpphceeoeeaaDoor.PX
open Go.RowKit Go.Proofs.YtfhnpphceeoeeaaDoorW.PrintWords Go.Proofs.YtfhnpphceeoeeaaDoorW.PrintLast Go.Proofs.YtfhnpphceeoeeaaDoorW.PrintMore
attribute [local go_sem] max2_int min2_int max_two min_two max_three min_three max_four min_four   -- for this text's walks alone
set_option linter.unusedVariables false
set_option linter.unusedSimpArgs false

/-! ### tricklelaw43_FrameStream: function 10 -/
mutual
def tricklelaw43_FrameStream.j0 : Nat → List (List Int) → List Int → Bool → Option (Bool)
  | 0, _, _, _ => none
  | k + 1, x0, x1, x18 => if x18 = true then (some true) else (tricklelaw43_FrameStream.l0 k x0 x1 false x0 (x0.length : Int) 0)
def tricklelaw43_FrameStream.l0 : Nat → List (List Int) → List Int → Bool → List (List Int) → Int → Int → Option (Bool)
  | 0, _, _, _, _, _, _ => none
  | k + 1, x0, x1, x5, x19, x20, x21 => if x21 < x20 then (if 0 ≤ x21 then (if x21 < (x19.length : Int) then (if ((rd_L1 x19 x21).length : Int) > 100 then (some true) else (if x5 = true then (tricklelaw43_FrameStream.l0 k x0 x1 true x19 x20 (wrap64 (x21 + 1))) else (tricklelaw43_FrameStream.l0 k x0 x1 (decide (((rd_L1 x19 x21).length : Int) > 47)) x19 x20 (wrap64 (x21 + 1))))) else (none)) else (none)) else ((frame_Stream.f k x0).bind fun t293 => ((trickleref43_Stream.f k x0).bind fun t296 => (if (strOfNums t293).toList = (strOfNums t296).toList then ((frame_Split.f k x1).bind fun t299 => ((trickleref43_Split.f k x1).bind fun t302 => ((trickleref03_SamePackets.f k t299 t302).bind fun t305 => (tricklelaw43_FrameStream.j2 k x0 x5 t293 (!t305))))) else (tricklelaw43_FrameStream.j2 k x0 x5 t293 true))))
def tricklelaw43_FrameStream.j2 : Nat → List (List Int) → Bool → List Int → Bool → Option (Bool)
  | 0, _, _, _, _ => none
  | k + 1, x0, x5, x8, x50 => if x50 = true then (some false) else (if x5 = true then (some true) else ((frame_Split.f k x8).bind fun t306 => ((trickleref03_SamePackets.f k t306 x0).bind fun t309 => (some t309))))
end
def tricklelaw43_FrameStream.f (k : Nat) (l0 : List (List Int)) (l1 : List Int) : Option (Bool) := (tricklelaw43_wakes.f k).bind fun t291 => (if t291 = true then (if (l0.length : Int) > 12 then (tricklelaw43_FrameStream.j0 k l0 l1 true) else (tricklelaw43_FrameStream.j0 k l0 l1 (decide ((l1.length : Int) > 600)))) else (some false))
def tricklelaw43_FrameStream.T14 : Bool × List (List Nat × List Nat) := (true, [([], []), ([0], [0]), ([], []), ([2], [2]), ([3], [3]), ([1, 4], [1, 4]), ([5, 3], [5]), ([6], [6]), ([7, 6, 6], [6, 7]), ([6], [6]), ([9, 8, 6], [6, 9]), ([8, 10, 10, 6], [6, 8, 10]), ([11, 6], [6, 11]), ([6, 12], [6, 12])])
def tricklelaw43_FrameStream.B14 : List Nat := [0, 1, 0, 4, 12, 31, 63, 127, 255, 127, 1023, 2047, 4095, 8191]
theorem tricklelaw43_FrameStream.tab14 : rtab .any (opsOf Tryd.f10 14) = tricklelaw43_FrameStream.T14 := by kernel_rfl
theorem tricklelaw43_FrameStream.bits14 : waitsOk tricklelaw43_FrameStream.T14.2 tricklelaw43_FrameStream.B14 = true := by kernel_rfl
theorem conv_A {w : World} {base : Nat} {ok : Nat → Prop} {v : Value} {xs : List Int} (h : (Kd.int .u8).R 5 w base ok v xs) : (convert 24 9 v).run Tryd.prog w = .ok (.string (strOfNums xs)) w := by
  obtain ⟨A, c, rfl⟩ := Kd.R_slice h
  exact Kd.C_string Tryd.underlying24 Tryd.underlying5 Tryd.underlying9 (Kd.R_reads' h).2.2
set_option maxHeartbeats 8000000 in
set_option maxRecDepth 100000 in
theorem tricklelaw43_FrameStream.calls (k : Nat) (A0 : Option Addr) (c0 : Nat) (l0 : List (List Int)) (A1 : Option Addr) (c1 : Nat) (l1 : List Int) (r : Bool) (w : World) (hr0 : Kd.C (Kd.slice 5 (Kd.int .u8)) w A0 l0.length l0) (hc0 : l0.length ≤ c0) (hr1 : Kd.C (Kd.int .u8) w A1 l1.length l1) (hc1 : l1.length ≤ c1) (hG : GW w) (h : tricklelaw43_FrameStream.f k l0 l1 = some r) :
    Calls Tryd.prog 10 #[.slice A0 l0.length c0, .slice A1 l1.length c1] w fun e w' => e = .returned (.bool r) ∧ Below w.heap.size w w' := by
  have HG := Aside0.mk hG
  clear hG
  have HR0 := Aside0.mk hr0
  have HC0 := Aside0.mk hc0
  clear hr0 hc0
  have HR1 := Aside0.mk hr1
  have HC1 := Aside0.mk hc1
  clear hr1 hc1
  have HB := Aside0.mk (Below.refl w.heap.size w)
  have H : ((tricklelaw43_wakes.f k).bind fun t291 => (if t291 = true then (if (l0.length : Int) > 12 then (tricklelaw43_FrameStream.j0 k l0 l1 true) else (tricklelaw43_FrameStream.j0 k l0 l1 (decide ((l1.length : Int) > 600)))) else (some false))) = some r := h
  clear h
  replace H := Option.bind_eq_some_iff.mp H
  obtain ⟨t291, A30, H⟩ := H
  replace H : (if t291 = true then (if (l0.length : Int) > 12 then (tricklelaw43_FrameStream.j0 k l0 l1 true) else (tricklelaw43_FrameStream.j0 k l0 l1 (decide ((l1.length : Int) > 600)))) else (some false)) = some r := H
  have A3 := Aside0.mk A30
  clear A30
  by_cases c4 : t291 = true
  · subst c4
    have H1 : (if (l0.length : Int) > 12 then (tricklelaw43_FrameStream.j0 k l0 l1 true) else (tricklelaw43_FrameStream.j0 k l0 l1 (decide ((l1.length : Int) > 600)))) = some r := by rw [if_pos rfl] at H; exact H
    clear H
    have H := H1
    clear H1
    have HC5 := Aside0.mk H
    clear H
    go_enter Tryd.func10, Tryd.ntmps10
    go_upto_region 3 with (first | ((with_reducible refine gate_callee (f := 11) rfl ?_); refine goesL_ (some 9) rfl rfl Tryd.func11 (by kernel_rfl) rfl #[] rfl (by (try simp only [List.map_toArray, List.map_cons, List.map_nil]); first | done | rfl | (simp only [List.length_drop, List.length_take]; rfl)) ?_; (with_reducible refine (tricklelaw43_wakes.calls k  true _ ?side1 A3.out).mono ?_); (case side1 => refine GW.below HG.out ?_; repeat (first | (with_reducible first | exact HB.out | apply below_alloc | apply pw_below_drewN | apply below_drew1) | exact HB.out)); rintro e w6 ⟨rfl, hb⟩; refine ⟨_, rfl, ?_⟩; have n0_ := Aside0.mk (below_step (by repeat (first | (with_reducible first | exact HB.out | apply below_alloc | apply pw_below_drewN | apply below_drew1) | exact HB.out)) hb); clear HB; have HB := n0_; clear n0_; (try clear hb); (try clear hb2); (try clear hk); (try clear hi)))
    (try simp only [Act.put, List.setIfInBounds_toArray, List.set_cons_zero, List.set_cons_succ])
    go_cut [18] (fun v18 wc => ∃ (kq : Nat) (x18_4 : Bool), v18 = .bool x18_4 ∧ Aside0 (tricklelaw43_FrameStream.j0 kq l0 l1 x18_4 = some r) ∧ Aside0 (kq ≤ k) ∧ Aside0 (Below w.heap.size w wc))
    case first =>
      have H := HC5.out
      clear HC5
      by_cases c7 : (l0.length : Int) > 12
      · rw [if_pos c7] at H
        have c7b0 : decide (12 < (l0.length : Int)) = true := decide_eq_true c7
        have c7b1 : decide (12 < l0.length) = true := decide_eq_true (by omega)
        clear c7
        (first | rw [c7b0] | (simp only [i64_w, i32_w]; rw [c7b0]) | skip)
        have H' := Aside0.mk H
        clear H
        go_wp2
        go_meet
        case rel => exact ⟨_, (true), (by first | rfl | (simp; done) | (simp [*]; done)), H', ⟨by first | omega | exact Nat.le_refl _⟩, ⟨by repeat (first | (with_reducible first | exact HB.out | apply below_alloc | apply pw_below_drewN | apply below_drew1) | exact HB.out)⟩⟩
      · rw [if_neg c7] at H
        have c7b0 : decide (12 < (l0.length : Int)) = false := decide_eq_false c7
        have c7b1 : decide (12 < l0.length) = false := decide_eq_false (by omega)
        clear c7
        (first | rw [c7b0] | (simp only [i64_w, i32_w]; rw [c7b0]) | skip)
        have H' := Aside0.mk H
        clear H
        go_wp2
        go_meet
        case rel => exact ⟨_, (decide ((l1.length : Int) > 600)), (by first | rfl | (simp; done) | (simp [*]; done)), H', ⟨by first | omega | exact Nat.le_refl _⟩, ⟨by repeat (first | (with_reducible first | exact HB.out | apply below_alloc | apply pw_below_drewN | apply below_drew1) | exact HB.out)⟩⟩
    case rest =>
      clear HC5
      try clear c1
      try clear p2
      try clear c4
      try clear c7
      try clear c7b0
      try clear c7b1
      obtain ⟨kq, x18_4, rfl, HA, HJ4, HB⟩ := hcut
      cases kq with
      | zero => exact absurd HA.out (by simp [tricklelaw43_FrameStream.j0])
      | succ kj4 =>
        have H := HA.out
        clear HA
        simp only [tricklelaw43_FrameStream.j0] at H
        by_cases c8 : x18_4 = true
        · subst c8
          have H1 : (some true) = some r := by rw [if_pos rfl] at H; exact H
          clear H
          have H := H1
          clear H1
          obtain rfl := Option.some.inj H
          go_wp2
          go_ret
          exact ⟨by first | rfl | (simp [errW_none, errW_some] <;> rfl) | (simp [*, errW_none, errW_some] <;> rfl), by repeat (first | (with_reducible first | exact HB.out | apply below_alloc | apply pw_below_drewN | apply below_drew1) | exact HB.out)⟩
        · replace c8 := Bool.eq_false_iff.mpr c8
          subst c8
          have H1 : (tricklelaw43_FrameStream.l0 kj4 l0 l1 false l0 (l0.length : Int) 0) = some r := by rw [if_neg (show ¬ (false = true) by decide)] at H; exact H
          clear H
          have H := H1
          clear H1
          have H' := Aside0.mk H
          clear H
          go_wp2
          go_loopg [5, 21] kj4 (fun kq v5 v21 w' => ∃ (x5_2 : Bool) (x21_2 : Int), v5 = .bool x5_2 ∧ v21 = .int .i64 x21_2 ∧ Aside0 (tricklelaw43_FrameStream.l0 kq l0 l1 x5_2 l0 (l0.length : Int) x21_2 = some r) ∧ Aside0 (kq ≤ kj4) ∧ Aside0 (Below w.heap.size w w'))
          case atStart => exact ⟨(false), (0), (by first | rfl | (simp; done) | (simp [*]; done)), (by first | rfl | (simp; done) | (simp [*]; done)), H', ⟨Nat.le_refl _⟩, ⟨by repeat (first | (with_reducible first | exact HB.out | apply below_alloc | apply pw_below_drewN | apply below_drew1) | exact HB.out)⟩⟩
          case round =>
            clear H'
            try clear c1
            try clear p2
            try clear c4
            try clear c7
            try clear c7b0
            try clear c7b1
            try clear c8
            try clear p2
            obtain ⟨x5_2, x21_2, rfl, rfl, HA, HK2, HB⟩ := hrel
            cases gk with
            | zero => exact absurd HA.out (by simp [tricklelaw43_FrameStream.l0])
            | succ k2 =>
              have H := HA.out
              clear HA
              simp only [tricklelaw43_FrameStream.l0] at H
              by_cases c9 : x21_2 < (l0.length : Int)
              · rw [if_pos c9] at H
                have c9b0 : decide (x21_2 < (l0.length : Int)) = true := decide_eq_true c9
                clear c9
                by_cases c10 : 0 ≤ x21_2
                · rw [if_pos c10] at H
                  have c10b0 : decide (0 ≤ x21_2) = true := decide_eq_true c10
                  clear c10
                  by_cases c11 : x21_2 < (l0.length : Int)
                  · rw [if_pos c11] at H
                    have c11b0 : decide (x21_2 < (l0.length : Int)) = true := decide_eq_true c11
                    clear c11
                    by_cases c12 : ((rd_L1 l0 x21_2).length : Int) > 100
                    · rw [if_pos c12] at H
                      have c12b0 : decide (100 < ((rd_L1 l0 x21_2).length : Int)) = true := decide_eq_true c12
                      have c12b1 : decide (100 < (rd_L1 l0 x21_2).length) = true := decide_eq_true (by omega)
                      clear c12
                      obtain rfl := Option.some.inj H
                      have p292 : 0 ≤ (x21_2 : Int) := of_decide_eq_true (by first | (with_reducible assumption) | assumption)
                      have q292 : x21_2 < (l0.length : Int) := of_decide_eq_true (by first | (with_reducible assumption) | assumption)
                      obtain ⟨ad292, A292_0, c292_0, e292, hx292_0, hl292_0, hi292_0⟩ := at_L1 HR0.out x21_2 p292 q292
                      cases e292
                      replace hx292_0 := (HB.out.cell (World.block_lt_of_cell? w _ hx292_0)).trans hx292_0
                      have HR292_0 := Aside0.mk hi292_0
                      have HC292_0 := Aside0.mk hl292_0
                      clear hi292_0 hl292_0
                      replace p292 := eq_true p292
                      replace q292 := eq_true q292
                      go_wp2
                      go_ret
                      exact ⟨by first | rfl | (simp [errW_none, errW_some] <;> rfl) | (simp [*, errW_none, errW_some] <;> rfl), by repeat (first | (with_reducible first | exact HB.out | apply below_alloc | apply pw_below_drewN | apply below_drew1) | exact HB.out)⟩
                    · rw [if_neg c12] at H
                      have c12b0 : decide (100 < ((rd_L1 l0 x21_2).length : Int)) = false := decide_eq_false c12
                      have c12b1 : decide (100 < (rd_L1 l0 x21_2).length) = false := decide_eq_false (by omega)
                      clear c12
                      by_cases c13 : x5_2 = true
                      · subst c13
                        have H1 : (tricklelaw43_FrameStream.l0 k2 l0 l1 true l0 (l0.length : Int) (wrap64 (x21_2 + 1))) = some r := by rw [if_pos rfl] at H; exact H
                        clear H
                        have H := H1
                        clear H1
                        have H' := Aside0.mk H
                        clear H
                        have p292 : 0 ≤ (x21_2 : Int) := of_decide_eq_true (by first | (with_reducible assumption) | assumption)
                        have q292 : x21_2 < (l0.length : Int) := of_decide_eq_true (by first | (with_reducible assumption) | assumption)
                        obtain ⟨ad292, A292_0, c292_0, e292, hx292_0, hl292_0, hi292_0⟩ := at_L1 HR0.out x21_2 p292 q292
                        cases e292
                        replace hx292_0 := (HB.out.cell (World.block_lt_of_cell? w _ hx292_0)).trans hx292_0
                        have HR292_0 := Aside0.mk hi292_0
                        have HC292_0 := Aside0.mk hl292_0
                        clear hi292_0 hl292_0
                        replace p292 := eq_true p292
                        replace q292 := eq_true q292
                        go_wp2
                        go_roundg k2
                        case measure => have := HJ4.out; have := HK2.out; omega
                        case rel => exact ⟨(true), (wrap64 (x21_2 + 1)), (by first | rfl | (simp; done) | (simp [*]; done)), (by first | rfl | (simp; done) | (simp [*]; done)), H', ⟨by have := HJ4.out; have := HK2.out; omega⟩, ⟨by repeat (first | (with_reducible first | exact HB.out | apply below_alloc | apply pw_below_drewN | apply below_drew1) | exact HB.out)⟩⟩
                      · replace c13 := Bool.eq_false_iff.mpr c13
                        subst c13
                        have H1 : (tricklelaw43_FrameStream.l0 k2 l0 l1 (decide (((rd_L1 l0 x21_2).length : Int) > 47)) l0 (l0.length : Int) (wrap64 (x21_2 + 1))) = some r := by rw [if_neg (show ¬ (false = true) by decide)] at H; exact H
                        clear H
                        have H := H1
                        clear H1
                        have H' := Aside0.mk H
                        clear H
                        have p292 : 0 ≤ (x21_2 : Int) := of_decide_eq_true (by first | (with_reducible assumption) | assumption)
                        have q292 : x21_2 < (l0.length : Int) := of_decide_eq_true (by first | (with_reducible assumption) | assumption)
                        obtain ⟨ad292, A292_0, c292_0, e292, hx292_0, hl292_0, hi292_0⟩ := at_L1 HR0.out x21_2 p292 q292
                        cases e292
                        replace hx292_0 := (HB.out.cell (World.block_lt_of_cell? w _ hx292_0)).trans hx292_0
                        have HR292_0 := Aside0.mk hi292_0
                        have HC292_0 := Aside0.mk hl292_0
                        clear hi292_0 hl292_0
                        replace p292 := eq_true p292
                        replace q292 := eq_true q292
                        go_wp2
                        go_roundg k2
                        case measure => have := HJ4.out; have := HK2.out; omega
                        case rel => exact ⟨(decide (((rd_L1 l0 x21_2).length : Int) > 47)), (wrap64 (x21_2 + 1)), (by first | rfl | (simp; done) | (simp [*]; done)), (by first | rfl | (simp; done) | (simp [*]; done)), H', ⟨by have := HJ4.out; have := HK2.out; omega⟩, ⟨by repeat (first | (with_reducible first | exact HB.out | apply below_alloc | apply pw_below_drewN | apply below_drew1) | exact HB.out)⟩⟩
                  · rw [if_neg c11] at H
                    exact absurd H (by simp)
                · rw [if_neg c10] at H
                  exact absurd H (by simp)
              · rw [if_neg c9] at H
                have c9b0 : decide (x21_2 < (l0.length : Int)) = false := decide_eq_false c9
                clear c9
                replace H := Option.bind_eq_some_iff.mp H
                obtain ⟨t293, A140, H⟩ := H
                replace H : ((trickleref43_Stream.f k2 l0).bind fun t296 => (if (strOfNums t293).toList = (strOfNums t296).toList then ((frame_Split.f k2 l1).bind fun t299 => ((trickleref43_Split.f k2 l1).bind fun t302 => ((trickleref03_SamePackets.f k2 t299 t302).bind fun t305 => (tricklelaw43_FrameStream.j2 k2 l0 x5_2 t293 (!t305))))) else (tricklelaw43_FrameStream.j2 k2 l0 x5_2 t293 true))) = some r := H
                have A14 := Aside0.mk A140
                clear A140
                have HC15 := Aside0.mk H
                clear H
                go_upto_region 14 with (first | ((with_reducible refine gate_callee (f := 35) rfl ?_); refine goesL_ (some 36) rfl rfl Tryd.func35 (by kernel_rfl) rfl #[.slice A0 l0.length c0] rfl (by (try simp only [List.map_toArray, List.map_cons, List.map_nil]); first | done | rfl | (simp only [List.length_drop, List.length_take]; rfl)) ?_; (with_reducible refine (frame_Stream.calls k2 _ _ l0 t293 _ ?side1 ?side2 A14.out).mono ?_); (case side1 => repeat (first | exact (Kd.C_below HR0.out HB.out) | (with_reducible refine Kd.C_alloc ?_ _) | (with_reducible refine Kd.C_drewN ?_ _) | (with_reducible refine Kd.C_drew ?_))); (case side2 => exact HC0.out); rintro e w16 ⟨v294, rfl, ho0, hb⟩; refine ⟨_, rfl, ?_⟩; have n0_ := Aside0.mk (Kd.R_lower ho0 (below_size (by repeat (first | (with_reducible first | exact HB.out | apply below_alloc | apply pw_below_drewN | apply below_drew1) | exact HB.out)))); have n1_ := Aside0.mk (below_step (by repeat (first | (with_reducible first | exact HB.out | apply below_alloc | apply pw_below_drewN | apply below_drew1) | exact HB.out)) hb); clear HB; have HO295 := n0_; have HB := n1_; clear n0_ n1_; (try clear hb); (try clear hb2); (try clear hk); (try clear hi); (try clear ho0)))
                (try simp only [Act.put, List.setIfInBounds_toArray, List.set_cons_zero, List.set_cons_succ])
                go_cut [50] (fun v50 wc => ∃ (kq : Nat) (x50_14 : Bool), v50 = .bool x50_14 ∧ Aside0 (tricklelaw43_FrameStream.j2 kq l0 x5_2 t293 x50_14 = some r) ∧ Aside0 (kq ≤ k2) ∧ Aside0 (Kd.R (Kd.int .u8) 5 wc w.heap.size (fun _ => True) v294 t293) ∧ Aside0 (Below w.heap.size w wc))
                case first =>
                  have H := HC15.out
                  clear HC15
                  replace H := Option.bind_eq_some_iff.mp H
                  obtain ⟨t296, A170, H⟩ := H
                  replace H : (if (strOfNums t293).toList = (strOfNums t296).toList then ((frame_Split.f k2 l1).bind fun t299 => ((trickleref43_Split.f k2 l1).bind fun t302 => ((trickleref03_SamePackets.f k2 t299 t302).bind fun t305 => (tricklelaw43_FrameStream.j2 k2 l0 x5_2 t293 (!t305))))) else (tricklelaw43_FrameStream.j2 k2 l0 x5_2 t293 true)) = some r := H
                  have A17 := Aside0.mk A170
                  clear A170
                  by_cases c18 : (strOfNums t293).toList = (strOfNums t296).toList
                  · rw [if_pos c18] at H
                    have c18b0 : ((strOfNums t293).toList == (strOfNums t296).toList) = true := beq_iff_eq.mpr c18
                    have c18b1 : ((strOfNums t293).toList != (strOfNums t296).toList) = false := bne_eq_false_iff_eq.mpr c18
                    clear c18
                    (first | rw [c18b0] | (simp only [i64_w, i32_w]; rw [c18b0]) | skip)
                    replace H := Option.bind_eq_some_iff.mp H
                    obtain ⟨t299, A190, H⟩ := H
                    replace H : ((trickleref43_Split.f k2 l1).bind fun t302 => ((trickleref03_SamePackets.f k2 t299 t302).bind fun t305 => (tricklelaw43_FrameStream.j2 k2 l0 x5_2 t293 (!t305)))) = some r := H
                    have A19 := Aside0.mk A190
                    clear A190
                    replace H := Option.bind_eq_some_iff.mp H
                    obtain ⟨t302, A200, H⟩ := H
                    replace H : ((trickleref03_SamePackets.f k2 t299 t302).bind fun t305 => (tricklelaw43_FrameStream.j2 k2 l0 x5_2 t293 (!t305))) = some r := H
                    have A20 := Aside0.mk A200
                    clear A200
                    replace H := Option.bind_eq_some_iff.mp H
                    obtain ⟨t305, A210, H⟩ := H
                    replace H : (tricklelaw43_FrameStream.j2 k2 l0 x5_2 t293 (!t305)) = some r := H
                    have A21 := Aside0.mk A210
                    clear A210
                    have H' := Aside0.mk H
                    clear H
                    try go_wp2
                    have n0_ := Aside0.mk (Kd.R_drew HO295.out)
                    have n1_ := Aside0.mk (below_drew1 HB.out)
                    clear HO295
                    clear HB
                    have HO295 := n0_
                    have HB := n1_
                    clear n0_ n1_
                    have hcv23 := own_string (P := Tryd.prog) Tryd.underlying24 Tryd.underlying5 Tryd.underlying9 (Kd.own_of_R HO295.out)
                    refine start_ (n := 14) (S := fun w' => (convert 24 9 v294).run Tryd.prog w' = .ok (.string (strOfNums t293)) w') (ds := []) #[false, false, false, false, false, false, false, false, false, false, false, false, false, false] (by kernel_rfl) rfl rfl (conv_A (Kd.R_drew HO295.out)) (fun hHeld => ?_); refine with_tabW tricklelaw43_FrameStream.tab14 tricklelaw43_FrameStream.bits14 (fun HT_ HW_ => ?_)
                    generalize w16.drew = w22 at HO295 HB hHeld ⊢
                    refine pure_ (i := 0) (N := some 37) (v := ?_) (a' := ?_) #[true, false, false, false, false, false, false, false, false, false, false, false, false, false] rfl rfl (any_of HT_.out (by kernel_rfl)) (fun _ _ _ h => h) (Or.inl ⟨by rfl, ?_⟩) ?_ ?_
                    rotate_left
                    · intro w'
                      go_simp
                      with_reducible rfl
                    rotate_left
                    · simp only [Act.put, List.setIfInBounds_toArray, List.set_cons_zero, List.set_cons_succ, i64_w, i32_w]
                      rfl
                    refine take_ (i := 1) (N := some 38) (v := ?_) (a' := ?_) #[true, true, false, false, false, false, false, false, false, false, false, false, false, false] rfl rfl (take_ofW HT_.out HW_.out (by kernel_rfl)) (fun _ _ _ h => h) (Or.inl ⟨by rfl, ?_⟩) hHeld ?_ ?_
                    rotate_left
                    · rintro w' s0
                      go_simp
                      with_reducible rfl
                    rotate_left
                    · simp only [Act.put, List.setIfInBounds_toArray, List.set_cons_zero, List.set_cons_succ, i64_w, i32_w]
                      rfl
                    refine pure_ (i := 2) (N := some 39) (v := ?_) (a' := ?_) #[true, true, true, false, false, false, false, false, false, false, false, false, false, false] rfl rfl (any_of HT_.out (by kernel_rfl)) (fun _ _ _ h => h) (Or.inl ⟨by rfl, ?_⟩) ?_ ?_
                    rotate_left
                    · intro w'
                      go_simp
                      with_reducible rfl
                    rotate_left
                    · simp only [Act.put, List.setIfInBounds_toArray, List.set_cons_zero, List.set_cons_succ, i64_w, i32_w]
                      rfl
                    refine one_ (i := 3) (N := some 40) #[true, true, true, true, false, false, false, false, false, false, false, false, false, false] rfl rfl (one_of HT_.out (by kernel_rfl)) (by decide) (fun K hK => ?_)
                    refine goes_ Tryd.func36 (by kernel_rfl) rfl #[.slice A0 l0.length c0] (by rfl) rfl rfl (by (try simp only [List.map_toArray, List.map_cons, List.map_nil]); first | done | rfl | (simp only [List.length_drop, List.length_take]; rfl)) ?_
                    with_reducible refine (trickleref43_Stream.calls k2 _ _ l0 t296 _ ?side1 ?side2 A17.out).mono ?_
                    (case side1 => repeat (first | exact (Kd.C_below HR0.out HB.out) | (with_reducible refine Kd.C_alloc ?_ _) | (with_reducible refine Kd.C_drewN ?_ _) | (with_reducible refine Kd.C_drew ?_)))
                    (case side2 => exact HC0.out)
                    rintro e w24 ⟨v297, rfl, ho0, hb⟩
                    refine ⟨_, rfl, ?_⟩
                    have n0_ := Aside0.mk (Kd.R_elder' (by (with_reducible repeat (first | apply Kd.R_alloc | apply Kd.R_drewN | apply Kd.R_drew)); exact HO295.out) (Kd.R_base ho0) hb)
                    have n1_ := Aside0.mk (Kd.R_lower (Kd.R_new' ho0 (Kd.R_lt (by (with_reducible repeat (first | apply Kd.R_alloc | apply Kd.R_drewN | apply Kd.R_drew)); exact HO295.out))) (below_size (by repeat (first | (with_reducible first | exact HB.out | apply below_alloc | apply pw_below_drewN | apply below_drew1) | exact HB.out))))
                    have n2_ := Aside0.mk (below_step (by repeat (first | (with_reducible first | exact HB.out | apply below_alloc | apply pw_below_drewN | apply below_drew1) | exact HB.out)) hb)
                    clear HO295
                    clear HB
                    have HO295 := n0_
                    have HO298 := n1_
                    have HB := n2_
                    clear n0_ n1_ n2_
                    (try clear hb)
                    (try clear hb2)
                    (try clear hk)
                    (try clear hi)
                    (try clear ho0)
                    refine hK.out _ _ (conv_A HO295.out) (fun hHeld => ?_)
                    clear hK K
                    refine norm_ (a' := ?_) ?_ ?_
                    rotate_left
                    · show Act.put _ (some 40) _ = _
                      simp only [Act.put, List.setIfInBounds_toArray, List.set_cons_zero, List.set_cons_succ, i64_w, i32_w]
                      rfl
                    refine one_ (i := 4) (N := some 41) #[true, true, true, true, true, false, false, false, false, false, false, false, false, false] rfl rfl (one_of HT_.out (by kernel_rfl)) (by decide) (fun K hK => ?_)
                    have hcv25 := own_string (P := Tryd.prog) Tryd.underlying24 Tryd.underlying5 Tryd.underlying9 (Kd.own_of_R HO298.out)
                    refine value_ (w1 := ?_) (v := ?_) (by rfl) rfl ?_ ?_
                    rotate_left 2
                    · go_simp
                      constructor
                      · rfl
                      · rfl
                    clear hcv25
                    refine hK.out _ _ (conv_A HO295.out) (fun hHeld => ?_)
                    clear hK K
                    refine norm_ (a' := ?_) ?_ ?_
                    rotate_left
                    · show Act.put _ (some 41) _ = _
                      simp only [Act.put, List.setIfInBounds_toArray, List.set_cons_zero, List.set_cons_succ, i64_w, i32_w]
                      rfl
                    refine pure_ (i := 5) (N := some 42) (v := ?_) (a' := ?_) #[true, true, true, true, true, true, false, false, false, false, false, false, false, false] rfl rfl (any_of HT_.out (by kernel_rfl)) (fun _ _ _ h => h) (Or.inl ⟨by rfl, ?_⟩) ?_ ?_
                    rotate_left
                    · intro w'
                      go_simp
                      with_reducible rfl
                    rotate_left
                    · simp only [Act.put, List.setIfInBounds_toArray, List.set_cons_zero, List.set_cons_succ, i64_w, i32_w]
                      rfl
                    refine pure_ (i := 6) (N := some 43) (v := ?_) (a' := ?_) #[true, true, true, true, true, true, true, false, false, false, false, false, false, false] rfl rfl (any_of HT_.out (by kernel_rfl)) (fun _ _ _ h => h) (Or.inl ⟨by rfl, ?_⟩) ?_ ?_
                    rotate_left
                    · intro w'
                      go_simp
                      with_reducible rfl
                    rotate_left
                    · simp only [Act.put, List.setIfInBounds_toArray, List.set_cons_zero, List.set_cons_succ, i64_w, i32_w]
                      rfl
                    refine pure_ (i := 7) (N := some 44) (v := ?_) (a' := ?_) #[true, true, true, true, true, true, true, true, false, false, false, false, false, false] rfl rfl (any_of HT_.out (by kernel_rfl)) (fun _ _ _ h => h) (Or.inl ⟨by rfl, ?_⟩) ?_ ?_
                    rotate_left
                    · intro w'
                      go_simp
                      with_reducible rfl
                    rotate_left
                    · simp only [Act.put, List.setIfInBounds_toArray, List.set_cons_zero, List.set_cons_succ, i64_w, i32_w]
                      rfl
                    refine pure_ (i := 9) (N := some 46) (v := ?_) (a' := ?_) #[true, true, true, true, true, true, true, true, false, true, false, false, false, false] rfl rfl (any_of HT_.out (by kernel_rfl)) (fun _ _ _ h => h) (Or.inl ⟨by rfl, ?_⟩) ?_ ?_
                    rotate_left
                    · intro w'
                      go_simp
                      with_reducible rfl
                    rotate_left
                    · simp only [Act.put, List.setIfInBounds_toArray, List.set_cons_zero, List.set_cons_succ, i64_w, i32_w]
                      rfl
                    refine one_ (i := 8) (N := some 45) #[true, true, true, true, true, true, true, true, true, true, false, false, false, false] rfl rfl (one_of HT_.out (by kernel_rfl)) (by decide) (fun K hK => ?_)
                    refine goes_ Tryd.func38 (by kernel_rfl) rfl #[.slice A1 l1.length c1] (by rfl) rfl rfl (by (try simp only [List.map_toArray, List.map_cons, List.map_nil]); first | done | rfl | (simp only [List.length_drop, List.length_take]; rfl)) ?_
                    with_reducible refine (frame_Split.calls k2 _ _ l1 t299 _ ?side1 ?side2 A19.out).mono ?_
                    (case side1 => repeat (first | exact (Kd.C_below HR1.out HB.out) | (with_reducible refine Kd.C_alloc ?_ _) | (with_reducible refine Kd.C_drewN ?_ _) | (with_reducible refine Kd.C_drew ?_)))
                    (case side2 => exact HC1.out)
                    rintro e w27 ⟨v300, rfl, ho0, hb⟩
                    refine ⟨_, rfl, ?_⟩
                    have n0_ := Aside0.mk (Kd.R_below (by (with_reducible repeat (first | apply Kd.R_alloc | apply Kd.R_drewN | apply Kd.R_drew)); exact HO295.out) hb)
                    have n1_ := Aside0.mk (Kd.R_below (by (with_reducible repeat (first | apply Kd.R_alloc | apply Kd.R_drewN | apply Kd.R_drew)); exact HO298.out) hb)
                    have n2_ := Aside0.mk (Kd.S_lower (Kd.S_new' (Kd.S_new' ho0 (Kd.R_lt (by (with_reducible repeat (first | apply Kd.R_alloc | apply Kd.R_drewN | apply Kd.R_drew)); exact HO295.out))) (Kd.R_lt (by (with_reducible repeat (first | apply Kd.R_alloc | apply Kd.R_drewN | apply Kd.R_drew)); exact HO298.out))) (below_size (by repeat (first | (with_reducible first | exact HB.out | apply below_alloc | apply pw_below_drewN | apply below_drew1) | exact HB.out))))
                    have n3_ := Aside0.mk (below_step (by repeat (first | (with_reducible first | exact HB.out | apply below_alloc | apply pw_below_drewN | apply below_drew1) | exact HB.out)) hb)
                    clear HO295
                    clear HO298
                    clear HB
                    have HO295 := n0_
                    have HO298 := n1_
                    have HO301 := n2_
                    have HB := n3_
                    clear n0_ n1_ n2_ n3_
                    (try clear hb)
                    (try clear hb2)
                    (try clear hk)
                    (try clear hi)
                    (try clear ho0)
                    refine hK.out _ _ (conv_A HO295.out) (fun hHeld => ?_)
                    clear hK K
                    refine norm_ (a' := ?_) ?_ ?_
                    rotate_left
                    · show Act.put _ (some 45) _ = _
                      simp only [Act.put, List.setIfInBounds_toArray, List.set_cons_zero, List.set_cons_succ, i64_w, i32_w]
                      rfl
                    refine one_ (i := 10) (N := some 47) #[true, true, true, true, true, true, true, true, true, true, true, false, false, false] rfl rfl (one_of HT_.out (by kernel_rfl)) (by decide) (fun K hK => ?_)
                    refine goes_ Tryd.func39 (by kernel_rfl) rfl #[.slice A1 l1.length c1] (by rfl) rfl rfl (by (try simp only [List.map_toArray, List.map_cons, List.map_nil]); first | done | rfl | (simp only [List.length_drop, List.length_take]; rfl)) ?_
                    with_reducible refine (trickleref43_Split.calls k2 _ _ l1 t302 _ ?side1 ?side2 A20.out).mono ?_
                    (case side1 => repeat (first | exact (Kd.C_below HR1.out HB.out) | (with_reducible refine Kd.C_alloc ?_ _) | (with_reducible refine Kd.C_drewN ?_ _) | (with_reducible refine Kd.C_drew ?_)))
                    (case side2 => exact HC1.out)
                    rintro e w28 ⟨v303, rfl, ho0, hb⟩
                    refine ⟨_, rfl, ?_⟩
                    have n0_ := Aside0.mk (Kd.R_below (by (with_reducible repeat (first | apply Kd.R_alloc | apply Kd.R_drewN | apply Kd.R_drew)); exact HO295.out) hb)
                    have n1_ := Aside0.mk (Kd.R_below (by (with_reducible repeat (first | apply Kd.R_alloc | apply Kd.R_drewN | apply Kd.R_drew)); exact HO298.out) hb)
                    have n2_ := Aside0.mk (Kd.S_elder' (by (with_reducible repeat (first | apply Kd.S_alloc | apply Kd.S_drewN | apply Kd.S_drew)); exact HO301.out) (Kd.S_base ho0) hb)
                    have n3_ := Aside0.mk (Kd.S_lower (Kd.S_new' (Kd.S_new' (Kd.S_new' ho0 (Kd.R_lt (by (with_reducible repeat (first | apply Kd.R_alloc | apply Kd.R_drewN | apply Kd.R_drew)); exact HO295.out))) (Kd.R_lt (by (with_reducible repeat (first | apply Kd.R_alloc | apply Kd.R_drewN | apply Kd.R_drew)); exact HO298.out))) (Kd.S_lt (by (with_reducible repeat (first | apply Kd.S_alloc | apply Kd.S_drewN | apply Kd.S_drew)); exact HO301.out))) (below_size (by repeat (first | (with_reducible first | exact HB.out | apply below_alloc | apply pw_below_drewN | apply below_drew1) | exact HB.out))))
                    have n4_ := Aside0.mk (below_step (by repeat (first | (with_reducible first | exact HB.out | apply below_alloc | apply pw_below_drewN | apply below_drew1) | exact HB.out)) hb)
                    clear HO295
                    clear HO298
                    clear HO301
                    clear HB
                    have HO295 := n0_
                    have HO298 := n1_
                    have HO301 := n2_
                    have HO304 := n3_
                    have HB := n4_
                    clear n0_ n1_ n2_ n3_ n4_
                    (try clear hb)
                    (try clear hb2)
                    (try clear hk)
                    (try clear hi)
                    (try clear ho0)
                    obtain ⟨Ao29, co29, eo29⟩ := Kd.S_slice HO301.out
                    (first | subst eo29 | (injection eo29 with f1_ f2_ f3_; have f4_ := f1_.symm; have f5_ := f3_.symm; clear f1_ f2_ f3_; subst f4_; subst f5_))
                    obtain ⟨Ao30, co30, eo30⟩ := Kd.S_slice HO304.out
                    (first | subst eo30 | (injection eo30 with f1_ f2_ f3_; have f4_ := f1_.symm; have f5_ := f3_.symm; clear f1_ f2_ f3_; subst f4_; subst f5_))
                    refine hK.out _ _ (conv_A HO295.out) (fun hHeld => ?_)
                    clear hK K
                    refine norm_ (a' := ?_) ?_ ?_
                    rotate_left
                    · show Act.put _ (some 47) _ = _
                      simp only [Act.put, List.setIfInBounds_toArray, List.set_cons_zero, List.set_cons_succ, i64_w, i32_w]
                      rfl
                    refine one_ (i := 11) (N := some 48) #[true, true, true, true, true, true, true, true, true, true, true, true, false, false] rfl rfl (one_of HT_.out (by kernel_rfl)) (by decide) (fun K hK => ?_)
                    refine goes_ Tryd.func37 (by kernel_rfl) rfl #[.slice Ao29 t299.length co29, .slice Ao30 t302.length co30] (by rfl) rfl rfl (by (try simp only [List.map_toArray, List.map_cons, List.map_nil]); first | done | rfl | (simp only [List.length_drop, List.length_take]; rfl)) ?_
                    with_reducible refine (trickleref03_SamePackets.calls k2 _ _ t299 _ _ t302 t305 _ ?side1 ?side2 ?side3 ?side4 A21.out).mono ?_
                    (case side1 => repeat (first | exact (Kd.S_reads' HO301.out).2.2 | (with_reducible refine Kd.C_alloc ?_ _) | (with_reducible refine Kd.C_drewN ?_ _) | (with_reducible refine Kd.C_drew ?_)))
                    (case side2 => exact (Kd.S_reads' HO301.out).2.1)
                    (case side3 => repeat (first | exact (Kd.S_reads' HO304.out).2.2 | (with_reducible refine Kd.C_alloc ?_ _) | (with_reducible refine Kd.C_drewN ?_ _) | (with_reducible refine Kd.C_drew ?_)))
                    (case side4 => exact (Kd.S_reads' HO304.out).2.1)
                    rintro e w' ⟨rfl, ⟨nd, rfl⟩⟩
                    refine ⟨_, rfl, ?_⟩
                    refine hK.out _ _ (conv_A HO295.out) (fun hHeld => ?_)
                    clear hK K
                    refine norm_ (a' := ?_) ?_ ?_
                    rotate_left
                    · show Act.put _ (some 48) _ = _
                      simp only [Act.put, List.setIfInBounds_toArray, List.set_cons_zero, List.set_cons_succ, i64_w, i32_w]
                      rfl
                    refine pure_ (i := 12) (N := some 49) (v := ?_) (a' := ?_) #[true, true, true, true, true, true, true, true, true, true, true, true, true, false] rfl rfl (any_of HT_.out (by kernel_rfl)) (fun _ _ _ h => h) (Or.inl ⟨by rfl, ?_⟩) ?_ ?_
                    rotate_left
                    · intro w'
                      go_simp
                      with_reducible rfl
                    rotate_left
                    · simp only [Act.put, List.setIfInBounds_toArray, List.set_cons_zero, List.set_cons_succ, i64_w, i32_w]
                      rfl
                    refine pure_ (i := 13) (N := some 50) (v := ?_) (a' := ?_) #[true, true, true, true, true, true, true, true, true, true, true, true, true, true] rfl rfl (any_of HT_.out (by kernel_rfl)) (fun _ _ _ h => h) (Or.inl ⟨by rfl, ?_⟩) ?_ ?_
                    rotate_left
                    · intro w'
                      go_simp
                      with_reducible rfl
                    rotate_left
                    · simp only [Act.put, List.setIfInBounds_toArray, List.set_cons_zero, List.set_cons_succ, i64_w, i32_w]
                      rfl
                    refine done_ (done_of HT_.out (by kernel_rfl)) ?_
                    try go_wp2
                    go_meet
                    case rel => exact ⟨_, (!t305), (by first | rfl | (simp; done) | (simp [*]; done)), H', ⟨by have := HJ4.out; have := HK2.out; first | omega | exact Nat.le_refl _⟩, ⟨by (with_reducible repeat (first | apply Kd.R_alloc | apply Kd.R_drewN | apply Kd.R_drew)); exact Kd.R_mono HO295.out (fun _ hk => trivial)⟩, ⟨by repeat (first | (with_reducible first | exact HB.out | apply below_alloc | apply pw_below_drewN | apply below_drew1) | exact HB.out)⟩⟩
                  · rw [if_neg c18] at H
                    have c18b0 : ((strOfNums t293).toList == (strOfNums t296).toList) = false := beq_eq_false_iff_ne.mpr c18
                    have c18b1 : ((strOfNums t293).toList != (strOfNums t296).toList) = true := bne_iff_ne.mpr c18
                    (first | rw [c18b0] | (simp only [i64_w, i32_w]; rw [c18b0]) | skip)
                    have H' := Aside0.mk H
                    clear H
                    try go_wp2
                    have n0_ := Aside0.mk (Kd.R_drew HO295.out)
                    have n1_ := Aside0.mk (below_drew1 HB.out)
                    clear HO295
                    clear HB
                    have HO295 := n0_
                    have HB := n1_
                    clear n0_ n1_
                    have hcv32 := own_string (P := Tryd.prog) Tryd.underlying24 Tryd.underlying5 Tryd.underlying9 (Kd.own_of_R HO295.out)
                    refine start_ (n := 14) (S := fun w' => (convert 24 9 v294).run Tryd.prog w' = .ok (.string (strOfNums t293)) w') (ds := []) #[false, false, false, false, false, false, false, false, false, false, false, false, false, false] (by kernel_rfl) rfl rfl (conv_A (Kd.R_drew HO295.out)) (fun hHeld => ?_); refine with_tabW tricklelaw43_FrameStream.tab14 tricklelaw43_FrameStream.bits14 (fun HT_ HW_ => ?_)
                    generalize w16.drew = w31 at HO295 HB hHeld ⊢
                    refine pure_ (i := 0) (N := some 37) (v := ?_) (a' := ?_) #[true, false, false, false, false, false, false, false, false, false, false, false, false, false] rfl rfl (any_of HT_.out (by kernel_rfl)) (fun _ _ _ h => h) (Or.inl ⟨by rfl, ?_⟩) ?_ ?_
                    rotate_left
                    · intro w'
                      go_simp
                      with_reducible rfl
                    rotate_left
                    · simp only [Act.put, List.setIfInBounds_toArray, List.set_cons_zero, List.set_cons_succ, i64_w, i32_w]
                      rfl
                    refine take_ (i := 1) (N := some 38) (v := ?_) (a' := ?_) #[true, true, false, false, false, false, false, false, false, false, false, false, false, false] rfl rfl (take_ofW HT_.out HW_.out (by kernel_rfl)) (fun _ _ _ h => h) (Or.inl ⟨by rfl, ?_⟩) hHeld ?_ ?_
                    rotate_left
                    · rintro w' s0
                      go_simp
                      with_reducible rfl
                    rotate_left
                    · simp only [Act.put, List.setIfInBounds_toArray, List.set_cons_zero, List.set_cons_succ, i64_w, i32_w]
                      rfl
                    refine pure_ (i := 2) (N := some 39) (v := ?_) (a' := ?_) #[true, true, true, false, false, false, false, false, false, false, false, false, false, false] rfl rfl (any_of HT_.out (by kernel_rfl)) (fun _ _ _ h => h) (Or.inl ⟨by rfl, ?_⟩) ?_ ?_
                    rotate_left
                    · intro w'
                      go_simp
                      with_reducible rfl
                    rotate_left
                    · simp only [Act.put, List.setIfInBounds_toArray, List.set_cons_zero, List.set_cons_succ, i64_w, i32_w]
                      rfl
                    refine one_ (i := 3) (N := some 40) #[true, true, true, true, false, false, false, false, false, false, false, false, false, false] rfl rfl (one_of HT_.out (by kernel_rfl)) (by decide) (fun K hK => ?_)
                    refine goes_ Tryd.func36 (by kernel_rfl) rfl #[.slice A0 l0.length c0] (by rfl) rfl rfl (by (try simp only [List.map_toArray, List.map_cons, List.map_nil]); first | done | rfl | (simp only [List.length_drop, List.length_take]; rfl)) ?_
                    with_reducible refine (trickleref43_Stream.calls k2 _ _ l0 t296 _ ?side1 ?side2 A17.out).mono ?_
                    (case side1 => repeat (first | exact (Kd.C_below HR0.out HB.out) | (with_reducible refine Kd.C_alloc ?_ _) | (with_reducible refine Kd.C_drewN ?_ _) | (with_reducible refine Kd.C_drew ?_)))
                    (case side2 => exact HC0.out)
                    rintro e w33 ⟨v297, rfl, ho0, hb⟩
                    refine ⟨_, rfl, ?_⟩
                    have n0_ := Aside0.mk (Kd.R_elder' (by (with_reducible repeat (first | apply Kd.R_alloc | apply Kd.R_drewN | apply Kd.R_drew)); exact HO295.out) (Kd.R_base ho0) hb)
                    have n1_ := Aside0.mk (Kd.R_lower (Kd.R_new' ho0 (Kd.R_lt (by (with_reducible repeat (first | apply Kd.R_alloc | apply Kd.R_drewN | apply Kd.R_drew)); exact HO295.out))) (below_size (by repeat (first | (with_reducible first | exact HB.out | apply below_alloc | apply pw_below_drewN | apply below_drew1) | exact HB.out))))
                    have n2_ := Aside0.mk (below_step (by repeat (first | (with_reducible first | exact HB.out | apply below_alloc | apply pw_below_drewN | apply below_drew1) | exact HB.out)) hb)
                    clear HO295
                    clear HB
                    have HO295 := n0_
                    have HO298 := n1_
                    have HB := n2_
                    clear n0_ n1_ n2_
                    (try clear hb)
                    (try clear hb2)
                    (try clear hk)
                    (try clear hi)
                    (try clear ho0)
                    refine hK.out _ _ (conv_A HO295.out) (fun hHeld => ?_)
                    clear hK K
                    refine norm_ (a' := ?_) ?_ ?_
                    rotate_left
                    · show Act.put _ (some 40) _ = _
                      simp only [Act.put, List.setIfInBounds_toArray, List.set_cons_zero, List.set_cons_succ, i64_w, i32_w]
                      rfl
                    refine one_ (i := 4) (N := some 41) #[true, true, true, true, true, false, false, false, false, false, false, false, false, false] rfl rfl (one_of HT_.out (by kernel_rfl)) (by decide) (fun K hK => ?_)
                    have hcv34 := own_string (P := Tryd.prog) Tryd.underlying24 Tryd.underlying5 Tryd.underlying9 (Kd.own_of_R HO298.out)
                    refine value_ (w1 := ?_) (v := ?_) (by rfl) rfl ?_ ?_
                    rotate_left 2
                    · go_simp
                      constructor
                      · rfl
                      · rfl
                    clear hcv34
                    refine hK.out _ _ (conv_A HO295.out) (fun hHeld => ?_)
                    clear hK K
                    refine norm_ (a' := ?_) ?_ ?_
                    rotate_left
                    · show Act.put _ (some 41) _ = _
                      simp only [Act.put, List.setIfInBounds_toArray, List.set_cons_zero, List.set_cons_succ, i64_w, i32_w]
                      rfl
                    refine pure_ (i := 5) (N := some 42) (v := ?_) (a' := ?_) #[true, true, true, true, true, true, false, false, false, false, false, false, false, false] rfl rfl (any_of HT_.out (by kernel_rfl)) (fun _ _ _ h => h) (Or.inl ⟨by rfl, ?_⟩) ?_ ?_
                    rotate_left
                    · intro w'
                      go_simp
                      with_reducible rfl
                    rotate_left
                    · simp only [Act.put, List.setIfInBounds_toArray, List.set_cons_zero, List.set_cons_succ, i64_w, i32_w]
                      rfl
                    refine pure_ (i := 6) (N := some 43) (v := ?_) (a' := ?_) #[true, true, true, true, true, true, true, false, false, false, false, false, false, false] rfl rfl (any_of HT_.out (by kernel_rfl)) (fun _ _ _ h => h) (Or.inl ⟨by rfl, ?_⟩) ?_ ?_
                    rotate_left
                    · intro w'
                      go_simp
                      with_reducible rfl
                    rotate_left
                    · simp only [Act.put, List.setIfInBounds_toArray, List.set_cons_zero, List.set_cons_succ, i64_w, i32_w]
                      rfl
                    refine pure_ (i := 7) (N := some 44) (v := undef) (a' := ?_) #[true, true, true, true, true, true, true, true, false, false, false, false, false, false] rfl rfl (any_of HT_.out (by kernel_rfl)) (fun _ _ _ h => h) (Or.inr ⟨by rfl, rfl⟩) ?_ ?_
                    rotate_left
                    · simp only [Act.put, List.setIfInBounds_toArray, List.set_cons_zero, List.set_cons_succ, i64_w, i32_w]
                      rfl
                    refine pure_ (i := 8) (N := some 45) (v := undef) (a' := ?_) #[true, true, true, true, true, true, true, true, true, false, false, false, false, false] rfl rfl (any_of HT_.out (by kernel_rfl)) (fun _ _ _ h => h) (Or.inr ⟨by rfl, rfl⟩) ?_ ?_
                    rotate_left
                    · simp only [Act.put, List.setIfInBounds_toArray, List.set_cons_zero, List.set_cons_succ, i64_w, i32_w]
                      rfl
                    refine pure_ (i := 9) (N := some 46) (v := undef) (a' := ?_) #[true, true, true, true, true, true, true, true, true, true, false, false, false, false] rfl rfl (any_of HT_.out (by kernel_rfl)) (fun _ _ _ h => h) (Or.inr ⟨by rfl, rfl⟩) ?_ ?_
                    rotate_left
                    · simp only [Act.put, List.setIfInBounds_toArray, List.set_cons_zero, List.set_cons_succ, i64_w, i32_w]
                      rfl
                    refine pure_ (i := 10) (N := some 47) (v := undef) (a' := ?_) #[true, true, true, true, true, true, true, true, true, true, true, false, false, false] rfl rfl (any_of HT_.out (by kernel_rfl)) (fun _ _ _ h => h) (Or.inr ⟨by rfl, rfl⟩) ?_ ?_
                    rotate_left
                    · simp only [Act.put, List.setIfInBounds_toArray, List.set_cons_zero, List.set_cons_succ, i64_w, i32_w]
                      rfl
                    refine pure_ (i := 11) (N := some 48) (v := undef) (a' := ?_) #[true, true, true, true, true, true, true, true, true, true, true, true, false, false] rfl rfl (any_of HT_.out (by kernel_rfl)) (fun _ _ _ h => h) (Or.inr ⟨by rfl, rfl⟩) ?_ ?_
                    rotate_left
                    · simp only [Act.put, List.setIfInBounds_toArray, List.set_cons_zero, List.set_cons_succ, i64_w, i32_w]
                      rfl
                    refine pure_ (i := 12) (N := some 49) (v := undef) (a' := ?_) #[true, true, true, true, true, true, true, true, true, true, true, true, true, false] rfl rfl (any_of HT_.out (by kernel_rfl)) (fun _ _ _ h => h) (Or.inr ⟨by rfl, rfl⟩) ?_ ?_
                    rotate_left
                    · simp only [Act.put, List.setIfInBounds_toArray, List.set_cons_zero, List.set_cons_succ, i64_w, i32_w]
                      rfl
                    refine pure_ (i := 13) (N := some 50) (v := ?_) (a' := ?_) #[true, true, true, true, true, true, true, true, true, true, true, true, true, true] rfl rfl (any_of HT_.out (by kernel_rfl)) (fun _ _ _ h => h) (Or.inl ⟨by rfl, ?_⟩) ?_ ?_
                    rotate_left
                    · intro w'
                      go_simp
                      with_reducible rfl
                    rotate_left
                    · simp only [Act.put, List.setIfInBounds_toArray, List.set_cons_zero, List.set_cons_succ, i64_w, i32_w]
                      rfl
                    refine done_ (done_of HT_.out (by kernel_rfl)) ?_
                    try go_wp2
                    go_meet
                    case rel => exact ⟨_, (true), (by first | rfl | (simp; done) | (simp [*]; done)), H', ⟨by have := HJ4.out; have := HK2.out; first | omega | exact Nat.le_refl _⟩, ⟨by (with_reducible repeat (first | apply Kd.R_alloc | apply Kd.R_drewN | apply Kd.R_drew)); exact Kd.R_mono HO295.out (fun _ hk => trivial)⟩, ⟨by repeat (first | (with_reducible first | exact HB.out | apply below_alloc | apply pw_below_drewN | apply below_drew1) | exact HB.out)⟩⟩
                case rest =>
                  clear HC15
                  try clear c1
                  try clear c2
                  try clear p2
                  try clear q2
                  try clear hx2
                  try clear hcv2
                  try clear c3
                  try clear hcv3
                  try clear c4
                  try clear p6
                  try clear c7
                  try clear c7b0
                  try clear c7b1
                  try clear c8
                  try clear c9
                  try clear c9b0
                  try clear c10
                  try clear c10b0
                  try clear c11
                  try clear c11b0
                  try clear c12
                  try clear c12b0
                  try clear c12b1
                  try clear c13
                  try clear c18
                  try clear c18b0
                  try clear c18b1
                  try clear hcv23
                  try clear hcv25
                  try clear c29
                  try clear p29
                  try clear q29
                  try clear hx29
                  try clear hcv32
                  try clear hcv34
                  try clear c35
                  try clear hx292_0
                  try clear p2
                  try clear p292
                  try clear q292
                  obtain ⟨kq, x50_14, rfl, HA, HJ14, HO_8, HB⟩ := hcut
                  cases kq with
                  | zero => exact absurd HA.out (by simp [tricklelaw43_FrameStream.j2])
                  | succ kj14 =>
                    have H := HA.out
                    clear HA
                    simp only [tricklelaw43_FrameStream.j2] at H
                    by_cases c36 : x50_14 = true
                    · subst c36
                      have H1 : (some false) = some r := by rw [if_pos rfl] at H; exact H
                      clear H
                      have H := H1
                      clear H1
                      obtain rfl := Option.some.inj H
                      go_wp2
                      go_ret
                      exact ⟨by first | rfl | (simp [errW_none, errW_some] <;> rfl) | (simp [*, errW_none, errW_some] <;> rfl), by repeat (first | (with_reducible first | exact HB.out | apply below_alloc | apply pw_below_drewN | apply below_drew1) | exact HB.out)⟩
                    · replace c36 := Bool.eq_false_iff.mpr c36
                      subst c36
                      have H1 : (if x5_2 = true then (some true) else ((frame_Split.f kj14 t293).bind fun t306 => ((trickleref03_SamePackets.f kj14 t306 l0).bind fun t309 => (some t309)))) = some r := by rw [if_neg (show ¬ (false = true) by decide)] at H; exact H
                      clear H
                      have H := H1
                      clear H1
                      by_cases c37 : x5_2 = true
                      · subst c37
                        have H1 : (some true) = some r := by rw [if_pos rfl] at H; exact H
                        clear H
                        have H := H1
                        clear H1
                        obtain rfl := Option.some.inj H
                        go_wp2
                        go_ret
                        exact ⟨by first | rfl | (simp [errW_none, errW_some] <;> rfl) | (simp [*, errW_none, errW_some] <;> rfl), by repeat (first | (with_reducible first | exact HB.out | apply below_alloc | apply pw_below_drewN | apply below_drew1) | exact HB.out)⟩
                      · replace c37 := Bool.eq_false_iff.mpr c37
                        subst c37
                        have H1 : ((frame_Split.f kj14 t293).bind fun t306 => ((trickleref03_SamePackets.f kj14 t306 l0).bind fun t309 => (some t309))) = some r := by rw [if_neg (show ¬ (false = true) by decide)] at H; exact H
                        clear H
                        have H := H1
                        clear H1
                        replace H := Option.bind_eq_some_iff.mp H
                        obtain ⟨t306, A380, H⟩ := H
                        replace H : ((trickleref03_SamePackets.f kj14 t306 l0).bind fun t309 => (some t309)) = some r := H
                        have A38 := Aside0.mk A380
                        clear A380
                        replace H := Option.bind_eq_some_iff.mp H
                        obtain ⟨t309, A390, H⟩ := H
                        replace H : (some t309) = some r := H
                        have A39 := Aside0.mk A390
                        clear A390
                        obtain rfl := Option.some.inj H
                        obtain ⟨Ao40, co40, eo40⟩ := Kd.R_slice HO_8.out
                        subst eo40
                        go_wp2_with (first | (go_at_call 38; (with_reducible refine (frame_Split.calls kj14 _ _ t293 t306 _ ?side1 ?side2 A38.out).mono ?_); (case side1 => repeat (first | exact (Kd.R_reads' HO_8.out).2.2 | (with_reducible refine Kd.C_alloc ?_ _) | (with_reducible refine Kd.C_drewN ?_ _) | (with_reducible refine Kd.C_drew ?_))); (case side2 => exact (Kd.R_reads' HO_8.out).2.1); rintro e w41 ⟨v307, rfl, ho0, hb⟩; have n0_ := Aside0.mk (Kd.R_below (by (with_reducible repeat (first | apply Kd.R_alloc | apply Kd.R_drewN | apply Kd.R_drew)); exact HO_8.out) hb); have n1_ := Aside0.mk (Kd.S_lower (Kd.S_new' ho0 (Kd.R_lt (by (with_reducible repeat (first | apply Kd.R_alloc | apply Kd.R_drewN | apply Kd.R_drew)); exact HO_8.out))) (below_size (by repeat (first | (with_reducible first | exact HB.out | apply below_alloc | apply pw_below_drewN | apply below_drew1) | exact HB.out)))); have n2_ := Aside0.mk (below_step (by repeat (first | (with_reducible first | exact HB.out | apply below_alloc | apply pw_below_drewN | apply below_drew1) | exact HB.out)) hb); clear HO_8; clear HB; have HO_8 := n0_; have HO308 := n1_; have HB := n2_; clear n0_ n1_ n2_; (try clear hb); (try clear hb2); (try clear hk); (try clear hi); (try clear ho0); obtain ⟨Ao42, co42, eo42⟩ := Kd.S_slice HO308.out; subst eo42) | (go_at_call 37; (with_reducible refine (trickleref03_SamePackets.calls kj14 _ _ t306 _ _ l0 t309 _ ?side1 ?side2 ?side3 ?side4 A39.out).mono ?_); (case side1 => repeat (first | exact (Kd.S_reads' HO308.out).2.2 | (with_reducible refine Kd.C_alloc ?_ _) | (with_reducible refine Kd.C_drewN ?_ _) | (with_reducible refine Kd.C_drew ?_))); (case side2 => exact (Kd.S_reads' HO308.out).2.1); (case side3 => repeat (first | exact (Kd.C_below HR0.out HB.out) | (with_reducible refine Kd.C_alloc ?_ _) | (with_reducible refine Kd.C_drewN ?_ _) | (with_reducible refine Kd.C_drew ?_))); (case side4 => exact HC0.out); rintro e w' ⟨rfl, ⟨nd, rfl⟩⟩))
                        go_ret
                        exact ⟨by first | rfl | (simp [errW_none, errW_some] <;> rfl) | (simp [*, errW_none, errW_some] <;> rfl), by repeat (first | (with_reducible first | exact HB.out | apply below_alloc | apply pw_below_drewN | apply below_drew1) | exact HB.out)⟩
  · replace c4 := Bool.eq_false_iff.mpr c4
    subst c4
    have H1 : (some false) = some r := by rw [if_neg (show ¬ (false = true) by decide)] at H; exact H
    clear H
    have H := H1
    clear H1
    obtain rfl := Option.some.inj H
    go_enter Tryd.func10, Tryd.ntmps10
    go_wp2_with (first | ((with_reducible refine gate_callee (f := 11) rfl ?_); refine goesL_ (some 9) rfl rfl Tryd.func11 (by kernel_rfl) rfl #[] rfl (by (try simp only [List.map_toArray, List.map_cons, List.map_nil]); first | done | rfl | (simp only [List.length_drop, List.length_take]; rfl)) ?_; (with_reducible refine (tricklelaw43_wakes.calls k  false _ ?side1 A3.out).mono ?_); (case side1 => refine GW.below HG.out ?_; repeat (first | (with_reducible first | exact HB.out | apply below_alloc | apply pw_below_drewN | apply below_drew1) | exact HB.out)); rintro e w43 ⟨rfl, hb⟩; refine ⟨_, rfl, ?_⟩; have n0_ := Aside0.mk (below_step (by repeat (first | (with_reducible first | exact HB.out | apply below_alloc | apply pw_below_drewN | apply below_drew1) | exact HB.out)) hb); clear HB; have HB := n0_; clear n0_; (try clear hb); (try clear hb2); (try clear hk); (try clear hi)))
    go_ret
    exact ⟨by first | rfl | (simp [errW_none, errW_some] <;> rfl) | (simp [*, errW_none, errW_some] <;> rfl), by repeat (first | (with_reducible first | exact HB.out | apply below_alloc | apply pw_below_drewN | apply below_drew1) | exact HB.out)⟩

end Go.Proofs.YtfhnpphceeoeeaaDoor.PX
-- Written by a program of this session (wip/xprint.py, over the kit's print tool). Lean checks it.
namespace Go.Proofs.YtfhnpphceeoeeaaDoor.PX
open Go.RowKit Go.Proofs.YtfhnpphceeoeeaaDoorW.PrintWords Go.Proofs.YtfhnpphceeoeeaaDoorW.PrintLast Go.Proofs.YtfhnpphceeoeeaaDoorW.PrintMore
attribute [local go_sem] max2_int min2_int max_two min_two max_three min_three max_four min_four   -- for this text's walks alone
set_option linter.unusedVariables false
set_option linter.unusedSimpArgs false

/-! ### frame_Chunked: function 32 -/
def frame_Chunked.T3 : Bool × List (List Nat × List Nat) := (true, [([], []), ([0], [0]), ([1], [1]), ([2], [2]), ([], []), ([4], [4]), ([5], [5]), ([6, 3], [6]), ([3, 7, 0, 1, 2, 3], [3]), ([7, 8, 0, 1, 2, 3, 4, 5, 6, 7, 8], [7]), ([9, 0, 1, 2, 3, 4, 5, 6, 7, 8, 9], [])])
def frame_Chunked.B3 : List Nat := [0, 1, 3, 7, 0, 16, 48, 127, 255, 511, 1023]
theorem frame_Chunked.tab3 : rtab .any (opsOf Tryd.f32 3) = frame_Chunked.T3 := by kernel_rfl
theorem frame_Chunked.bits3 : waitsOk frame_Chunked.T3.2 frame_Chunked.B3 = true := by kernel_rfl
end Go.Proofs.YtfhnpphceeoeeaaDoor.PX
/- Frames in plain words, 2: the example; chunks. -/
namespace Go.Proofs.YtfhnpphceeoeeaaDoor.PX
open Go.RowKit Go.Proofs.YtfhnpphceeoeeaaDoorW.PrintWords Go.Proofs.YtfhnpphceeoeeaaDoorW.PrintLast Go.Proofs.YtfhnpphceeoeeaaDoorW.PrintMore
set_option linter.unusedVariables false
set_option linter.unusedSimpArgs false
theorem wakes43 : Ev (fun k => tricklelaw43_wakes.f k) true := Ev.of (k := 120) (fun k => tricklelaw43_wakes.mono k) (by kernel_rfl)
end Go.Proofs.YtfhnpphceeoeeaaDoor.PX
/- FrameStream in plain words: Stream and Split give what is specified; Split is the inverse of Stream. -/
namespace Go.Proofs.YtfhnpphceeoeeaaDoor.Pure
open Go.RowKit Go.Proofs.YtfhnpphceeoeeaaDoor.PX Go.Proofs.YtfhnpphceeoeeaaDoorW.PrintWords Go.Proofs.YtfhnpphceeoeeaaDoorW.PrintLast
set_option linter.unusedVariables false
theorem tail_ev (ls : List (List Int)) (b : List Int) (hn : ls.length ≤ 12) (hb : ∀ p ∈ ls, Bytes p ∧ p.length ≤ 100) (hbb : Bytes b) (hbn : b.length ≤ 600) (long : Bool) (hl : long = false → ∀ p ∈ ls, p.length ≤ 47) :
    Ev (fun k => (frame_Stream.f k ls).bind fun t293 => ((trickleref43_Stream.f k ls).bind fun t296 => (if (strOfNums t293).toList = (strOfNums t296).toList then ((frame_Split.f k b).bind fun t299 => ((trickleref43_Split.f k b).bind fun t302 => ((trickleref03_SamePackets.f k t299 t302).bind fun t305 => (tricklelaw43_FrameStream.j2 k ls long t293 (!t305))))) else (tricklelaw43_FrameStream.j2 k ls long t293 true)))) true := by
  have hb' : ∀ p ∈ ls, Bytes p ∧ p.length ≤ 1000 := fun p hp => ⟨(hb p hp).1, by have := (hb p hp).2; omega⟩
  refine Ev.bind (stream_ev ls (by omega) hb') (Ev.bind (rstream_ev ls (by omega) hb') (Ev.pos rfl ?_))
  refine Ev.bind (split_ev b hbb (by omega)) (Ev.bind (rsplit_ev b hbb (by omega)) (Ev.bind (same_ev _ ?_) ?_))
  · have := splS_len b [] []
    rw [List.length_nil] at this
    omega
  refine Ev.step (fun k => by rw [tricklelaw43_FrameStream.j2]) (Ev.neg (by decide) ?_)
  cases long with
  | true => exact Ev.pos rfl (Ev.now _)
  | false =>
    refine Ev.neg (by decide) ?_
    have hlen : ∀ (l : List (List Int)), (∀ p ∈ l, Bytes p ∧ p.length ≤ 100) → (l.flatMap cob).length ≤ 202 * l.length := by
      intro l
      induction l with
      | nil => intro _; simp
      | cons p l ih =>
        intro h
        have h1 := ih (fun q hq => h q (by simp [hq]))
        have h2 := cob_len p
        have h3 := (h p (by simp)).2
        rw [List.flatMap_cons, List.length_append, List.length_cons]
        omega
    have hby : Bytes (ls.flatMap cob) := fun x hx => by
      obtain ⟨p, hp, hx⟩ := List.mem_flatMap.1 hx
      exact enc_bytesC (p.length + 1) p (hb p hp).1 x hx
    refine Ev.bind (split_ev _ hby (by have := hlen ls hb; omega)) ?_
    rw [splS_stream ls [] (hl rfl), List.nil_append]
    exact Ev.bind (same_ev ls (by omega)) (Ev.now _)
theorem loop_ev (ls : List (List Int)) (b : List Int) (hn : ls.length ≤ 12) (hb : ∀ p ∈ ls, Bytes p) (hbb : Bytes b) (hbn : b.length ≤ 600) : ∀ (d j : Nat) (long : Bool), j + d = ls.length → (∀ p ∈ ls.take j, p.length ≤ 100) → (long = false → ∀ p ∈ ls.take j, p.length ≤ 47) →
    Ev (fun k => tricklelaw43_FrameStream.l0 k ls b long ls (ls.length : Int) (j : Int)) true
  | 0, j, long, hj, h100, h47 => by
    rw [List.take_of_length_le (by omega)] at h100 h47
    refine Ev.step (fun k => by rw [tricklelaw43_FrameStream.l0]) (Ev.neg (by omega) ?_)
    exact tail_ev ls b hn (fun p hp => ⟨hb p hp, h100 p hp⟩) hbb hbn long h47
  | d + 1, j, long, hj, h100, h47 => by
    have hjl : j < ls.length := by omega
    have w : wrap64 ((j : Int) + 1) = ((j + 1 : Nat) : Int) := wrap_nat hjl (by omega)
    have mem : ∀ p ∈ ls.take (j + 1), p ∈ ls.take j ∨ p = ls[j] := fun p hp => by
      rw [List.take_succ_eq_append_getElem hjl] at hp
      rcases List.mem_append.1 hp with h | h
      · exact .inl h
      · exact .inr (by simpa using h)
    refine Ev.step (fun k => by rw [tricklelaw43_FrameStream.l0]) ?_
    rw [rdL_nat ls j hjl, w]
    clear w
    refine Ev.pos (by omega) (Ev.pos (by omega) (Ev.pos (by omega) ?_))
    by_cases c100 : (ls[j].length : Int) > 100
    · exact Ev.pos c100 (Ev.now _)
    · refine Ev.neg c100 ?_
      have a100 : ∀ p ∈ ls.take (j + 1), p.length ≤ 100 := fun p hp => by
        rcases mem p hp with h | rfl
        · exact h100 p h
        · omega
      cases long with
      | true => exact Ev.pos rfl (loop_ev ls b hn hb hbb hbn d (j + 1) true (by omega) a100 (fun h => by cases h))
      | false =>
        refine Ev.neg (by decide) (loop_ev ls b hn hb hbb hbn d (j + 1) _ (by omega) a100 ?_)
        intro h p hp
        have h2 := of_decide_eq_false h
        rcases mem p hp with h3 | rfl
        · exact h47 rfl p h3
        · omega
theorem FrameStream (ls : List (List Int)) (b : List Int) (hb : ∀ p ∈ ls, ∀ x ∈ p, 0 ≤ x ∧ x ≤ 255) (hbb : ∀ x ∈ b, 0 ≤ x ∧ x ≤ 255) : ∃ k, tricklelaw43_FrameStream.f k ls b = some true := by
  have no : Ev (fun k => tricklelaw43_FrameStream.j0 k ls b true) true := Ev.step (fun k => by rw [tricklelaw43_FrameStream.j0]) (Ev.pos rfl (Ev.now _))
  refine Ev.rounds (Ev.congr (fun k => by rw [tricklelaw43_FrameStream.f]) (Ev.bind wakes43 (Ev.pos rfl ?_)))
  by_cases h1 : (ls.length : Int) > 12
  · exact Ev.pos h1 no
  refine Ev.neg h1 ?_
  by_cases h2 : (b.length : Int) > 600
  · rw [decide_eq_true h2]; exact no
  rw [decide_eq_false h2]
  refine Ev.step (fun k => by rw [tricklelaw43_FrameStream.j0]) (Ev.neg (by decide) ?_)
  exact loop_ev ls b (by omega) hb hbb (by omega) ls.length 0 false (by omega) (fun p hp => by simp at hp) (fun _ p hp => by simp at hp)
end Go.Proofs.YtfhnpphceeoeeaaDoor.Pure
/- The argument [][]byte, opened. -/
namespace Go.Proofs.YtfhnpphceeoeeaaDoor.PX
open Go.RowKit Go.Proofs.YtfhnpphceeoeeaaDoorW.PrintWords
theorem openBB (M : Nat) : OpensAt M Tryd.prog (Kd.slice 5 (Kd.int .u8)) 24 (rSl (rInt .u8)) := OpensAt.sl Tryd.underlying24 (by kernel_rfl) (openB M)
theorem wfBB {H : Type} {e : List Int} {y : DataW H} (h : rSl (rInt .u8) H e y) : ∀ x ∈ e, 0 ≤ x ∧ x ≤ 255 := fun x hx => by
  obtain ⟨z, hz⟩ := rSl_all h x hx
  exact wfB hz
end Go.Proofs.YtfhnpphceeoeeaaDoor.PX
