/- Parts of the proof, merged in build order: PXx11, Cr2, PXx32, Cr3, PXx19. -/
import Derived.Test.YtfhnpphceeoeeaaDoorV1
import Derived.Test.YtfhnpphceeoeeaaDoorV4
import Derived.Test.YtfhnpphceeoeeaaDoorV3
import Derived.Test.YtfhnpphceeoeeaaDoorV2
-- Written by a program of this session (wip/xprint.py, over the kit's print tool). Lean checks it.
namespace Go.Proofs.YtfhnpphceeoeeaaDoor.PX
open Go.RowKit Go.Proofs.YtfhnpphceeoeeaaDoorW.PrintWords Go.Proofs.YtfhnpphceeoeeaaDoorW.PrintLast Go.Proofs.YtfhnpphceeoeeaaDoorW.PrintMore
attribute [local go_sem] max2_int min2_int max_two min_two max_three min_three max_four min_four   -- for this text's walks alone
set_option linter.unusedVariables false
set_option linter.unusedSimpArgs false

/-! ### tricklelaw43_wakes: function 11 -/
def tricklelaw43_wakes.f (k : Nat)  : Option (Bool) := (frame_Data.f k 5 (-2)).bind fun bt160 => ((frame_Encode.f k bt160.1 bt160.2.1 bt160.2.2).bind fun bt165 => (if bt165.2 = 0 then (if (bt165.1.length : Int) = 9 then (if 7 ≤ (bt165.1.length : Int) then (if (strOfNums (bt165.1.take 7)).toList = ([1, 5, 0, 0, 0, 254, 255] : List UInt8) then ((frame_Data.f k 5 (-2)).bind fun bt173 => ((frame_Format.f bt173.1 bt173.2.1 bt173.2.2).bind fun t178 => (some (t178.toList == ([100, 97, 116, 97, 32, 53, 32, 102, 101, 102, 102] : List UInt8))))) else (some false)) else (none)) else (some false)) else (some false)))
theorem tricklelaw43_wakes.mono : ∀ k, LeO (tricklelaw43_wakes.f k ) (tricklelaw43_wakes.f (k + 1) ) := by
  intro  k
  unfold tricklelaw43_wakes.f
  repeat' first
      | (with_reducible exact frame_Data.mono _ _ _)
      | (with_reducible exact frame_Encode.mono _ _ _ _)
      | (with_reducible exact LeO.refl _)
      | (with_reducible exact LeO.none _)
      | (with_reducible refine LeO.ite ?_ ?_)
      | (with_reducible refine LeO.bind ?_ (fun _ => ?_))
      | exact frame_Data.mono _ _ _
      | exact frame_Encode.mono _ _ _ _
      | exact LeO.none _
      | refine LeO.ite ?_ ?_
      | refine LeO.bind ?_ (fun _ => ?_)
set_option maxHeartbeats 8000000 in
set_option maxRecDepth 100000 in
theorem tricklelaw43_wakes.calls (k : Nat)  (r : Bool) (w : World) (hG : GW w) (h : tricklelaw43_wakes.f k  = some r) :
    Calls Tryd.prog 11 #[] w fun e w' => e = .returned (.bool r) ∧ Below w.heap.size w w' := by
  have HG := Aside0.mk hG
  clear hG
  have HB := Aside0.mk (Below.refl w.heap.size w)
  have H : ((frame_Data.f k 5 (-2)).bind fun bt160 => ((frame_Encode.f k bt160.1 bt160.2.1 bt160.2.2).bind fun bt165 => (if bt165.2 = 0 then (if (bt165.1.length : Int) = 9 then (if 7 ≤ (bt165.1.length : Int) then (if (strOfNums (bt165.1.take 7)).toList = ([1, 5, 0, 0, 0, 254, 255] : List UInt8) then ((frame_Data.f k 5 (-2)).bind fun bt173 => ((frame_Format.f bt173.1 bt173.2.1 bt173.2.2).bind fun t178 => (some (t178.toList == ([100, 97, 116, 97, 32, 53, 32, 102, 101, 102, 102] : List UInt8))))) else (some false)) else (none)) else (some false)) else (some false)))) = some r := h
  clear h
  replace H := Option.bind_eq_some_iff.mp H
  obtain ⟨⟨t160, t161, t162⟩, A10, H⟩ := H
  replace H : ((frame_Encode.f k t160 t161 t162).bind fun bt165 => (if bt165.2 = 0 then (if (bt165.1.length : Int) = 9 then (if 7 ≤ (bt165.1.length : Int) then (if (strOfNums (bt165.1.take 7)).toList = ([1, 5, 0, 0, 0, 254, 255] : List UInt8) then ((frame_Data.f k 5 (-2)).bind fun bt173 => ((frame_Format.f bt173.1 bt173.2.1 bt173.2.2).bind fun t178 => (some (t178.toList == ([100, 97, 116, 97, 32, 53, 32, 102, 101, 102, 102] : List UInt8))))) else (some false)) else (none)) else (some false)) else (some false))) = some r := H
  have A1 := Aside0.mk A10
  clear A10
  replace H := Option.bind_eq_some_iff.mp H
  obtain ⟨⟨t165, t168⟩, A20, H⟩ := H
  replace H : (if t168 = 0 then (if (t165.length : Int) = 9 then (if 7 ≤ (t165.length : Int) then (if (strOfNums (t165.take 7)).toList = ([1, 5, 0, 0, 0, 254, 255] : List UInt8) then ((frame_Data.f k 5 (-2)).bind fun bt173 => ((frame_Format.f bt173.1 bt173.2.1 bt173.2.2).bind fun t178 => (some (t178.toList == ([100, 97, 116, 97, 32, 53, 32, 102, 101, 102, 102] : List UInt8))))) else (some false)) else (none)) else (some false)) else (some false)) = some r := H
  have A2 := Aside0.mk A20
  clear A20
  by_cases c3 : t168 = 0
  · rw [if_pos c3] at H
    have c3b0 : (t168 == 0) = true := beq_iff_eq.mpr c3
    have c3b1 : (t168 != 0) = false := bne_eq_false_iff_eq.mpr c3
    clear c3
    by_cases c4 : (t165.length : Int) = 9
    · rw [if_pos c4] at H
      have c4b0 : ((t165.length : Int) == 9) = true := beq_iff_eq.mpr c4
      have c4b1 : ((t165.length : Int) != 9) = false := bne_eq_false_iff_eq.mpr c4
      clear c4
      by_cases c5 : 7 ≤ (t165.length : Int)
      · rw [if_pos c5] at H
        have c5b0 := eq_true c5
        have c5b1 : decide (7 ≤ (t165.length : Int)) = true := decide_eq_true c5
        clear c5
        obtain ⟨y169, hy169⟩ : ∃ y_ : List Int, y_ = (t165.take 7) := ⟨_, rfl⟩
        replace H : (if (strOfNums y169).toList = ([1, 5, 0, 0, 0, 254, 255] : List UInt8) then ((frame_Data.f k 5 (-2)).bind fun bt173 => ((frame_Format.f bt173.1 bt173.2.1 bt173.2.2).bind fun t178 => (some (t178.toList == ([100, 97, 116, 97, 32, 53, 32, 102, 101, 102, 102] : List UInt8))))) else (some false)) = some r := by first | (rw [hy169]; with_reducible exact H) | (have H2_ := (Option.bind_some _ _).symm.trans H; rw [hy169]; with_reducible exact H2_) | (have H2_ := (Option.bind_some _ _).symm.trans H; with_reducible exact H2_) | with_reducible exact H | (rw [hy169]; exact H) | exact H
        have Ny169 := Aside0.mk hy169
        clear hy169
        by_cases c6 : (strOfNums y169).toList = ([1, 5, 0, 0, 0, 254, 255] : List UInt8)
        · rw [if_pos c6] at H
          have c6b0 : ((strOfNums y169).toList == ([1, 5, 0, 0, 0, 254, 255] : List UInt8)) = true := beq_iff_eq.mpr c6
          have c6b1 : ((strOfNums y169).toList != ([1, 5, 0, 0, 0, 254, 255] : List UInt8)) = false := bne_eq_false_iff_eq.mpr c6
          clear c6
          replace H := Option.bind_eq_some_iff.mp H
          obtain ⟨⟨t173, t174, t175⟩, A70, H⟩ := H
          replace H : ((frame_Format.f t173 t174 t175).bind fun t178 => (some (t178.toList == ([100, 97, 116, 97, 32, 53, 32, 102, 101, 102, 102] : List UInt8)))) = some r := H
          have A7 := Aside0.mk A70
          clear A70
          replace H := Option.bind_eq_some_iff.mp H
          obtain ⟨t178, A80, H⟩ := H
          replace H : (some (t178.toList == ([100, 97, 116, 97, 32, 53, 32, 102, 101, 102, 102] : List UInt8))) = some r := H
          have A8 := Aside0.mk A80
          clear A80
          obtain rfl := Option.some.inj H
          go_enter Tryd.func11, Tryd.ntmps11
          go_wp2_with (first | ((with_reducible refine gate_callee (f := 13) rfl ?_); refine goesL_ (some 4) rfl rfl Tryd.func13 (by kernel_rfl) rfl #[.int .i64 5, .int .i16 (-2)] rfl (by (try simp only [List.map_toArray, List.map_cons, List.map_nil]); first | done | rfl | (simp only [List.length_drop, List.length_take]; rfl)) ?_; (with_reducible refine (frame_Data.calls k 5 (-2) t160 t161 t162 _ A1.out).mono ?_); rintro e w9 ⟨v163, rfl, ho0, hb⟩; refine ⟨_, rfl, ?_⟩; have n0_ := Aside0.mk (Kd.R_lower ho0 (below_size (by repeat (first | (with_reducible first | exact HB.out | apply below_alloc | apply pw_below_drewN | apply below_drew1) | exact HB.out)))); have n1_ := Aside0.mk (below_step (by repeat (first | (with_reducible first | exact HB.out | apply below_alloc | apply pw_below_drewN | apply below_drew1) | exact HB.out)) hb); clear HB; have HO164 := n0_; have HB := n1_; clear n0_ n1_; (try clear hb); (try clear hb2); (try clear hk); (try clear hi); (try clear ho0); obtain ⟨Ao10, co10, eo10⟩ := Kd.R_slice HO164.out; subst eo10) | ((with_reducible refine gate_callee (f := 20) rfl ?_); refine goesL_ (some 5) rfl rfl Tryd.func20 (by kernel_rfl) rfl #[.agg #[.int .i64 t160, .int .i64 t161, .slice Ao10 t162.length co10]] rfl (by (try simp only [List.map_toArray, List.map_cons, List.map_nil]); first | done | rfl | (simp only [List.length_drop, List.length_take]; rfl)) ?_; (with_reducible refine (frame_Encode.calls k t160 t161 _ _ t162 t165 t168 _ ?side1 ?side2 A2.out).mono ?_); (case side1 => repeat (first | exact (Kd.R_reads' HO164.out).2.2 | (with_reducible refine Kd.C_alloc ?_ _) | (with_reducible refine Kd.C_drewN ?_ _) | (with_reducible refine Kd.C_drew ?_))); (case side2 => exact (Kd.R_reads' HO164.out).2.1); rintro e w11 ⟨v166, rfl, ho0, hb⟩; refine ⟨_, rfl, ?_⟩; have n0_ := Aside0.mk (Kd.R_elder' (by (with_reducible repeat (first | apply Kd.R_alloc | apply Kd.R_drewN | apply Kd.R_drew)); exact HO164.out) (Kd.R_base ho0) hb); have n1_ := Aside0.mk (Kd.R_lower (Kd.R_new' ho0 (Kd.R_lt (by (with_reducible repeat (first | apply Kd.R_alloc | apply Kd.R_drewN | apply Kd.R_drew)); exact HO164.out))) (below_size (by repeat (first | (with_reducible first | exact HB.out | apply below_alloc | apply pw_below_drewN | apply below_drew1) | exact HB.out)))); have n2_ := Aside0.mk (below_step (by repeat (first | (with_reducible first | exact HB.out | apply below_alloc | apply pw_below_drewN | apply below_drew1) | exact HB.out)) hb); clear HO164; clear HB; have HO164 := n0_; have HO167 := n1_; have HB := n2_; clear n0_ n1_ n2_; (try clear hb); (try clear hb2); (try clear hk); (try clear hi); (try clear ho0); obtain ⟨Ao12, co12, eo12⟩ := Kd.R_slice HO167.out; subst eo12; have q13 : (7 : Int) ≤ ((t165.length : Int) : Int) := of_decide_eq_true (by first | (with_reducible assumption) | assumption); obtain ⟨i013, hi013, _, hsz13, _⟩ := info_parts info5; have hroom13 : t165.length ≤ co12 := (Kd.R_reads' HO167.out).2.1; have hC13 : Kd.C (Kd.int .u8) _ Ao12 t165.length t165 := (Kd.R_reads' HO167.out).2.2; have hcut13 := cut_to (P := Tryd.prog) 24 5 .i64 Tryd.underlying24 hi013 Ao12 t165.length co12 7 (by omega) q13 hroom13; have hr13 := Kd.C_take (m := 7) hC13 (by omega); have hy13 : y169.length = (7 : Int).toNat := (by rw [Ny169.out, List.length_take]; omega); rw [← Ny169.out] at hr13; rw [← hy13] at hcut13; have HR172 := Aside0.mk hr13; have HC172 := Aside0.mk (show y169.length ≤ co12 from by omega); clear hr13 hC13 hroom13 hi013 hsz13; have KY13 := Aside0.mk hy13; clear hy13; have KL13 := Aside0.mk (show 7 ≤ t165.length from by omega); replace q13 := eq_true q13; have hcv14 := Kd.C_string (P := Tryd.prog) (A := Ao12) (c := co12) Tryd.underlying24 Tryd.underlying5 Tryd.underlying9 (by repeat (first | (with_reducible exact HR172.out) | (with_reducible refine Kd.C_alloc ?_ _) | (with_reducible refine Kd.C_drewN ?_ _) | (with_reducible refine Kd.C_drew ?_) | exact HR172.out))) | (go_at_call 13; (with_reducible refine (frame_Data.calls k 5 (-2) t173 t174 t175 _ A7.out).mono ?_); rintro e w15 ⟨v176, rfl, ho0, hb⟩; have n0_ := Aside0.mk (Kd.R_elder' (by (with_reducible repeat (first | apply Kd.R_alloc | apply Kd.R_drewN | apply Kd.R_drew)); exact HO164.out) (Kd.R_base ho0) hb); have n1_ := Aside0.mk (Kd.R_elder' (by (with_reducible repeat (first | apply Kd.R_alloc | apply Kd.R_drewN | apply Kd.R_drew)); exact HO167.out) (Kd.R_base ho0) hb); have n2_ := Aside0.mk (Kd.R_lower (Kd.R_new' (Kd.R_new' ho0 (Kd.R_lt (by (with_reducible repeat (first | apply Kd.R_alloc | apply Kd.R_drewN | apply Kd.R_drew)); exact HO164.out))) (Kd.R_lt (by (with_reducible repeat (first | apply Kd.R_alloc | apply Kd.R_drewN | apply Kd.R_drew)); exact HO167.out))) (below_size (by repeat (first | (with_reducible first | exact HB.out | apply below_alloc | apply pw_below_drewN | apply below_drew1) | exact HB.out)))); have n3_ := Aside0.mk (Kd.C_below (by repeat (first | (with_reducible exact HR172.out) | (with_reducible refine Kd.C_alloc ?_ _) | (with_reducible refine Kd.C_drewN ?_ _) | (with_reducible refine Kd.C_drew ?_) | exact HR172.out)) hb); have n4_ := Aside0.mk (below_step (by repeat (first | (with_reducible first | exact HB.out | apply below_alloc | apply pw_below_drewN | apply below_drew1) | exact HB.out)) hb); clear HO164; clear HO167; clear HR172; clear HB; have HO164 := n0_; have HO167 := n1_; have HO177 := n2_; have HR172 := n3_; have HB := n4_; clear n0_ n1_ n2_ n3_ n4_; (try clear hb); (try clear hb2); (try clear hk); (try clear hi); (try clear ho0); obtain ⟨Ao16, co16, eo16⟩ := Kd.R_slice HO177.out; subst eo16) | (go_at_call 24; (with_reducible refine (frame_Format.calls t173 t174 _ _ t175 t178 _ ?side1 ?side2 ?side3 A8.out).mono ?_); (case side1 => repeat (first | exact (Kd.R_reads' HO177.out).2.2 | (with_reducible refine Kd.C_alloc ?_ _) | (with_reducible refine Kd.C_drewN ?_ _) | (with_reducible refine Kd.C_drew ?_))); (case side2 => exact (Kd.R_reads' HO177.out).2.1); (case side3 => refine GW.below HG.out ?_; repeat (first | (with_reducible first | exact HB.out | apply below_alloc | apply pw_below_drewN | apply below_drew1) | exact HB.out)); rintro e w17 ⟨rfl, hb⟩; have n0_ := Aside0.mk (Kd.R_below (by (with_reducible repeat (first | apply Kd.R_alloc | apply Kd.R_drewN | apply Kd.R_drew)); exact HO164.out) hb); have n1_ := Aside0.mk (Kd.R_below (by (with_reducible repeat (first | apply Kd.R_alloc | apply Kd.R_drewN | apply Kd.R_drew)); exact HO167.out) hb); have n2_ := Aside0.mk (Kd.R_below (by (with_reducible repeat (first | apply Kd.R_alloc | apply Kd.R_drewN | apply Kd.R_drew)); exact HO177.out) hb); have n3_ := Aside0.mk (Kd.C_below (by repeat (first | (with_reducible exact HR172.out) | (with_reducible refine Kd.C_alloc ?_ _) | (with_reducible refine Kd.C_drewN ?_ _) | (with_reducible refine Kd.C_drew ?_) | exact HR172.out)) hb); have n4_ := Aside0.mk (below_step (by repeat (first | (with_reducible first | exact HB.out | apply below_alloc | apply pw_below_drewN | apply below_drew1) | exact HB.out)) hb); clear HO164; clear HO167; clear HO177; clear HR172; clear HB; have HO164 := n0_; have HO167 := n1_; have HO177 := n2_; have HR172 := n3_; have HB := n4_; clear n0_ n1_ n2_ n3_ n4_; (try clear hb); (try clear hb2); (try clear hk); (try clear hi)))
          go_ret
          exact ⟨by first | rfl | (simp [errW_none, errW_some] <;> rfl) | (simp [*, errW_none, errW_some] <;> rfl), by repeat (first | (with_reducible first | exact HB.out | apply below_alloc | apply pw_below_drewN | apply below_drew1) | exact HB.out)⟩
        · rw [if_neg c6] at H
          have c6b0 : ((strOfNums y169).toList == ([1, 5, 0, 0, 0, 254, 255] : List UInt8)) = false := beq_eq_false_iff_ne.mpr c6
          have c6b1 : ((strOfNums y169).toList != ([1, 5, 0, 0, 0, 254, 255] : List UInt8)) = true := bne_iff_ne.mpr c6
          obtain rfl := Option.some.inj H
          go_enter Tryd.func11, Tryd.ntmps11
          go_wp2_with (first | ((with_reducible refine gate_callee (f := 13) rfl ?_); refine goesL_ (some 4) rfl rfl Tryd.func13 (by kernel_rfl) rfl #[.int .i64 5, .int .i16 (-2)] rfl (by (try simp only [List.map_toArray, List.map_cons, List.map_nil]); first | done | rfl | (simp only [List.length_drop, List.length_take]; rfl)) ?_; (with_reducible refine (frame_Data.calls k 5 (-2) t160 t161 t162 _ A1.out).mono ?_); rintro e w18 ⟨v163, rfl, ho0, hb⟩; refine ⟨_, rfl, ?_⟩; have n0_ := Aside0.mk (Kd.R_lower ho0 (below_size (by repeat (first | (with_reducible first | exact HB.out | apply below_alloc | apply pw_below_drewN | apply below_drew1) | exact HB.out)))); have n1_ := Aside0.mk (below_step (by repeat (first | (with_reducible first | exact HB.out | apply below_alloc | apply pw_below_drewN | apply below_drew1) | exact HB.out)) hb); clear HB; have HO164 := n0_; have HB := n1_; clear n0_ n1_; (try clear hb); (try clear hb2); (try clear hk); (try clear hi); (try clear ho0); obtain ⟨Ao19, co19, eo19⟩ := Kd.R_slice HO164.out; subst eo19) | ((with_reducible refine gate_callee (f := 20) rfl ?_); refine goesL_ (some 5) rfl rfl Tryd.func20 (by kernel_rfl) rfl #[.agg #[.int .i64 t160, .int .i64 t161, .slice Ao19 t162.length co19]] rfl (by (try simp only [List.map_toArray, List.map_cons, List.map_nil]); first | done | rfl | (simp only [List.length_drop, List.length_take]; rfl)) ?_; (with_reducible refine (frame_Encode.calls k t160 t161 _ _ t162 t165 t168 _ ?side1 ?side2 A2.out).mono ?_); (case side1 => repeat (first | exact (Kd.R_reads' HO164.out).2.2 | (with_reducible refine Kd.C_alloc ?_ _) | (with_reducible refine Kd.C_drewN ?_ _) | (with_reducible refine Kd.C_drew ?_))); (case side2 => exact (Kd.R_reads' HO164.out).2.1); rintro e w20 ⟨v166, rfl, ho0, hb⟩; refine ⟨_, rfl, ?_⟩; have n0_ := Aside0.mk (Kd.R_elder' (by (with_reducible repeat (first | apply Kd.R_alloc | apply Kd.R_drewN | apply Kd.R_drew)); exact HO164.out) (Kd.R_base ho0) hb); have n1_ := Aside0.mk (Kd.R_lower (Kd.R_new' ho0 (Kd.R_lt (by (with_reducible repeat (first | apply Kd.R_alloc | apply Kd.R_drewN | apply Kd.R_drew)); exact HO164.out))) (below_size (by repeat (first | (with_reducible first | exact HB.out | apply below_alloc | apply pw_below_drewN | apply below_drew1) | exact HB.out)))); have n2_ := Aside0.mk (below_step (by repeat (first | (with_reducible first | exact HB.out | apply below_alloc | apply pw_below_drewN | apply below_drew1) | exact HB.out)) hb); clear HO164; clear HB; have HO164 := n0_; have HO167 := n1_; have HB := n2_; clear n0_ n1_ n2_; (try clear hb); (try clear hb2); (try clear hk); (try clear hi); (try clear ho0); obtain ⟨Ao21, co21, eo21⟩ := Kd.R_slice HO167.out; subst eo21; have q22 : (7 : Int) ≤ ((t165.length : Int) : Int) := of_decide_eq_true (by first | (with_reducible assumption) | assumption); obtain ⟨i022, hi022, _, hsz22, _⟩ := info_parts info5; have hroom22 : t165.length ≤ co21 := (Kd.R_reads' HO167.out).2.1; have hC22 : Kd.C (Kd.int .u8) _ Ao21 t165.length t165 := (Kd.R_reads' HO167.out).2.2; have hcut22 := cut_to (P := Tryd.prog) 24 5 .i64 Tryd.underlying24 hi022 Ao21 t165.length co21 7 (by omega) q22 hroom22; have hr22 := Kd.C_take (m := 7) hC22 (by omega); have hy22 : y169.length = (7 : Int).toNat := (by rw [Ny169.out, List.length_take]; omega); rw [← Ny169.out] at hr22; rw [← hy22] at hcut22; have HR172 := Aside0.mk hr22; have HC172 := Aside0.mk (show y169.length ≤ co21 from by omega); clear hr22 hC22 hroom22 hi022 hsz22; have KY22 := Aside0.mk hy22; clear hy22; have KL22 := Aside0.mk (show 7 ≤ t165.length from by omega); replace q22 := eq_true q22; have hcv23 := Kd.C_string (P := Tryd.prog) (A := Ao21) (c := co21) Tryd.underlying24 Tryd.underlying5 Tryd.underlying9 (by repeat (first | (with_reducible exact HR172.out) | (with_reducible refine Kd.C_alloc ?_ _) | (with_reducible refine Kd.C_drewN ?_ _) | (with_reducible refine Kd.C_drew ?_) | exact HR172.out))))
          go_ret
          exact ⟨by first | rfl | (simp [errW_none, errW_some] <;> rfl) | (simp [*, errW_none, errW_some] <;> rfl), by repeat (first | (with_reducible first | exact HB.out | apply below_alloc | apply pw_below_drewN | apply below_drew1) | exact HB.out)⟩
      · rw [if_neg c5] at H
        exact absurd H (by simp)
    · rw [if_neg c4] at H
      have c4b0 : ((t165.length : Int) == 9) = false := beq_eq_false_iff_ne.mpr c4
      have c4b1 : ((t165.length : Int) != 9) = true := bne_iff_ne.mpr c4
      obtain rfl := Option.some.inj H
      go_enter Tryd.func11, Tryd.ntmps11
      go_wp2_with (first | ((with_reducible refine gate_callee (f := 13) rfl ?_); refine goesL_ (some 4) rfl rfl Tryd.func13 (by kernel_rfl) rfl #[.int .i64 5, .int .i16 (-2)] rfl (by (try simp only [List.map_toArray, List.map_cons, List.map_nil]); first | done | rfl | (simp only [List.length_drop, List.length_take]; rfl)) ?_; (with_reducible refine (frame_Data.calls k 5 (-2) t160 t161 t162 _ A1.out).mono ?_); rintro e w24 ⟨v163, rfl, ho0, hb⟩; refine ⟨_, rfl, ?_⟩; have n0_ := Aside0.mk (Kd.R_lower ho0 (below_size (by repeat (first | (with_reducible first | exact HB.out | apply below_alloc | apply pw_below_drewN | apply below_drew1) | exact HB.out)))); have n1_ := Aside0.mk (below_step (by repeat (first | (with_reducible first | exact HB.out | apply below_alloc | apply pw_below_drewN | apply below_drew1) | exact HB.out)) hb); clear HB; have HO164 := n0_; have HB := n1_; clear n0_ n1_; (try clear hb); (try clear hb2); (try clear hk); (try clear hi); (try clear ho0); obtain ⟨Ao25, co25, eo25⟩ := Kd.R_slice HO164.out; subst eo25) | ((with_reducible refine gate_callee (f := 20) rfl ?_); refine goesL_ (some 5) rfl rfl Tryd.func20 (by kernel_rfl) rfl #[.agg #[.int .i64 t160, .int .i64 t161, .slice Ao25 t162.length co25]] rfl (by (try simp only [List.map_toArray, List.map_cons, List.map_nil]); first | done | rfl | (simp only [List.length_drop, List.length_take]; rfl)) ?_; (with_reducible refine (frame_Encode.calls k t160 t161 _ _ t162 t165 t168 _ ?side1 ?side2 A2.out).mono ?_); (case side1 => repeat (first | exact (Kd.R_reads' HO164.out).2.2 | (with_reducible refine Kd.C_alloc ?_ _) | (with_reducible refine Kd.C_drewN ?_ _) | (with_reducible refine Kd.C_drew ?_))); (case side2 => exact (Kd.R_reads' HO164.out).2.1); rintro e w26 ⟨v166, rfl, ho0, hb⟩; refine ⟨_, rfl, ?_⟩; have n0_ := Aside0.mk (Kd.R_elder' (by (with_reducible repeat (first | apply Kd.R_alloc | apply Kd.R_drewN | apply Kd.R_drew)); exact HO164.out) (Kd.R_base ho0) hb); have n1_ := Aside0.mk (Kd.R_lower (Kd.R_new' ho0 (Kd.R_lt (by (with_reducible repeat (first | apply Kd.R_alloc | apply Kd.R_drewN | apply Kd.R_drew)); exact HO164.out))) (below_size (by repeat (first | (with_reducible first | exact HB.out | apply below_alloc | apply pw_below_drewN | apply below_drew1) | exact HB.out)))); have n2_ := Aside0.mk (below_step (by repeat (first | (with_reducible first | exact HB.out | apply below_alloc | apply pw_below_drewN | apply below_drew1) | exact HB.out)) hb); clear HO164; clear HB; have HO164 := n0_; have HO167 := n1_; have HB := n2_; clear n0_ n1_ n2_; (try clear hb); (try clear hb2); (try clear hk); (try clear hi); (try clear ho0); obtain ⟨Ao27, co27, eo27⟩ := Kd.R_slice HO167.out; subst eo27))
      go_ret
      exact ⟨by first | rfl | (simp [errW_none, errW_some] <;> rfl) | (simp [*, errW_none, errW_some] <;> rfl), by repeat (first | (with_reducible first | exact HB.out | apply below_alloc | apply pw_below_drewN | apply below_drew1) | exact HB.out)⟩
  · rw [if_neg c3] at H
    have c3b0 : (t168 == 0) = false := beq_eq_false_iff_ne.mpr c3
    have c3b1 : (t168 != 0) = true := bne_iff_ne.mpr c3
    obtain rfl := Option.some.inj H
    go_enter Tryd.func11, Tryd.ntmps11
    go_wp2_with (first | ((with_reducible refine gate_callee (f := 13) rfl ?_); refine goesL_ (some 4) rfl rfl Tryd.func13 (by kernel_rfl) rfl #[.int .i64 5, .int .i16 (-2)] rfl (by (try simp only [List.map_toArray, List.map_cons, List.map_nil]); first | done | rfl | (simp only [List.length_drop, List.length_take]; rfl)) ?_; (with_reducible refine (frame_Data.calls k 5 (-2) t160 t161 t162 _ A1.out).mono ?_); rintro e w28 ⟨v163, rfl, ho0, hb⟩; refine ⟨_, rfl, ?_⟩; have n0_ := Aside0.mk (Kd.R_lower ho0 (below_size (by repeat (first | (with_reducible first | exact HB.out | apply below_alloc | apply pw_below_drewN | apply below_drew1) | exact HB.out)))); have n1_ := Aside0.mk (below_step (by repeat (first | (with_reducible first | exact HB.out | apply below_alloc | apply pw_below_drewN | apply below_drew1) | exact HB.out)) hb); clear HB; have HO164 := n0_; have HB := n1_; clear n0_ n1_; (try clear hb); (try clear hb2); (try clear hk); (try clear hi); (try clear ho0); obtain ⟨Ao29, co29, eo29⟩ := Kd.R_slice HO164.out; subst eo29) | ((with_reducible refine gate_callee (f := 20) rfl ?_); refine goesL_ (some 5) rfl rfl Tryd.func20 (by kernel_rfl) rfl #[.agg #[.int .i64 t160, .int .i64 t161, .slice Ao29 t162.length co29]] rfl (by (try simp only [List.map_toArray, List.map_cons, List.map_nil]); first | done | rfl | (simp only [List.length_drop, List.length_take]; rfl)) ?_; (with_reducible refine (frame_Encode.calls k t160 t161 _ _ t162 t165 t168 _ ?side1 ?side2 A2.out).mono ?_); (case side1 => repeat (first | exact (Kd.R_reads' HO164.out).2.2 | (with_reducible refine Kd.C_alloc ?_ _) | (with_reducible refine Kd.C_drewN ?_ _) | (with_reducible refine Kd.C_drew ?_))); (case side2 => exact (Kd.R_reads' HO164.out).2.1); rintro e w30 ⟨v166, rfl, ho0, hb⟩; refine ⟨_, rfl, ?_⟩; have n0_ := Aside0.mk (Kd.R_elder' (by (with_reducible repeat (first | apply Kd.R_alloc | apply Kd.R_drewN | apply Kd.R_drew)); exact HO164.out) (Kd.R_base ho0) hb); have n1_ := Aside0.mk (Kd.R_lower (Kd.R_new' ho0 (Kd.R_lt (by (with_reducible repeat (first | apply Kd.R_alloc | apply Kd.R_drewN | apply Kd.R_drew)); exact HO164.out))) (below_size (by repeat (first | (with_reducible first | exact HB.out | apply below_alloc | apply pw_below_drewN | apply below_drew1) | exact HB.out)))); have n2_ := Aside0.mk (below_step (by repeat (first | (with_reducible first | exact HB.out | apply below_alloc | apply pw_below_drewN | apply below_drew1) | exact HB.out)) hb); clear HO164; clear HB; have HO164 := n0_; have HO167 := n1_; have HB := n2_; clear n0_ n1_ n2_; (try clear hb); (try clear hb2); (try clear hk); (try clear hi); (try clear ho0)))
    go_ret
    exact ⟨by first | rfl | (simp [errW_none, errW_some] <;> rfl) | (simp [*, errW_none, errW_some] <;> rfl), by repeat (first | (with_reducible first | exact HB.out | apply below_alloc | apply pw_below_drewN | apply below_drew1) | exact HB.out)⟩

/-! ### trickleref43_Equal: function 12 -/
def trickleref43_Equal.f (a0_0 : Int) (a0_1 : Int) (l0_2 : List Int) (a1_0 : Int) (a1_1 : Int) (l1_2 : List Int) : Option (Bool) := if a0_0 = a1_0 then (if a0_1 = a1_1 then (some ((strOfNums l0_2).toList == (strOfNums l1_2).toList)) else (some false)) else (some false)
set_option maxHeartbeats 8000000 in
set_option maxRecDepth 100000 in
theorem trickleref43_Equal.calls (a0_0 : Int) (a0_1 : Int) (A0_2 : Option Addr) (c0_2 : Nat) (l0_2 : List Int) (a1_0 : Int) (a1_1 : Int) (A1_2 : Option Addr) (c1_2 : Nat) (l1_2 : List Int) (r : Bool) (w : World) (hr0_2 : Kd.C (Kd.int .u8) w A0_2 l0_2.length l0_2) (hc0_2 : l0_2.length ≤ c0_2) (hr1_2 : Kd.C (Kd.int .u8) w A1_2 l1_2.length l1_2) (hc1_2 : l1_2.length ≤ c1_2) (h : trickleref43_Equal.f a0_0 a0_1 l0_2 a1_0 a1_1 l1_2 = some r) :
    Calls Tryd.prog 12 #[.agg #[.int .i64 a0_0, .int .i64 a0_1, .slice A0_2 l0_2.length c0_2], .agg #[.int .i64 a1_0, .int .i64 a1_1, .slice A1_2 l1_2.length c1_2]] w fun e w' => e = .returned (.bool r) ∧ Below w.heap.size w w' := by
  have hu29 := Tryd.underlying29
  have HR0_2 := Aside0.mk hr0_2
  have HC0_2 := Aside0.mk hc0_2
  clear hr0_2 hc0_2
  have HR1_2 := Aside0.mk hr1_2
  have HC1_2 := Aside0.mk hc1_2
  clear hr1_2 hc1_2
  have HB := Aside0.mk (Below.refl w.heap.size w)
  have H : (if a0_0 = a1_0 then (if a0_1 = a1_1 then (some ((strOfNums l0_2).toList == (strOfNums l1_2).toList)) else (some false)) else (some false)) = some r := h
  clear h
  by_cases c3 : a0_0 = a1_0
  · rw [if_pos c3] at H
    have c3b0 : (a0_0 == a1_0) = true := beq_iff_eq.mpr c3
    have c3b1 : (a0_0 != a1_0) = false := bne_eq_false_iff_eq.mpr c3
    clear c3
    by_cases c4 : a0_1 = a1_1
    · rw [if_pos c4] at H
      have c4b0 : (a0_1 == a1_1) = true := beq_iff_eq.mpr c4
      have c4b1 : (a0_1 != a1_1) = false := bne_eq_false_iff_eq.mpr c4
      clear c4
      obtain rfl := Option.some.inj H
      go_enter Tryd.func12, Tryd.ntmps12
      go_wp2_with (first | ((with_reducible refine gate_dst (N := 2) rfl ?_); refine box_event ?hg (N := 2) ?hd (cs := #[.int .i64 a0_0, .int .i64 a0_1, .slice A0_2 l0_2.length c0_2]) (t := 29) ?hr ?_; (case hd => rfl); (case hg => rfl); (case hr => first | (go_simp; done) | (go_simp; rfl)); intro gb179 hg w5 hbox hb; have n0_ := Aside0.mk (below_step (by repeat (first | (with_reducible first | exact HB.out | apply below_alloc | apply pw_below_drewN | apply below_drew1) | exact HB.out)) hb); have n1_ := Aside0.mk (hbox); have n2_ := Aside0.mk ((by rw [hg]; exact (below_size (by repeat (first | (with_reducible first | exact HB.out | apply below_alloc | apply pw_below_drewN | apply below_drew1) | exact HB.out))) : w.heap.size ≤ gb179)); have n3_ := Aside0.mk ((by rw [hg]; exact (below_size (by repeat (first | (with_reducible first | exact HB.out | apply below_alloc | apply pw_below_drewN | apply below_drew1) | exact HB.out))) : w.heap.size ≤ gb179)); clear HB; have HB := n0_; have BK179 := n1_; have GW179 := n2_; have GE179 := n3_; clear n0_ n1_ n2_ n3_; clear hb hbox hg) | ((with_reducible refine gate_dst (N := 3) rfl ?_); refine box_event ?hg (N := 3) ?hd (cs := #[.int .i64 a1_0, .int .i64 a1_1, .slice A1_2 l1_2.length c1_2]) (t := 29) ?hr ?_; (case hd => rfl); (case hg => rfl); (case hr => first | (go_simp; done) | (go_simp; rfl)); intro gb180 hg w6 hbox hb; have n0_ := Aside0.mk (blk_below (g := gb179) (o := .cells #[.int .i64 a0_0, .int .i64 a0_1, .slice A0_2 l0_2.length c0_2] 29 (0, 0)) (by (with_reducible repeat (first | refine blk_drewN ?_ _ | refine blk_drew ?_ | refine blk_alloc ?_ _)); exact BK179.out) hb); have n1_ := Aside0.mk (below_step (by repeat (first | (with_reducible first | exact HB.out | apply below_alloc | apply pw_below_drewN | apply below_drew1 | refine below_set ?_ GE179.out) | exact HB.out)) hb); have n2_ := Aside0.mk (hbox); have n3_ := Aside0.mk ((by rw [hg]; exact (below_size (by repeat (first | (with_reducible first | exact HB.out | apply below_alloc | apply pw_below_drewN | apply below_drew1 | refine below_set ?_ GE179.out) | exact HB.out))) : w.heap.size ≤ gb180)); have n4_ := Aside0.mk ((by rw [hg]; exact (below_size (by repeat (first | (with_reducible first | exact HB.out | apply below_alloc | apply pw_below_drewN | apply below_drew1 | refine below_set ?_ GE179.out) | exact HB.out))) : w.heap.size ≤ gb180)); have n5_ := Aside0.mk ((by rw [hg]; exact Nat.ne_of_lt (blk_lt (g := gb179) (o := .cells #[.int .i64 a0_0, .int .i64 a0_1, .slice A0_2 l0_2.length c0_2] 29 (0, 0)) (by (with_reducible repeat (first | refine blk_drewN ?_ _ | refine blk_drew ?_ | refine blk_alloc ?_ _)); exact BK179.out)) : gb179 ≠ gb180)); have n6_ := Aside0.mk ((by rw [hg]; exact Nat.ne_of_gt (blk_lt (g := gb179) (o := .cells #[.int .i64 a0_0, .int .i64 a0_1, .slice A0_2 l0_2.length c0_2] 29 (0, 0)) (by (with_reducible repeat (first | refine blk_drewN ?_ _ | refine blk_drew ?_ | refine blk_alloc ?_ _)); exact BK179.out)) : gb180 ≠ gb179)); clear BK179; clear HB; have BK179 := n0_; have HB := n1_; have BK180 := n2_; have GW180 := n3_; have GE180 := n4_; have NB179_180 := n5_; have NB180_179 := n6_; clear n0_ n1_ n2_ n3_ n4_ n5_ n6_; clear hb hbox hg; have hnb7 := NB179_180.out; have hnc7 := NB180_179.out; have hcz8_0 : w6.cell? ⟨gb179, 0, none⟩ = some (.int .i64 a0_0) := (blk_cell BK179.out 0).trans rfl; have hcz8_1 : w6.cell? ⟨gb179, 1, none⟩ = some (.int .i64 a0_1) := (blk_cell BK179.out 1).trans rfl; have hcz8_2 : w6.cell? ⟨gb179, 2, none⟩ = some (.slice A0_2 l0_2.length c0_2) := (blk_cell BK179.out 2).trans rfl; have hfz8_0 := blk_frozen BK179.out 0; have hfz8_1 := blk_frozen BK179.out 1; have hfz8_2 := blk_frozen BK179.out 2; have hcz9_0 : w6.cell? ⟨gb180, 0, none⟩ = some (.int .i64 a1_0) := (blk_cell BK180.out 0).trans rfl; have hcz9_1 : w6.cell? ⟨gb180, 1, none⟩ = some (.int .i64 a1_1) := (blk_cell BK180.out 1).trans rfl; have hcz9_2 : w6.cell? ⟨gb180, 2, none⟩ = some (.slice A1_2 l1_2.length c1_2) := (blk_cell BK180.out 2).trans rfl; have hfz9_0 := blk_frozen BK180.out 0; have hfz9_1 := blk_frozen BK180.out 1; have hfz9_2 := blk_frozen BK180.out 2; have hcv10 := Kd.C_string (P := Tryd.prog) (A := A0_2) (c := c0_2) Tryd.underlying24 Tryd.underlying5 Tryd.underlying9 (Kd.C_below HR0_2.out HB.out); have hcv11 := Kd.C_string (P := Tryd.prog) (A := A1_2) (c := c1_2) Tryd.underlying24 Tryd.underlying5 Tryd.underlying9 (Kd.C_below HR1_2.out HB.out)))
      go_ret
      exact ⟨by first | rfl | (simp [errW_none, errW_some] <;> rfl) | (simp [*, errW_none, errW_some] <;> rfl), by repeat (first | (with_reducible first | exact HB.out | apply below_alloc | apply pw_below_drewN | apply below_drew1 | refine below_set ?_ GE179.out | refine below_set ?_ GE180.out) | exact HB.out)⟩
    · rw [if_neg c4] at H
      have c4b0 : (a0_1 == a1_1) = false := beq_eq_false_iff_ne.mpr c4
      have c4b1 : (a0_1 != a1_1) = true := bne_iff_ne.mpr c4
      obtain rfl := Option.some.inj H
      go_enter Tryd.func12, Tryd.ntmps12
      go_wp2_with (first | ((with_reducible refine gate_dst (N := 2) rfl ?_); refine box_event ?hg (N := 2) ?hd (cs := #[.int .i64 a0_0, .int .i64 a0_1, .slice A0_2 l0_2.length c0_2]) (t := 29) ?hr ?_; (case hd => rfl); (case hg => rfl); (case hr => first | (go_simp; done) | (go_simp; rfl)); intro gb179 hg w12 hbox hb; have n0_ := Aside0.mk (below_step (by repeat (first | (with_reducible first | exact HB.out | apply below_alloc | apply pw_below_drewN | apply below_drew1) | exact HB.out)) hb); have n1_ := Aside0.mk (hbox); have n2_ := Aside0.mk ((by rw [hg]; exact (below_size (by repeat (first | (with_reducible first | exact HB.out | apply below_alloc | apply pw_below_drewN | apply below_drew1) | exact HB.out))) : w.heap.size ≤ gb179)); have n3_ := Aside0.mk ((by rw [hg]; exact (below_size (by repeat (first | (with_reducible first | exact HB.out | apply below_alloc | apply pw_below_drewN | apply below_drew1) | exact HB.out))) : w.heap.size ≤ gb179)); clear HB; have HB := n0_; have BK179 := n1_; have GW179 := n2_; have GE179 := n3_; clear n0_ n1_ n2_ n3_; clear hb hbox hg) | ((with_reducible refine gate_dst (N := 3) rfl ?_); refine box_event ?hg (N := 3) ?hd (cs := #[.int .i64 a1_0, .int .i64 a1_1, .slice A1_2 l1_2.length c1_2]) (t := 29) ?hr ?_; (case hd => rfl); (case hg => rfl); (case hr => first | (go_simp; done) | (go_simp; rfl)); intro gb180 hg w13 hbox hb; have n0_ := Aside0.mk (blk_below (g := gb179) (o := .cells #[.int .i64 a0_0, .int .i64 a0_1, .slice A0_2 l0_2.length c0_2] 29 (0, 0)) (by (with_reducible repeat (first | refine blk_drewN ?_ _ | refine blk_drew ?_ | refine blk_alloc ?_ _)); exact BK179.out) hb); have n1_ := Aside0.mk (below_step (by repeat (first | (with_reducible first | exact HB.out | apply below_alloc | apply pw_below_drewN | apply below_drew1 | refine below_set ?_ GE179.out) | exact HB.out)) hb); have n2_ := Aside0.mk (hbox); have n3_ := Aside0.mk ((by rw [hg]; exact (below_size (by repeat (first | (with_reducible first | exact HB.out | apply below_alloc | apply pw_below_drewN | apply below_drew1 | refine below_set ?_ GE179.out) | exact HB.out))) : w.heap.size ≤ gb180)); have n4_ := Aside0.mk ((by rw [hg]; exact (below_size (by repeat (first | (with_reducible first | exact HB.out | apply below_alloc | apply pw_below_drewN | apply below_drew1 | refine below_set ?_ GE179.out) | exact HB.out))) : w.heap.size ≤ gb180)); have n5_ := Aside0.mk ((by rw [hg]; exact Nat.ne_of_lt (blk_lt (g := gb179) (o := .cells #[.int .i64 a0_0, .int .i64 a0_1, .slice A0_2 l0_2.length c0_2] 29 (0, 0)) (by (with_reducible repeat (first | refine blk_drewN ?_ _ | refine blk_drew ?_ | refine blk_alloc ?_ _)); exact BK179.out)) : gb179 ≠ gb180)); have n6_ := Aside0.mk ((by rw [hg]; exact Nat.ne_of_gt (blk_lt (g := gb179) (o := .cells #[.int .i64 a0_0, .int .i64 a0_1, .slice A0_2 l0_2.length c0_2] 29 (0, 0)) (by (with_reducible repeat (first | refine blk_drewN ?_ _ | refine blk_drew ?_ | refine blk_alloc ?_ _)); exact BK179.out)) : gb180 ≠ gb179)); clear BK179; clear HB; have BK179 := n0_; have HB := n1_; have BK180 := n2_; have GW180 := n3_; have GE180 := n4_; have NB179_180 := n5_; have NB180_179 := n6_; clear n0_ n1_ n2_ n3_ n4_ n5_ n6_; clear hb hbox hg; have hnb14 := NB179_180.out; have hnc14 := NB180_179.out; have hcz15_0 : w13.cell? ⟨gb179, 0, none⟩ = some (.int .i64 a0_0) := (blk_cell BK179.out 0).trans rfl; have hcz15_1 : w13.cell? ⟨gb179, 1, none⟩ = some (.int .i64 a0_1) := (blk_cell BK179.out 1).trans rfl; have hcz15_2 : w13.cell? ⟨gb179, 2, none⟩ = some (.slice A0_2 l0_2.length c0_2) := (blk_cell BK179.out 2).trans rfl; have hfz15_0 := blk_frozen BK179.out 0; have hfz15_1 := blk_frozen BK179.out 1; have hfz15_2 := blk_frozen BK179.out 2; have hcz16_0 : w13.cell? ⟨gb180, 0, none⟩ = some (.int .i64 a1_0) := (blk_cell BK180.out 0).trans rfl; have hcz16_1 : w13.cell? ⟨gb180, 1, none⟩ = some (.int .i64 a1_1) := (blk_cell BK180.out 1).trans rfl; have hcz16_2 : w13.cell? ⟨gb180, 2, none⟩ = some (.slice A1_2 l1_2.length c1_2) := (blk_cell BK180.out 2).trans rfl; have hfz16_0 := blk_frozen BK180.out 0; have hfz16_1 := blk_frozen BK180.out 1; have hfz16_2 := blk_frozen BK180.out 2))
      go_ret
      exact ⟨by first | rfl | (simp [errW_none, errW_some] <;> rfl) | (simp [*, errW_none, errW_some] <;> rfl), by repeat (first | (with_reducible first | exact HB.out | apply below_alloc | apply pw_below_drewN | apply below_drew1 | refine below_set ?_ GE179.out | refine below_set ?_ GE180.out) | exact HB.out)⟩
  · rw [if_neg c3] at H
    have c3b0 : (a0_0 == a1_0) = false := beq_eq_false_iff_ne.mpr c3
    have c3b1 : (a0_0 != a1_0) = true := bne_iff_ne.mpr c3
    obtain rfl := Option.some.inj H
    go_enter Tryd.func12, Tryd.ntmps12
    go_wp2_with (first | ((with_reducible refine gate_dst (N := 2) rfl ?_); refine box_event ?hg (N := 2) ?hd (cs := #[.int .i64 a0_0, .int .i64 a0_1, .slice A0_2 l0_2.length c0_2]) (t := 29) ?hr ?_; (case hd => rfl); (case hg => rfl); (case hr => first | (go_simp; done) | (go_simp; rfl)); intro gb179 hg w17 hbox hb; have n0_ := Aside0.mk (below_step (by repeat (first | (with_reducible first | exact HB.out | apply below_alloc | apply pw_below_drewN | apply below_drew1) | exact HB.out)) hb); have n1_ := Aside0.mk (hbox); have n2_ := Aside0.mk ((by rw [hg]; exact (below_size (by repeat (first | (with_reducible first | exact HB.out | apply below_alloc | apply pw_below_drewN | apply below_drew1) | exact HB.out))) : w.heap.size ≤ gb179)); have n3_ := Aside0.mk ((by rw [hg]; exact (below_size (by repeat (first | (with_reducible first | exact HB.out | apply below_alloc | apply pw_below_drewN | apply below_drew1) | exact HB.out))) : w.heap.size ≤ gb179)); clear HB; have HB := n0_; have BK179 := n1_; have GW179 := n2_; have GE179 := n3_; clear n0_ n1_ n2_ n3_; clear hb hbox hg) | ((with_reducible refine gate_dst (N := 3) rfl ?_); refine box_event ?hg (N := 3) ?hd (cs := #[.int .i64 a1_0, .int .i64 a1_1, .slice A1_2 l1_2.length c1_2]) (t := 29) ?hr ?_; (case hd => rfl); (case hg => rfl); (case hr => first | (go_simp; done) | (go_simp; rfl)); intro gb180 hg w18 hbox hb; have n0_ := Aside0.mk (blk_below (g := gb179) (o := .cells #[.int .i64 a0_0, .int .i64 a0_1, .slice A0_2 l0_2.length c0_2] 29 (0, 0)) (by (with_reducible repeat (first | refine blk_drewN ?_ _ | refine blk_drew ?_ | refine blk_alloc ?_ _)); exact BK179.out) hb); have n1_ := Aside0.mk (below_step (by repeat (first | (with_reducible first | exact HB.out | apply below_alloc | apply pw_below_drewN | apply below_drew1 | refine below_set ?_ GE179.out) | exact HB.out)) hb); have n2_ := Aside0.mk (hbox); have n3_ := Aside0.mk ((by rw [hg]; exact (below_size (by repeat (first | (with_reducible first | exact HB.out | apply below_alloc | apply pw_below_drewN | apply below_drew1 | refine below_set ?_ GE179.out) | exact HB.out))) : w.heap.size ≤ gb180)); have n4_ := Aside0.mk ((by rw [hg]; exact (below_size (by repeat (first | (with_reducible first | exact HB.out | apply below_alloc | apply pw_below_drewN | apply below_drew1 | refine below_set ?_ GE179.out) | exact HB.out))) : w.heap.size ≤ gb180)); have n5_ := Aside0.mk ((by rw [hg]; exact Nat.ne_of_lt (blk_lt (g := gb179) (o := .cells #[.int .i64 a0_0, .int .i64 a0_1, .slice A0_2 l0_2.length c0_2] 29 (0, 0)) (by (with_reducible repeat (first | refine blk_drewN ?_ _ | refine blk_drew ?_ | refine blk_alloc ?_ _)); exact BK179.out)) : gb179 ≠ gb180)); have n6_ := Aside0.mk ((by rw [hg]; exact Nat.ne_of_gt (blk_lt (g := gb179) (o := .cells #[.int .i64 a0_0, .int .i64 a0_1, .slice A0_2 l0_2.length c0_2] 29 (0, 0)) (by (with_reducible repeat (first | refine blk_drewN ?_ _ | refine blk_drew ?_ | refine blk_alloc ?_ _)); exact BK179.out)) : gb180 ≠ gb179)); clear BK179; clear HB; have BK179 := n0_; have HB := n1_; have BK180 := n2_; have GW180 := n3_; have GE180 := n4_; have NB179_180 := n5_; have NB180_179 := n6_; clear n0_ n1_ n2_ n3_ n4_ n5_ n6_; clear hb hbox hg; have hnb19 := NB179_180.out; have hnc19 := NB180_179.out; have hcz20_0 : w18.cell? ⟨gb179, 0, none⟩ = some (.int .i64 a0_0) := (blk_cell BK179.out 0).trans rfl; have hcz20_1 : w18.cell? ⟨gb179, 1, none⟩ = some (.int .i64 a0_1) := (blk_cell BK179.out 1).trans rfl; have hcz20_2 : w18.cell? ⟨gb179, 2, none⟩ = some (.slice A0_2 l0_2.length c0_2) := (blk_cell BK179.out 2).trans rfl; have hfz20_0 := blk_frozen BK179.out 0; have hfz20_1 := blk_frozen BK179.out 1; have hfz20_2 := blk_frozen BK179.out 2; have hcz21_0 : w18.cell? ⟨gb180, 0, none⟩ = some (.int .i64 a1_0) := (blk_cell BK180.out 0).trans rfl; have hcz21_1 : w18.cell? ⟨gb180, 1, none⟩ = some (.int .i64 a1_1) := (blk_cell BK180.out 1).trans rfl; have hcz21_2 : w18.cell? ⟨gb180, 2, none⟩ = some (.slice A1_2 l1_2.length c1_2) := (blk_cell BK180.out 2).trans rfl; have hfz21_0 := blk_frozen BK180.out 0; have hfz21_1 := blk_frozen BK180.out 1; have hfz21_2 := blk_frozen BK180.out 2))
    go_ret
    exact ⟨by first | rfl | (simp [errW_none, errW_some] <;> rfl) | (simp [*, errW_none, errW_some] <;> rfl), by repeat (first | (with_reducible first | exact HB.out | apply below_alloc | apply pw_below_drewN | apply below_drew1 | refine below_set ?_ GE179.out | refine below_set ?_ GE180.out) | exact HB.out)⟩

end Go.Proofs.YtfhnpphceeoeeaaDoor.PX
/- Frames in plain words, 1: numbers as bytes, the packet of a frame, what is decoded of bytes. -/
namespace Go.Proofs.YtfhnpphceeoeeaaDoor.PX
open Go.RowKit Go.Proofs.YtfhnpphceeoeeaaDoorW.PrintWords Go.Proofs.YtfhnpphceeoeeaaDoorW.PrintLast Go.Proofs.YtfhnpphceeoeeaaDoorW.PrintMore
set_option linter.unusedVariables false
set_option linter.unusedSimpArgs false
/-- The bytes of a number, the low one first. -/
def leN : Nat → Int → List Int
  | 0, _ => []
  | n + 1, a => a % 256 :: leN n (a / 256)
theorem leN_length (n : Nat) : ∀ a, (leN n a).length = n := by
  induction n with
  | zero => intro a; rfl
  | succ n ih => intro a; rw [leN, List.length_cons, ih]
theorem leN_bytes (n : Nat) : ∀ a, Bytes (leN n a) := by
  induction n with
  | zero => intro a x h; cases h
  | succ n ih =>
    intro a x h
    rw [leN] at h
    rcases List.mem_cons.mp h with rfl | h
    · omega
    · exact ih _ x h
theorem number_loop (n : Nat) (hn : n ≤ 100) : ∀ (m i : Nat) (a : Int) (acc : List Int), i + m = n → acc.length = i → Ev (fun k => frame_number.l0 k a acc (n : Int) (i : Int)) (acc ++ leN m a)
  | 0, i, a, acc, hi, ha => by
    refine Ev.step (fun k => by rw [frame_number.l0]) ?_
    rw [leN, List.append_nil]
    exact Ev.neg (by omega) (Ev.now _)
  | m + 1, i, a, acc, hi, ha => by
    refine Ev.step (fun k => by rw [frame_number.l0]) (Ev.pos (by omega) (Ev.pos (by omega) ?_))
    rw [wrap_nat (n := n) (by omega) (by omega)]
    refine Ev.cast (number_loop n hn m (i + 1) (a / 256) _ (by omega) (by rw [List.length_append, ha]; rfl)) ?_
    rw [leN, List.append_assoc]
    rfl
theorem number_ev (n : Nat) (hn : n ≤ 100) (a : Int) : Ev (fun k => frame_number.f k a (n : Int)) (leN n a) :=
  Ev.congr (f := fun k => frame_number.l0 k a [] (n : Int) ((0 : Nat) : Int)) (fun k => by rw [frame_number.f]; rfl) (number_loop n hn n 0 a [] (by omega) rfl)
theorem four_ev (a : Int) : trickleref43_four.f a = some (leN 4 a) := by
  unfold trickleref43_four.f
  simp only [leN]
  congr 2
  · omega
  · congr 1
    · omega
    · congr 1
      · omega
      · congr 1
        omega
/-- The number of bytes, the low one first. -/
def val : List Int → Int
  | [] => 0
  | x :: r => x + 256 * val r
theorem val_range : ∀ (l : List Int), Bytes l → 0 ≤ val l ∧ val l < 256 ^ l.length := by
  intro l
  induction l with
  | nil => intro _; exact ⟨Int.le_refl _, by decide⟩
  | cons x r ih =>
    intro h
    obtain ⟨h0, h1⟩ := h x (.head _)
    obtain ⟨i0, i1⟩ := ih (fun y hy => h y (.tail _ hy))
    rw [val, List.length_cons, Int.pow_succ]
    constructor <;> omega
theorem val_leN (n : Nat) : ∀ a : Int, 0 ≤ a → a < 256 ^ n → val (leN n a) = a := by
  induction n with
  | zero => intro a h0 h1; rw [leN, val]; simp at h1; omega
  | succ n ih =>
    intro a h0 h1
    rw [Int.pow_succ] at h1
    rw [leN, val, ih (a / 256) (by omega) (by omega)]
    omega
theorem or_nat (X Y : Nat) (hY : Y < 256) : X * 256 ||| Y = X * 256 + Y := by
  have := Nat.two_pow_add_eq_or_of_lt (i := 8) hY X
  rw [show 2 ^ 8 * X = X * 256 by omega] at this
  exact this.symm
theorem or16 (x y : Int) (hx0 : 0 ≤ x) (hx1 : x ≤ 255) (hy0 : 0 ≤ y) (hy1 : y ≤ 255) : Go.bits .or .u16 (IntKind.u16.wrap (IntKind.u16.wrap x * 256)) (IntKind.u16.wrap y) = x * 256 + y := by
  obtain ⟨X, rfl⟩ := Int.eq_ofNat_of_zero_le hx0
  obtain ⟨Y, rfl⟩ := Int.eq_ofNat_of_zero_le hy0
  have e1 : IntKind.u16.wrap (IntKind.u16.wrap (X : Int) * 256) = ((X * 256 : Nat) : Int) := by rw [wrap_u16, wrap_u16]; omega
  have e2 : IntKind.u16.wrap (Y : Int) = (Y : Int) := by rw [wrap_u16]; omega
  rw [e1, e2]
  show IntKind.u16.wrap (((BitVec.ofInt 16 ((X * 256 : Nat) : Int)) ||| (BitVec.ofInt 16 (Y : Int))).toNat : Int) = _
  rw [BitVec.ofInt_natCast, BitVec.ofInt_natCast, BitVec.toNat_or, BitVec.toNat_ofNat, BitVec.toNat_ofNat, Nat.mod_eq_of_lt (by omega), Nat.mod_eq_of_lt (by omega), or_nat X Y (by omega), wrap_u16]
  omega
theorem or64 (x y : Int) (hx0 : 0 ≤ x) (hx1 : x < 1099511627776) (hy0 : 0 ≤ y) (hy1 : y ≤ 255) : Go.bits .or .i64 (wrap64 (x * 256)) (wrap64 y) = x * 256 + y := by
  obtain ⟨X, rfl⟩ := Int.eq_ofNat_of_zero_le hx0
  obtain ⟨Y, rfl⟩ := Int.eq_ofNat_of_zero_le hy0
  have e1 : wrap64 ((X : Int) * 256) = ((X * 256 : Nat) : Int) := by rw [wrap_id (by omega) (by omega)]; omega
  have e2 : wrap64 (Y : Int) = (Y : Int) := wrap_id (by omega) (by omega)
  rw [e1, e2]
  show IntKind.i64.wrap (((BitVec.ofInt 64 ((X * 256 : Nat) : Int)) ||| (BitVec.ofInt 64 (Y : Int))).toNat : Int) = _
  rw [BitVec.ofInt_natCast, BitVec.ofInt_natCast, BitVec.toNat_or, BitVec.toNat_ofNat, BitVec.toNat_ofNat, Nat.mod_eq_of_lt (by omega), Nat.mod_eq_of_lt (by omega), or_nat X Y (by omega), i64_w, wrap_id (by omega) (by omega)]
  omega
theorem val_small (l : List Int) (hb : Bytes l) (hl : l.length ≤ 5) : 0 ≤ val l ∧ val l < 1099511627776 := by
  obtain ⟨h0, h1⟩ := val_range l hb
  refine ⟨h0, Int.lt_of_lt_of_le h1 ?_⟩
  rcases (by omega : l.length = 0 ∨ l.length = 1 ∨ l.length = 2 ∨ l.length = 3 ∨ l.length = 4 ∨ l.length = 5) with e | e | e | e | e | e <;> rw [e] <;> decide
theorem Bytes.drop {l : List Int} (h : Bytes l) (n : Nat) : Bytes (l.drop n) := fun x hx => h x (List.mem_of_mem_drop hx)
theorem Bytes.take {l : List Int} (h : Bytes l) (n : Nat) : Bytes (l.take n) := fun x hx => h x (List.mem_of_mem_take hx)
theorem Bytes.append {a b : List Int} (h : Bytes a) (k : Bytes b) : Bytes (a ++ b) := fun x hx => (List.mem_append.mp hx).elim (h x) (k x)
theorem value_loop (l : List Int) (hb : Bytes l) (hl : l.length ≤ 6) : ∀ m, m ≤ l.length → Ev (fun k => frame_value.l0 k l (val (l.drop m)) ((m : Int) - 1)) (val l)
  | 0, hm => by
    refine Ev.step (fun k => by rw [frame_value.l0]) ?_
    rw [List.drop_zero]
    exact Ev.neg (show ¬ (((0 : Nat) : Int) - 1 ≥ 0) by omega) (Ev.now _)
  | m + 1, hm => by
    have hlt : m < l.length := by omega
    obtain ⟨b0, b1⟩ := hb _ (List.getElem_mem hlt)
    obtain ⟨v0, v1⟩ := val_small (l.drop (m + 1)) (hb.drop _) (by rw [List.length_drop]; omega)
    refine Ev.step (fun k => by rw [frame_value.l0]) ?_
    rw [show ((m + 1 : Nat) : Int) - 1 = (m : Int) by omega]
    refine Ev.pos (by omega) (Ev.pos (by omega) (Ev.pos (by omega) ?_))
    rw [rd_nat l m hlt, or64 _ _ v0 v1 b0 b1, wrap_id (i := (m : Int) - 1) (by omega) (by omega)]
    have ih := value_loop l hb hl m (by omega)
    rw [drop_cons l m hlt, val] at ih
    rw [show val (l.drop (m + 1)) * 256 + l[m] = l[m] + 256 * val (l.drop (m + 1)) by omega]
    exact ih
theorem value_ev (l : List Int) (hb : Bytes l) (hl : l.length ≤ 6) : Ev (fun k => frame_value.f k l) (val l) := by
  have h := value_loop l hb hl l.length (Nat.le_refl _)
  rw [List.drop_length] at h
  exact Ev.congr (f := fun k => frame_value.l0 k l 0 ((l.length : Int) - 1)) (fun k => by rw [frame_value.f, wrap_id (by omega) (by omega)]) h
/-- Whether a frame is valid. -/
def validB (k s : Int) (b : List Int) : Bool := decide (1 ≤ k ∧ k ≤ 6 ∧ 0 ≤ s ∧ s ≤ 2147483647 ∧ b.length ≤ 40)
theorem validB_iff (k s : Int) (b : List Int) : validB k s b = true ↔ (1 ≤ k ∧ k ≤ 6 ∧ 0 ≤ s ∧ s ≤ 2147483647 ∧ b.length ≤ 40) := decide_eq_true_iff
theorem seq_ev (s : Int) : frame_seq.f s = some (decide (0 ≤ s ∧ s ≤ 2147483647)) := by
  unfold frame_seq.f
  by_cases h : s ≥ 0
  · rw [if_pos h]; congr 1; rw [Bool.eq_iff_iff, decide_eq_true_eq, decide_eq_true_eq]; omega
  · rw [if_neg h]; congr 1; symm; rw [decide_eq_false_iff_not]; omega
theorem valid_ev (k s : Int) (b : List Int) : frame_Valid.f k s b = some (validB k s b) := by
  unfold frame_Valid.f
  rw [seq_ev, Option.bind_some]
  unfold validB
  by_cases h1 : k ≥ 1
  case neg => rw [if_neg h1]; congr 1; symm; rw [decide_eq_false_iff_not]; omega
  by_cases h2 : k ≤ 6
  case neg => rw [if_pos h1, if_neg h2]; congr 1; symm; rw [decide_eq_false_iff_not]; omega
  rw [if_pos h1, if_pos h2]
  by_cases h3 : 0 ≤ s ∧ s ≤ 2147483647
  · rw [if_pos (decide_eq_true h3)]; congr 1; rw [Bool.eq_iff_iff, decide_eq_true_eq, decide_eq_true_eq]; omega
  · rw [if_neg (by rw [decide_eq_true_eq]; exact h3)]; congr 1; symm; rw [decide_eq_false_iff_not]; omega
theorem rvalid_ev (k s : Int) (b : List Int) : trickleref43_Valid.f k s b = some (validB k s b) := by
  unfold trickleref43_Valid.f validB
  by_cases h1 : k ≥ 1
  case neg => rw [if_neg h1]; congr 1; symm; rw [decide_eq_false_iff_not]; omega
  by_cases h2 : k ≤ 6
  case neg => rw [if_pos h1, if_neg h2]; congr 1; symm; rw [decide_eq_false_iff_not]; omega
  by_cases h3 : s ≥ 0
  case neg => rw [if_pos h1, if_pos h2, if_neg h3]; congr 1; symm; rw [decide_eq_false_iff_not]; omega
  by_cases h4 : s ≤ 2147483647
  case neg => rw [if_pos h1, if_pos h2, if_pos h3, if_neg h4]; congr 1; symm; rw [decide_eq_false_iff_not]; omega
  rw [if_pos h1, if_pos h2, if_pos h3, if_pos h4]; congr 1; rw [Bool.eq_iff_iff, decide_eq_true_eq, decide_eq_true_eq]; omega
/-- The packet of a frame: its head and body, and the checksum of both. -/
def pk (k s : Int) (b : List Int) : List Int := (k % 256 :: leN 4 s) ++ b
def tailB (l : List Int) : List Int := [I16 (crc l) / 256 % 256, I16 (crc l) % 256]
def enc (k s : Int) (b : List Int) : List Int := pk k s b ++ tailB (pk k s b)
theorem pk_bytes (k s : Int) (b : List Int) (h : Bytes b) : Bytes (pk k s b) := by
  refine Bytes.append ?_ h
  intro x hx
  rcases List.mem_cons.mp hx with rfl | hx
  · omega
  · exact leN_bytes 4 s x hx
theorem pk_length (k s : Int) (b : List Int) : (pk k s b).length = 5 + b.length := by
  unfold pk
  rw [List.length_append, List.length_cons, leN_length]
def encR (k s : Int) (b : List Int) : List Int × Int := if validB k s b = true then (enc k s b, 0) else ([], 1)
theorem clone_s (l : List Int) (h : l.length ≤ 140737488355328) : slices_Clone_byte.f l = some l := by unfold slices_Clone_byte.f cloneF; rw [if_pos h]
theorem clone_b (l : List Int) (h : l.length ≤ 140737488355328) : bytes_Clone.f l = some l := by unfold bytes_Clone.f cloneF; rw [if_pos h]
theorem append_ev (l : List Int) (hb : Bytes l) (hn : l.length ≤ 1000000) : Ev (fun k => crc16_Append.f k l) (l ++ tailB l) := by
  refine Ev.congr (fun k => by rw [crc16_Append.f]) (Ev.bind (sum_impl l hb hn) (Ev.const (a := l) (clone_s l (by omega)) (Ev.someb ?_)))
  exact Ev.pos (by simp only [List.length_cons, List.length_nil]; omega) (Ev.now _)
theorem encode_ev (k s : Int) (b : List Int) (hb : Bytes b) : Ev (fun n => frame_Encode.f n k s b) (encR k s b) := by
  refine Ev.congr (fun n => by rw [frame_Encode.f]) (Ev.const (valid_ev k s b) ?_)
  unfold encR
  by_cases h : validB k s b = true
  · have hl := ((validB_iff k s b).mp h).2.2.2.2
    rw [if_pos h]
    refine Ev.pos h (Ev.someb (Ev.bind (number_ev 4 (by omega) s) (Ev.pos (by rw [leN_length]; simp only [List.length_cons, List.length_nil]; omega) (Ev.someb (Ev.pos (by rw [List.length_append, leN_length]; simp only [List.length_cons, List.length_nil]; omega) ?_)))))
    have hp := pk_length k s b
    exact Ev.bind (append_ev (pk k s b) (pk_bytes k s b hb) (by omega)) (Ev.now _)
  · rw [if_neg h]
    exact Ev.neg h (Ev.now _)
theorem rencode_ev (k s : Int) (b : List Int) (hb : Bytes b) : Ev (fun n => trickleref43_Encode.f n k s b) (encR k s b) := by
  refine Ev.congr (fun n => by rw [trickleref43_Encode.f]) (Ev.const (rvalid_ev k s b) ?_)
  unfold encR
  by_cases h : validB k s b = true
  · have hl := ((validB_iff k s b).mp h).2.2.2.2
    have hp := pk_length k s b
    rw [if_pos h]
    refine Ev.pos h (Ev.someb (Ev.const (four_ev s) (Ev.pos (by rw [leN_length]; simp only [List.length_cons, List.length_nil]; omega) (Ev.someb (Ev.pos (by rw [List.length_append, leN_length]; simp only [List.length_cons, List.length_nil]; omega) (Ev.someb ?_))))))
    refine Ev.bind (sum_ref (pk k s b) (pk_bytes k s b hb) (by omega)) (Ev.someb ?_)
    exact Ev.pos (show (pk k s b).length + 2 < 140737488355328 by omega) (Ev.now _)
  · rw [if_neg h]
    exact Ev.neg h (Ev.now _)
/-- What is decoded of bytes. -/
def crcOK (l : List Int) : Bool := decide (I16 (crc (l.take (l.length - 2))) = rd l ((l.length - 2 : Nat) : Int) * 256 + rd l ((l.length - 1 : Nat) : Int))
def decR (l : List Int) : Int × Int × List Int × Int :=
  if l.length < 7 then (0, 0, [], 3)
  else if crcOK l = true then (if validB (rd l 0) (val ((l.take 5).drop 1)) ((l.take (l.length - 2)).drop 5) = true then (rd l 0, val ((l.take 5).drop 1), (l.take (l.length - 2)).drop 5, 0) else (0, 0, [], 2))
  else (0, 0, [], 4)
theorem rd_take (l : List Int) (n j : Nat) (h : j < n) : rd (l.take n) (j : Int) = rd l (j : Int) := by
  unfold rd
  rw [Int.toNat_natCast, List.getD_eq_getElem?_getD, List.getD_eq_getElem?_getD, List.getElem?_take_of_lt h]
theorem rd_drop (l : List Int) (n j : Nat) : rd (l.drop n) (j : Int) = rd l ((n + j : Nat) : Int) := by
  unfold rd
  rw [Int.toNat_natCast, Int.toNat_natCast, List.getD_eq_getElem?_getD, List.getD_eq_getElem?_getD, List.getElem?_drop]
theorem rd_byte (l : List Int) (hb : Bytes l) (j : Nat) (hj : j < l.length) : 0 ≤ rd l (j : Int) ∧ rd l (j : Int) ≤ 255 := by
  rw [rd_nat l j hj]
  exact hb _ (List.getElem_mem hj)
theorem check_ev (l : List Int) (hb : Bytes l) (h2 : 2 ≤ l.length) (hn : l.length ≤ 1000000) : Ev (fun k => crc16_Check.f k l) (if crcOK l = true then (l.take (l.length - 2), 0) else ([], 4)) := by
  have hw : wrap64 ((l.length : Int) - 2) = ((l.length - 2 : Nat) : Int) := by rw [wrap_id (by omega) (by omega)]; omega
  obtain ⟨x0, x1⟩ := rd_byte l hb (l.length - 2) (by omega)
  obtain ⟨y0, y1⟩ := rd_byte l hb (l.length - 1) (by omega)
  have e0 := rd_drop l (l.length - 2) 0
  have e1 := rd_drop l (l.length - 2) 1
  rw [show ((0 : Nat) : Int) = 0 from rfl, Nat.add_zero] at e0
  rw [show ((1 : Nat) : Int) = 1 from rfl, show l.length - 2 + 1 = l.length - 1 by omega] at e1
  refine Ev.congr (fun k => by rw [crc16_Check.f]) (Ev.neg (by omega) ?_)
  rw [hw, Int.toNat_natCast, e0, e1, or16 _ _ x0 x1 y0 y1]
  refine Ev.pos (by omega) (Ev.pos (by omega) (Ev.bind (sum_impl _ (hb.take _) (by rw [List.length_take]; omega)) (Ev.pos (by rw [List.length_drop]; omega) (Ev.pos (by rw [List.length_drop]; omega) ?_))))
  by_cases h : crcOK l = true
  · rw [if_pos h]
    exact Ev.pos (of_decide_eq_true h) (Ev.const (a := l.take (l.length - 2)) (clone_s _ (by rw [List.length_take]; omega)) (Ev.now _))
  · rw [if_neg h]
    exact Ev.neg (fun e => h (decide_eq_true e)) (Ev.now _)
theorem decode_ev (l : List Int) (hb : Bytes l) (hn : l.length ≤ 1000000) : Ev (fun k => frame_Decode.f k l) (decR l) := by
  unfold decR
  by_cases h7 : l.length < 7
  · rw [if_pos h7]
    exact Ev.congr (fun k => by rw [frame_Decode.f]) (Ev.pos (by omega) (Ev.now _))
  rw [if_neg h7]
  refine Ev.congr (fun k => by rw [frame_Decode.f]) (Ev.neg (by omega) (Ev.bind (check_ev l hb (by omega) hn) ?_))
  by_cases hc : crcOK l = true
  · rw [if_pos hc, if_pos hc]
    obtain ⟨x0, x1⟩ := rd_byte l hb 0 (by omega)
    rw [show ((0 : Nat) : Int) = 0 from rfl] at x0 x1
    have hr := rd_take l (l.length - 2) 0 (by omega)
    rw [show ((0 : Nat) : Int) = 0 from rfl] at hr
    have ht : (l.take (l.length - 2)).take 5 = l.take 5 := by rw [List.take_take]; congr 1; omega
    refine Ev.pos rfl (Ev.pos (by rw [List.length_take]; omega) (Ev.pos (by decide) (Ev.pos (by rw [List.length_take]; omega) ?_)))
    show Ev (fun k => (frame_value.f k (((l.take (l.length - 2)).take 5).drop 1)).bind fun t285 => (bytes_Clone.f ((l.take (l.length - 2)).drop 5)).bind fun t290 => (frame_Valid.f (wrap64 (rd (l.take (l.length - 2)) 0)) t285 t290).bind fun t294 => if t294 = true then some (wrap64 (rd (l.take (l.length - 2)) 0), t285, t290, 0) else some (0, 0, [], 2)) _
    rw [ht, hr, wrap_id (i := rd l 0) (by omega) (by omega)]
    refine Ev.bind (value_ev _ ((hb.take _).drop _) (by rw [List.length_drop, List.length_take]; omega)) (Ev.const (a := (l.take (l.length - 2)).drop 5) (clone_b _ (by rw [List.length_drop, List.length_take]; omega)) (Ev.const (valid_ev _ _ _) ?_))
    by_cases hv : validB (rd l 0) (val ((l.take 5).drop 1)) ((l.take (l.length - 2)).drop 5) = true
    · exact Ev.cast (Ev.pos hv (Ev.now _)) (if_pos hv).symm
    · exact Ev.cast (Ev.neg hv (Ev.now _)) (if_neg hv).symm
  · rw [if_neg hc, if_neg hc]
    exact Ev.neg (show ¬ ((4 : Int) = 0) by decide) (Ev.now _)
/-- A valid frame is decoded from its packet. -/
theorem decode_enc (k s : Int) (b : List Int) (hb : Bytes b) (hv : validB k s b = true) : decR (enc k s b) = (k, s, b, 0) := by
  obtain ⟨k0, k1, s0, s1, hl⟩ := (validB_iff k s b).mp hv
  have hp := pk_length k s b
  have hi := I16_range (crc (pk k s b))
  have hlen : (enc k s b).length = 7 + b.length := by
    unfold enc
    rw [List.length_append, hp]
    show 5 + b.length + 2 = _
    omega
  have ht : (enc k s b).take ((enc k s b).length - 2) = pk k s b := by
    rw [hlen]
    unfold enc
    rw [show 7 + b.length - 2 = (pk k s b).length by omega, List.take_left]
  have e2 : rd (enc k s b) (((enc k s b).length - 2 : Nat) : Int) = I16 (crc (pk k s b)) / 256 % 256 := by
    rw [hlen]
    unfold rd enc
    rw [Int.toNat_natCast, List.getD_eq_getElem?_getD, List.getElem?_append_right (by omega), show 7 + b.length - 2 - (pk k s b).length = 0 by omega]
    rfl
  have e1 : rd (enc k s b) (((enc k s b).length - 1 : Nat) : Int) = I16 (crc (pk k s b)) % 256 := by
    rw [hlen]
    unfold rd enc
    rw [Int.toNat_natCast, List.getD_eq_getElem?_getD, List.getElem?_append_right (by omega), show 7 + b.length - 1 - (pk k s b).length = 1 by omega]
    rfl
  have hc : crcOK (enc k s b) = true := by
    unfold crcOK
    rw [decide_eq_true_eq, ht, e1, e2]
    omega
  have h0 : rd (enc k s b) 0 = k := by show k % 256 = k; omega
  have h5 : ((enc k s b).take 5).drop 1 = leN 4 s := by
    unfold enc pk
    rw [List.append_assoc, List.take_append_of_le_length (by rw [List.length_cons, leN_length]; omega), List.take_of_length_le (by rw [List.length_cons, leN_length]; omega)]
    rfl
  have hd : ((enc k s b).take ((enc k s b).length - 2)).drop 5 = b := by
    rw [ht]
    unfold pk
    rw [show 5 = (k % 256 :: leN 4 s).length by rw [List.length_cons, leN_length], List.drop_left]
  unfold decR
  rw [if_neg (by omega), if_pos hc, h0, h5, hd, val_leN 4 s s0 (by omega), if_pos hv]
theorem enc_bytes (k s : Int) (b : List Int) (hb : Bytes b) : Bytes (enc k s b) := by
  refine Bytes.append (pk_bytes k s b hb) ?_
  have hi := I16_range (crc (pk k s b))
  intro x hx
  unfold tailB at hx
  rcases List.mem_cons.mp hx with rfl | hx
  · omega
  · rw [List.mem_singleton] at hx; omega
theorem enc_length (k s : Int) (b : List Int) : (enc k s b).length = 7 + b.length := by
  unfold enc
  rw [List.length_append, pk_length]
  show 5 + b.length + 2 = _
  omega
end Go.Proofs.YtfhnpphceeoeeaaDoor.PX
-- Written by a program of this session (wip/xprint.py, over the kit's print tool). Lean checks it.
namespace Go.Proofs.YtfhnpphceeoeeaaDoor.PX
open Go.RowKit Go.Proofs.YtfhnpphceeoeeaaDoorW.PrintWords Go.Proofs.YtfhnpphceeoeeaaDoorW.PrintLast Go.Proofs.YtfhnpphceeoeeaaDoorW.PrintMore
attribute [local go_sem] max2_int min2_int max_two min_two max_three min_three max_four min_four   -- for this text's walks alone
set_option linter.unusedVariables false
set_option linter.unusedSimpArgs false

/-! ### frame_Chunked: function 32 -/
def frame_Chunked.T3 : Bool × List (List Nat × List Nat) := (true, [([], []), ([0], [0]), ([1], [1]), ([2], [2]), ([], []), ([4], [4]), ([5], [5]), ([6, 3], [6]), ([3, 7, 0, 1, 2, 3], [3]), ([7, 8, 0, 1, 2, 3, 4, 5, 6, 7, 8], [7]), ([9, 0, 1, 2, 3, 4, 5, 6, 7, 8, 9], [])])
def frame_Chunked.B3 : List Nat := [0, 1, 3, 7, 0, 16, 48, 127, 255, 511, 1023]
theorem frame_Chunked.tab3 : rtab .any (opsOf Tryd.f32 3) = frame_Chunked.T3 := by kernel_rfl
theorem frame_Chunked.bits3 : waitsOk frame_Chunked.T3.2 frame_Chunked.B3 = true := by kernel_rfl
end Go.Proofs.YtfhnpphceeoeeaaDoor.PX
/- Frames in plain words, 2: the example; chunks. -/
namespace Go.Proofs.YtfhnpphceeoeeaaDoor.PX
open Go.RowKit Go.Proofs.YtfhnpphceeoeeaaDoorW.PrintWords Go.Proofs.YtfhnpphceeoeeaaDoorW.PrintLast Go.Proofs.YtfhnpphceeoeeaaDoorW.PrintMore
set_option linter.unusedVariables false
set_option linter.unusedSimpArgs false
theorem wakes43 : Ev (fun k => tricklelaw43_wakes.f k) true := Ev.of (k := 120) (fun k => tricklelaw43_wakes.mono k) (by kernel_rfl)
theorem equal_self (k s : Int) (b : List Int) : trickleref43_Equal.f k s b k s b = some true := by
  unfold trickleref43_Equal.f
  rw [if_pos rfl, if_pos rfl, beq_self_eq_true]
end Go.Proofs.YtfhnpphceeoeeaaDoor.PX
-- Written by a program of this session (wip/xprint.py, over the kit's print tool). Lean checks it.
namespace Go.Proofs.YtfhnpphceeoeeaaDoor.PX
open Go.RowKit Go.Proofs.YtfhnpphceeoeeaaDoorW.PrintWords Go.Proofs.YtfhnpphceeoeeaaDoorW.PrintLast Go.Proofs.YtfhnpphceeoeeaaDoorW.PrintMore
attribute [local go_sem] max2_int min2_int max_two min_two max_three min_three max_four min_four   -- for this text's walks alone
set_option linter.unusedVariables false
set_option linter.unusedSimpArgs false

/-! ### trickleref11_Num: function 50 -/
def trickleref11_Num.f : Nat → Int → Option (ByteArray)
  | 0, _ => none
  | k + 1, a0 => if a0 < 0 then ((trickleref11_Num.f k (wrap64 (-a0))).bind fun t250 => (if 1 + t250.size ≤ 9223372036854775807 then (some ((⟨#[45]⟩ : ByteArray) ++ t250)) else (none))) else (if a0 < 10 then (some (strOfNums (([(wrap64 (48 + a0)) % 256] : List Int)))) else ((trickleref11_Num.f k (wrap64 (Int.tdiv a0 10))).bind fun t254 => ((some (([(wrap64 (48 + (Int.tmod a0 10))) % 256] : List Int) : List Int)).bind fun y255 => (if t254.size + (strOfNums y255).size ≤ 9223372036854775807 then (some (t254 ++ (strOfNums y255))) else (none)))))
def trickleref11_Num.T5 : Bool × List (List Nat × List Nat) := (true, [([], []), ([0], [0]), ([1], [1]), ([], []), ([3], [3]), ([4], [4]), ([5], [5]), ([6], [6]), ([7], [7]), ([2, 8], [2, 8]), ([9, 2, 0, 1, 2, 3, 4, 5, 6, 7, 8, 9], [9])])
def trickleref11_Num.B5 : List Nat := [0, 1, 3, 0, 8, 24, 56, 120, 248, 511, 1023]
theorem trickleref11_Num.tab5 : rtab .any (opsOf Tryd.f50 5) = trickleref11_Num.T5 := by kernel_rfl
theorem trickleref11_Num.bits5 : waitsOk trickleref11_Num.T5.2 trickleref11_Num.B5 = true := by kernel_rfl
set_option maxHeartbeats 8000000 in
set_option maxRecDepth 100000 in
theorem trickleref11_Num.calls (k : Nat) : ∀ (a0 : Int) (r : ByteArray) (w : World) (h : trickleref11_Num.f k a0 = some r),
    Calls Tryd.prog 50 #[.int .i64 a0] w fun e w' => e = .returned (.string r) ∧ Below w.heap.size w w' := by
  induction k using Nat.strongRecOn with
  | _ k ih =>
  intro a0 r w h
  cases k with
  | zero => exact absurd h (by simp [trickleref11_Num.f])
  | succ k =>
  simp only [trickleref11_Num.f] at h
  have HB := Aside0.mk (Below.refl w.heap.size w)
  have H : (if a0 < 0 then ((trickleref11_Num.f k (wrap64 (-a0))).bind fun t250 => (if 1 + t250.size ≤ 9223372036854775807 then (some ((⟨#[45]⟩ : ByteArray) ++ t250)) else (none))) else (if a0 < 10 then (some (strOfNums (([(wrap64 (48 + a0)) % 256] : List Int)))) else ((trickleref11_Num.f k (wrap64 (Int.tdiv a0 10))).bind fun t254 => ((some (([(wrap64 (48 + (Int.tmod a0 10))) % 256] : List Int) : List Int)).bind fun y255 => (if t254.size + (strOfNums y255).size ≤ 9223372036854775807 then (some (t254 ++ (strOfNums y255))) else (none)))))) = some r := h
  clear h
  by_cases c2 : a0 < 0
  · rw [if_pos c2] at H
    have c2b0 : decide (a0 < 0) = true := decide_eq_true c2
    clear c2
    replace H := Option.bind_eq_some_iff.mp H
    obtain ⟨t250, A30, H⟩ := H
    replace H : (if 1 + t250.size ≤ 9223372036854775807 then (some ((⟨#[45]⟩ : ByteArray) ++ t250)) else (none)) = some r := H
    have A3 := Aside0.mk A30
    clear A30
    by_cases c4 : 1 + t250.size ≤ 9223372036854775807
    · rw [if_pos c4] at H
      have c4b0 := eq_true c4
      have c4b1 : decide (1 + t250.size ≤ 9223372036854775807) = true := decide_eq_true c4
      try have c4b2 : (9223372036854775807 < 1 + t250.size) = False := eq_false (Nat.not_lt.2 c4)
      obtain rfl := Option.some.inj H
      go_enter Tryd.func50, Tryd.ntmps50
      go_wp2_with (first | ((with_reducible refine gate_callee (f := 50) rfl ?_); refine goesL_ (some 7) rfl rfl Tryd.func50 (by kernel_rfl) rfl #[.int .i64 (wrap64 (-a0))] rfl (by (try simp only [List.map_toArray, List.map_cons, List.map_nil]); first | done | rfl | (simp only [List.length_drop, List.length_take]; rfl)) ?_; (with_reducible refine (ih k (by omega) (wrap64 (-a0)) t250 _ A3.out).mono ?_); rintro e w5 ⟨rfl, hb⟩; refine ⟨_, rfl, ?_⟩; have n0_ := Aside0.mk (below_step (by repeat (first | (with_reducible first | exact HB.out | apply below_alloc | apply pw_below_drewN | apply below_drew1) | exact HB.out)) hb); clear HB; have HB := n0_; clear n0_; (try clear hb); (try clear hb2); (try clear hk); (try clear hi)))
      go_ret
      exact ⟨by first | rfl | (simp [errW_none, errW_some] <;> rfl) | (simp [*, errW_none, errW_some] <;> rfl), by repeat (first | (with_reducible first | exact HB.out | apply below_alloc | apply pw_below_drewN | apply below_drew1) | exact HB.out)⟩
    · rw [if_neg c4] at H
      exact absurd H (by simp)
  · rw [if_neg c2] at H
    have c2b0 : decide (a0 < 0) = false := decide_eq_false c2
    clear c2
    by_cases c6 : a0 < 10
    · rw [if_pos c6] at H
      have c6b0 : decide (a0 < 10) = true := decide_eq_true c6
      clear c6
      obtain ⟨y251, hy251⟩ : ∃ y_ : List Int, y_ = (([(wrap64 (48 + a0)) % 256] : List Int)) := ⟨_, rfl⟩
      replace H : (some (strOfNums y251)) = some r := by first | (rw [hy251]; with_reducible exact H) | (have H2_ := (Option.bind_some _ _).symm.trans H; rw [hy251]; with_reducible exact H2_) | (have H2_ := (Option.bind_some _ _).symm.trans H; with_reducible exact H2_) | with_reducible exact H | (rw [hy251]; exact H) | exact H
      have Ny251 := Aside0.mk hy251
      clear hy251
      obtain rfl := Option.some.inj H
      go_enter Tryd.func50, Tryd.ntmps50
      go_wp2_with (first | ((with_reducible refine gate_dst (N := 14) rfl ?_); refine Kd.R_lit (Kd.int .u8) _ 5 ?hg (N := 14) ?hd (xs := ([(wrap64 (48 + a0)) % 256] : List Int)) (inner := [.int .u8 ((wrap64 (48 + a0)) % 256)]) (ok := fun _ => True) (okp := fun _ => True) ?hr ?hp (fun _ hk => hk) trivial (Below.refl _ _) (Nat.le_refl _) (by simp) ?_; (case hd => rfl); (case hg => rfl); (case hr => first | (go_simp; done) | (go_simp; rfl)); (case hp => exact (Reps.one (show Kd.M (Kd.int .u8) _ _ _ ((wrap64 (48 + a0)) % 256) [.int .u8 ((wrap64 (48 + a0)) % 256)] from rfl) (Reps.none _ _))); intro v252 w7 ho8 hb hg_ hnew_; clear hg_ hnew_; (first | rw [← Ny251.out] at ho8 | (simp only [Int.reduceToNat] at ho8; rw [← Ny251.out] at ho8)); have n0_ := Aside0.mk (Kd.R_lower ho8 (below_size (by repeat (first | (with_reducible first | exact HB.out | apply below_alloc | apply pw_below_drewN | apply below_drew1) | exact HB.out)))); have n1_ := Aside0.mk (below_step (by repeat (first | (with_reducible first | exact HB.out | apply below_alloc | apply pw_below_drewN | apply below_drew1) | exact HB.out)) hb); clear HB; have HO253 := n0_; have HB := n1_; clear n0_ n1_; clear hb ho8; have hcv9 := own_string (P := Tryd.prog) Tryd.underlying24 Tryd.underlying5 Tryd.underlying9 (Kd.own_of_R HO253.out)))
      go_ret
      exact ⟨by first | rfl | (simp [errW_none, errW_some] <;> rfl) | (simp [*, errW_none, errW_some] <;> rfl), by repeat (first | (with_reducible first | exact HB.out | apply below_alloc | apply pw_below_drewN | apply below_drew1) | exact HB.out)⟩
    · rw [if_neg c6] at H
      have c6b0 : decide (a0 < 10) = false := decide_eq_false c6
      clear c6
      replace H := Option.bind_eq_some_iff.mp H
      obtain ⟨t254, A100, H⟩ := H
      replace H : ((some (([(wrap64 (48 + (Int.tmod a0 10))) % 256] : List Int) : List Int)).bind fun y255 => (if t254.size + (strOfNums y255).size ≤ 9223372036854775807 then (some (t254 ++ (strOfNums y255))) else (none))) = some r := H
      have A10 := Aside0.mk A100
      clear A100
      obtain ⟨y255, hy255⟩ : ∃ y_ : List Int, y_ = (([(wrap64 (48 + (Int.tmod a0 10))) % 256] : List Int)) := ⟨_, rfl⟩
      replace H : (if t254.size + (strOfNums y255).size ≤ 9223372036854775807 then (some (t254 ++ (strOfNums y255))) else (none)) = some r := by first | (rw [hy255]; with_reducible exact H) | (have H2_ := (Option.bind_some _ _).symm.trans H; rw [hy255]; with_reducible exact H2_) | (have H2_ := (Option.bind_some _ _).symm.trans H; with_reducible exact H2_) | with_reducible exact H | (rw [hy255]; exact H) | exact H
      have Ny255 := Aside0.mk hy255
      clear hy255
      by_cases c11 : t254.size + (strOfNums y255).size ≤ 9223372036854775807
      · rw [if_pos c11] at H
        have c11b0 := eq_true c11
        have c11b1 : decide (t254.size + (strOfNums y255).size ≤ 9223372036854775807) = true := decide_eq_true c11
        try have c11b2 : (9223372036854775807 < t254.size + (strOfNums y255).size) = False := eq_false (Nat.not_lt.2 c11)
        obtain rfl := Option.some.inj H
        go_enter Tryd.func50, Tryd.ntmps50
        try go_wp2
        have n0_ := Aside0.mk (below_drew1 HB.out)
        clear HB
        have HB := n0_
        clear n0_
        refine start_ (n := 11) (S := fun w' => True) (ds := []) #[false, false, false, false, false, false, false, false, false, false, false] (by kernel_rfl) rfl rfl trivial (fun hHeld => ?_); refine with_tabW trickleref11_Num.tab5 trickleref11_Num.bits5 (fun HT_ HW_ => ?_)
        generalize w.drew = w12 at HB hHeld ⊢
        refine pure_ (i := 0) (N := some 16) (v := ?_) (a' := ?_) #[true, false, false, false, false, false, false, false, false, false, false] rfl rfl (any_of HT_.out (by kernel_rfl)) (fun _ _ _ h => h) (Or.inl ⟨by rfl, ?_⟩) ?_ ?_
        rotate_left
        · intro w'
          go_simp
          with_reducible rfl
        rotate_left
        · simp only [Act.put, List.setIfInBounds_toArray, List.set_cons_zero, List.set_cons_succ, i64_w, i32_w]
          rfl
        refine pure_ (i := 1) (N := some 17) (v := ?_) (a' := ?_) #[true, true, false, false, false, false, false, false, false, false, false] rfl rfl (any_of HT_.out (by kernel_rfl)) (fun _ _ _ h => h) (Or.inl ⟨by rfl, ?_⟩) ?_ ?_
        rotate_left
        · intro w'
          go_simp
          with_reducible rfl
        rotate_left
        · simp only [Act.put, List.setIfInBounds_toArray, List.set_cons_zero, List.set_cons_succ, i64_w, i32_w]
          rfl
        refine pure_ (i := 3) (N := some 19) (v := ?_) (a' := ?_) #[true, true, false, true, false, false, false, false, false, false, false] rfl rfl (any_of HT_.out (by kernel_rfl)) (fun _ _ _ h => h) (Or.inl ⟨by rfl, ?_⟩) ?_ ?_
        rotate_left
        · intro w'
          go_simp
          with_reducible rfl
        rotate_left
        · simp only [Act.put, List.setIfInBounds_toArray, List.set_cons_zero, List.set_cons_succ, i64_w, i32_w]
          rfl
        refine pure_ (i := 4) (N := some 20) (v := ?_) (a' := ?_) #[true, true, false, true, true, false, false, false, false, false, false] rfl rfl (any_of HT_.out (by kernel_rfl)) (fun _ _ _ h => h) (Or.inl ⟨by rfl, ?_⟩) ?_ ?_
        rotate_left
        · intro w'
          go_simp
          with_reducible rfl
        rotate_left
        · simp only [Act.put, List.setIfInBounds_toArray, List.set_cons_zero, List.set_cons_succ, i64_w, i32_w]
          rfl
        refine pure_ (i := 5) (N := some 21) (v := ?_) (a' := ?_) #[true, true, false, true, true, true, false, false, false, false, false] rfl rfl (any_of HT_.out (by kernel_rfl)) (fun _ _ _ h => h) (Or.inl ⟨by rfl, ?_⟩) ?_ ?_
        rotate_left
        · intro w'
          go_simp
          with_reducible rfl
        rotate_left
        · simp only [Act.put, List.setIfInBounds_toArray, List.set_cons_zero, List.set_cons_succ, i64_w, i32_w]
          rfl
        refine pure_ (i := 6) (N := some 22) (v := ?_) (a' := ?_) #[true, true, false, true, true, true, true, false, false, false, false] rfl rfl (any_of HT_.out (by kernel_rfl)) (fun _ _ _ h => h) (Or.inl ⟨by rfl, ?_⟩) ?_ ?_
        rotate_left
        · intro w'
          go_simp
          with_reducible rfl
        rotate_left
        · simp only [Act.put, List.setIfInBounds_toArray, List.set_cons_zero, List.set_cons_succ, i64_w, i32_w]
          rfl
        refine join_ (σ := Value) 2 #[true, true, true, true, true, true, true, true, true, false, false] (fun s_ => [(18, .string t254), (23, s_), (24, .string (strOfNums y255))]) (fun s_ w' => (Kd.R (Kd.int .u8) 5 w' w.heap.size (fun _ => True) s_ y255) ∧ (Below w.heap.size w w')) ?_ ?_
        rotate_left
        · intro hCont
          refine two_ (i := 2) (j := 7) (Ni := some 18) (Nj := some 23) #[true, true, true, true, true, true, true, false, false, false, false] #[true, true, false, true, true, true, true, true, false, false, false] rfl rfl rfl rfl (two_of HT_.out (by kernel_rfl)) (by decide) (by decide) (fun K hK => ?_) (fun K hK => ?_)
          · skip
            refine goes_ Tryd.func50 (by kernel_rfl) rfl #[.int .i64 (wrap64 (Int.tdiv a0 10))] (by rfl) rfl rfl (by (try simp only [List.map_toArray, List.map_cons, List.map_nil]); first | done | rfl | (simp only [List.length_drop, List.length_take]; rfl)) ?_
            with_reducible refine (ih k (by omega) (wrap64 (Int.tdiv a0 10)) t254 _ A10.out).mono ?_
            rintro e w13 ⟨rfl, hb⟩
            refine ⟨_, rfl, ?_⟩
            have n0_ := Aside0.mk (below_step (by repeat (first | (with_reducible first | exact HB.out | apply below_alloc | apply pw_below_drewN | apply below_drew1) | exact HB.out)) hb)
            clear HB
            have HB := n0_
            clear n0_
            (try clear hb)
            (try clear hb2)
            (try clear hk)
            (try clear hi)
            refine hK.out _ _ trivial (fun hHeld => ?_)
            clear hK K
            refine norm_ (a' := ?_) ?_ ?_
            rotate_left
            · show Act.put _ (some 18) _ = _
              simp only [Act.put, List.setIfInBounds_toArray, List.set_cons_zero, List.set_cons_succ, i64_w, i32_w]
              rfl
            refine one_ (i := 7) (N := some 23) #[true, true, true, true, true, true, true, true, false, false, false] rfl rfl (one_of HT_.out (by kernel_rfl)) (by decide) (fun K hK => ?_)
            refine Kd.R_lit_step (Kd.int .u8) _ 5 ?hg (N := 23) ?hd (xs := ([(wrap64 (48 + (Int.tmod a0 10))) % 256] : List Int)) (inner := [.int .u8 ((wrap64 (48 + (Int.tmod a0 10))) % 256)]) (ok := fun _ => True) (okp := fun _ => True) ?hr ?hp (fun _ hk => hk) trivial (Below.refl _ _) (Nat.le_refl _) (by simp) ?_; (case hd => rfl); (case hg => rfl); (case hr => first | (go_simp; done) | (go_simp; rfl)); (case hp => exact (Reps.one (show Kd.M (Kd.int .u8) _ _ _ ((wrap64 (48 + (Int.tmod a0 10))) % 256) [.int .u8 ((wrap64 (48 + (Int.tmod a0 10))) % 256)] from rfl) (Reps.none _ _)))
            intro v256 w14 ho15 hb hg_ hnew_
            clear hg_ hnew_
            (first | rw [← Ny255.out] at ho15 | (simp only [Int.reduceToNat] at ho15; rw [← Ny255.out] at ho15))
            have n0_ := Aside0.mk (Kd.R_lower ho15 (below_size (by repeat (first | (with_reducible first | exact HB.out | apply below_alloc | apply pw_below_drewN | apply below_drew1) | exact HB.out))))
            have n1_ := Aside0.mk (below_step (by repeat (first | (with_reducible first | exact HB.out | apply below_alloc | apply pw_below_drewN | apply below_drew1) | exact HB.out)) hb)
            clear HB
            have HO257 := n0_
            have HB := n1_
            clear n0_ n1_
            clear hb ho15
            refine hK.out _ _ trivial (fun hHeld => ?_)
            clear hK K
            refine norm_ (a' := ?_) ?_ ?_
            rotate_left
            · show Act.put _ (some 23) _ = _
              simp only [Act.put, List.setIfInBounds_toArray, List.set_cons_zero, List.set_cons_succ, i64_w, i32_w]
              rfl
            refine one_ (i := 8) (N := some 24) #[true, true, true, true, true, true, true, true, true, false, false] rfl rfl (one_of HT_.out (by kernel_rfl)) (by decide) (fun K hK => ?_)
            have hcv16 := own_string (P := Tryd.prog) Tryd.underlying24 Tryd.underlying5 Tryd.underlying9 (Kd.own_of_R HO257.out)
            refine value_ (w1 := ?_) (v := ?_) (by rfl) rfl ?_ ?_
            rotate_left 2
            · go_simp
              constructor
              · rfl
              · rfl
            clear hcv16
            refine hK.out _ _ trivial (fun hHeld => ?_)
            clear hK K
            refine norm_ (a' := ?_) ?_ ?_
            rotate_left
            · show Act.put _ (some 24) _ = _
              simp only [Act.put, List.setIfInBounds_toArray, List.set_cons_zero, List.set_cons_succ, i64_w, i32_w]
              rfl
            exact norm_ (by simp only [putAll, Act.put, List.setIfInBounds_toArray, List.set_cons_zero, List.set_cons_succ]) (hCont (v256) _ ⟨(by (with_reducible repeat (first | apply Kd.R_alloc | apply Kd.R_drewN | apply Kd.R_drew)); exact HO257.out), (by repeat (first | (with_reducible first | exact HB.out | apply below_alloc | apply pw_below_drewN | apply below_drew1) | exact HB.out))⟩)
          · skip
            refine Kd.R_lit_step (Kd.int .u8) _ 5 ?hg (N := 23) ?hd (xs := ([(wrap64 (48 + (Int.tmod a0 10))) % 256] : List Int)) (inner := [.int .u8 ((wrap64 (48 + (Int.tmod a0 10))) % 256)]) (ok := fun _ => True) (okp := fun _ => True) ?hr ?hp (fun _ hk => hk) trivial (Below.refl _ _) (Nat.le_refl _) (by simp) ?_; (case hd => rfl); (case hg => rfl); (case hr => first | (go_simp; done) | (go_simp; rfl)); (case hp => exact (Reps.one (show Kd.M (Kd.int .u8) _ _ _ ((wrap64 (48 + (Int.tmod a0 10))) % 256) [.int .u8 ((wrap64 (48 + (Int.tmod a0 10))) % 256)] from rfl) (Reps.none _ _)))
            intro v256 w13 ho14 hb hg_ hnew_
            clear hg_ hnew_
            (first | rw [← Ny255.out] at ho14 | (simp only [Int.reduceToNat] at ho14; rw [← Ny255.out] at ho14))
            have n0_ := Aside0.mk (Kd.R_lower ho14 (below_size (by repeat (first | (with_reducible first | exact HB.out | apply below_alloc | apply pw_below_drewN | apply below_drew1) | exact HB.out))))
            have n1_ := Aside0.mk (below_step (by repeat (first | (with_reducible first | exact HB.out | apply below_alloc | apply pw_below_drewN | apply below_drew1) | exact HB.out)) hb)
            clear HB
            have HO257 := n0_
            have HB := n1_
            clear n0_ n1_
            clear hb ho14
            refine hK.out _ _ trivial (fun hHeld => ?_)
            clear hK K
            refine norm_ (a' := ?_) ?_ ?_
            rotate_left
            · show Act.put _ (some 23) _ = _
              simp only [Act.put, List.setIfInBounds_toArray, List.set_cons_zero, List.set_cons_succ, i64_w, i32_w]
              rfl
            refine two_ (i := 2) (j := 8) (Ni := some 18) (Nj := some 24) #[true, true, true, true, true, true, true, true, false, false, false] #[true, true, false, true, true, true, true, true, true, false, false] rfl rfl rfl rfl (two_of HT_.out (by kernel_rfl)) (by decide) (by decide) (fun K hK => ?_) (fun K hK => ?_)
            · skip
              refine goes_ Tryd.func50 (by kernel_rfl) rfl #[.int .i64 (wrap64 (Int.tdiv a0 10))] (by rfl) rfl rfl (by (try simp only [List.map_toArray, List.map_cons, List.map_nil]); first | done | rfl | (simp only [List.length_drop, List.length_take]; rfl)) ?_
              with_reducible refine (ih k (by omega) (wrap64 (Int.tdiv a0 10)) t254 _ A10.out).mono ?_
              rintro e w15 ⟨rfl, hb⟩
              refine ⟨_, rfl, ?_⟩
              have n0_ := Aside0.mk (Kd.R_below (by (with_reducible repeat (first | apply Kd.R_alloc | apply Kd.R_drewN | apply Kd.R_drew)); exact HO257.out) hb)
              have n1_ := Aside0.mk (below_step (by repeat (first | (with_reducible first | exact HB.out | apply below_alloc | apply pw_below_drewN | apply below_drew1) | exact HB.out)) hb)
              clear HO257
              clear HB
              have HO257 := n0_
              have HB := n1_
              clear n0_ n1_
              (try clear hb)
              (try clear hb2)
              (try clear hk)
              (try clear hi)
              refine hK.out _ _ trivial (fun hHeld => ?_)
              clear hK K
              refine norm_ (a' := ?_) ?_ ?_
              rotate_left
              · show Act.put _ (some 18) _ = _
                simp only [Act.put, List.setIfInBounds_toArray, List.set_cons_zero, List.set_cons_succ, i64_w, i32_w]
                rfl
              refine one_ (i := 8) (N := some 24) #[true, true, true, true, true, true, true, true, true, false, false] rfl rfl (one_of HT_.out (by kernel_rfl)) (by decide) (fun K hK => ?_)
              have hcv16 := own_string (P := Tryd.prog) Tryd.underlying24 Tryd.underlying5 Tryd.underlying9 (Kd.own_of_R HO257.out)
              refine value_ (w1 := ?_) (v := ?_) (by rfl) rfl ?_ ?_
              rotate_left 2
              · go_simp
                constructor
                · rfl
                · rfl
              clear hcv16
              refine hK.out _ _ trivial (fun hHeld => ?_)
              clear hK K
              refine norm_ (a' := ?_) ?_ ?_
              rotate_left
              · show Act.put _ (some 24) _ = _
                simp only [Act.put, List.setIfInBounds_toArray, List.set_cons_zero, List.set_cons_succ, i64_w, i32_w]
                rfl
              exact norm_ (by simp only [putAll, Act.put, List.setIfInBounds_toArray, List.set_cons_zero, List.set_cons_succ]) (hCont (v256) _ ⟨(by (with_reducible repeat (first | apply Kd.R_alloc | apply Kd.R_drewN | apply Kd.R_drew)); exact HO257.out), (by repeat (first | (with_reducible first | exact HB.out | apply below_alloc | apply pw_below_drewN | apply below_drew1) | exact HB.out))⟩)
            · skip
              have hcv15 := own_string (P := Tryd.prog) Tryd.underlying24 Tryd.underlying5 Tryd.underlying9 (Kd.own_of_R HO257.out)
              refine value_ (w1 := ?_) (v := ?_) (by rfl) rfl ?_ ?_
              rotate_left 2
              · go_simp
                constructor
                · rfl
                · rfl
              clear hcv15
              refine hK.out _ _ trivial (fun hHeld => ?_)
              clear hK K
              refine norm_ (a' := ?_) ?_ ?_
              rotate_left
              · show Act.put _ (some 24) _ = _
                simp only [Act.put, List.setIfInBounds_toArray, List.set_cons_zero, List.set_cons_succ, i64_w, i32_w]
                rfl
              refine one_ (i := 2) (N := some 18) #[true, true, true, true, true, true, true, true, true, false, false] rfl rfl (one_of HT_.out (by kernel_rfl)) (by decide) (fun K hK => ?_)
              refine goes_ Tryd.func50 (by kernel_rfl) rfl #[.int .i64 (wrap64 (Int.tdiv a0 10))] (by rfl) rfl rfl (by (try simp only [List.map_toArray, List.map_cons, List.map_nil]); first | done | rfl | (simp only [List.length_drop, List.length_take]; rfl)) ?_
              with_reducible refine (ih k (by omega) (wrap64 (Int.tdiv a0 10)) t254 _ A10.out).mono ?_
              rintro e w16 ⟨rfl, hb⟩
              refine ⟨_, rfl, ?_⟩
              have n0_ := Aside0.mk (Kd.R_below (by (with_reducible repeat (first | apply Kd.R_alloc | apply Kd.R_drewN | apply Kd.R_drew)); exact HO257.out) hb)
              have n1_ := Aside0.mk (below_step (by repeat (first | (with_reducible first | exact HB.out | apply below_alloc | apply pw_below_drewN | apply below_drew1) | exact HB.out)) hb)
              clear HO257
              clear HB
              have HO257 := n0_
              have HB := n1_
              clear n0_ n1_
              (try clear hb)
              (try clear hb2)
              (try clear hk)
              (try clear hi)
              refine hK.out _ _ trivial (fun hHeld => ?_)
              clear hK K
              refine norm_ (a' := ?_) ?_ ?_
              rotate_left
              · show Act.put _ (some 18) _ = _
                simp only [Act.put, List.setIfInBounds_toArray, List.set_cons_zero, List.set_cons_succ, i64_w, i32_w]
                rfl
              exact norm_ (by simp only [putAll, Act.put, List.setIfInBounds_toArray, List.set_cons_zero, List.set_cons_succ]) (hCont (v256) _ ⟨(by (with_reducible repeat (first | apply Kd.R_alloc | apply Kd.R_drewN | apply Kd.R_drew)); exact HO257.out), (by repeat (first | (with_reducible first | exact HB.out | apply below_alloc | apply pw_below_drewN | apply below_drew1) | exact HB.out))⟩)
        rintro v256 w17 ⟨h0_, h1_⟩
        have n0_ : Aside0 (Kd.R (Kd.int .u8) 5 w17 w.heap.size (fun _ => True) v256 y255) := ⟨h0_⟩
        have n1_ : Aside0 (Below w.heap.size w w17) := ⟨h1_⟩
        clear HB
        clear h0_ h1_
        have HO257 := n0_
        have HB := n1_
        clear n0_ n1_
        have hHeld := trivial
        refine norm_ (a' := ?_) ?_ ?_
        rotate_left
        · simp only [putAll, Act.put, List.setIfInBounds_toArray, List.set_cons_zero, List.set_cons_succ]
          rfl
        refine pure_ (i := 9) (N := some 25) (v := ?_) (a' := ?_) #[true, true, true, true, true, true, true, true, true, true, false] rfl rfl (any_of HT_.out (by kernel_rfl)) (fun _ _ _ h => h) (Or.inl ⟨by rfl, ?_⟩) ?_ ?_
        rotate_left
        · intro w'
          go_simp
          with_reducible rfl
        rotate_left
        · simp only [Act.put, List.setIfInBounds_toArray, List.set_cons_zero, List.set_cons_succ, i64_w, i32_w]
          rfl
        refine pure_ (i := 10) (N := some 2) (v := ?_) (a' := ?_) #[true, true, true, true, true, true, true, true, true, true, true] rfl rfl (any_of HT_.out (by kernel_rfl)) (fun _ _ _ h => h) (Or.inl ⟨by rfl, ?_⟩) ?_ ?_
        rotate_left
        · intro w'
          go_simp
          with_reducible rfl
        rotate_left
        · simp only [Act.put, List.setIfInBounds_toArray, List.set_cons_zero, List.set_cons_succ, i64_w, i32_w]
          rfl
        refine done_ (done_of HT_.out (by kernel_rfl)) ?_
        try go_wp2
        go_ret
        exact ⟨by first | rfl | (simp [errW_none, errW_some] <;> rfl) | (simp [*, errW_none, errW_some] <;> rfl), by repeat (first | (with_reducible first | exact HB.out | apply below_alloc | apply pw_below_drewN | apply below_drew1) | exact HB.out)⟩
      · rw [if_neg c11] at H
        exact absurd H (by simp)

end Go.Proofs.YtfhnpphceeoeeaaDoor.PX
