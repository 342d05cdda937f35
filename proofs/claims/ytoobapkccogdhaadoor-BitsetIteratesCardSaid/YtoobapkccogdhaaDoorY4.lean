/- Parts of the proof, merged in build order: PXx11, Bs5, Bs6, MIter1, MIter. -/
import Derived.Test.YtoobapkccogdhaaDoorY1
import Derived.Test.YtoobapkccogdhaaDoorY2
import Derived.Test.YtoobapkccogdhaaDoorY3
-- Written by a program of this session (wip/xprint.py, over the kit's print tool). Lean checks it.
namespace Go.Proofs.YtoobapkccogdhaaDoor.PX
open Go.RowKit Go.Proofs.YtoobapkccogdhaaDoorW.PrintWords Go.Proofs.YtoobapkccogdhaaDoorW.PrintLast Go.Proofs.YtoobapkccogdhaaDoorW.PrintMore
attribute [local go_sem] max2_int min2_int max_two min_two max_three min_three max_four min_four   -- for this text's walks alone
set_option linter.unusedVariables false
set_option linter.unusedSimpArgs false

/-! ### tricklelaw04_awake: function 11 -/
def tricklelaw04_awake.f (k : Nat)  : Option (Bool) := (bitset_Of.f k (([5, 1, 3, 1] : List Int))).bind fun t154 => ((bitset_Set_Len.f k t154).bind fun t158 => (if t158 = 3 then ((bitset_Set_String.f t154).bind fun t159 => (if t159.toList = ([123, 49, 32, 51, 32, 53, 125] : List UInt8) then ((bitset_Range.f k 2 5).bind fun t160 => ((bitset_Set_String.f t160).bind fun t163 => (if t163.toList = ([123, 50, 32, 51, 32, 52, 125] : List UInt8) then ((bitset_Of.f k ([] : List Int)).bind fun t164 => ((bitset_Set_String.f t164).bind fun t167 => (if t167.toList = ([123, 125] : List UInt8) then ((bitset_Set_Has.f t154 3).bind fun t168 => (if t168 = true then ((bitset_Set_Has.f t154 2).bind fun t169 => (some (!t169))) else (some false))) else (some false)))) else (some false)))) else (some false))) else (some false)))
theorem tricklelaw04_awake.mono : ∀ k, LeO (tricklelaw04_awake.f k ) (tricklelaw04_awake.f (k + 1) ) := by
  intro  k
  unfold tricklelaw04_awake.f
  repeat' first
      | (with_reducible exact bitset_Of.mono _ _)
      | (with_reducible exact bitset_Range.mono _ _ _)
      | (with_reducible exact bitset_Set_Len.mono _ _)
      | (with_reducible exact LeO.refl _)
      | (with_reducible exact LeO.none _)
      | (with_reducible refine LeO.ite ?_ ?_)
      | (with_reducible refine LeO.bind ?_ (fun _ => ?_))
      | exact bitset_Of.mono _ _
      | exact bitset_Range.mono _ _ _
      | exact bitset_Set_Len.mono _ _
      | exact LeO.none _
      | refine LeO.ite ?_ ?_
      | refine LeO.bind ?_ (fun _ => ?_)
set_option maxHeartbeats 8000000 in
set_option maxRecDepth 100000 in
theorem tricklelaw04_awake.calls (k : Nat)  (r : Bool) (w : World) (hG : GW w) (h : tricklelaw04_awake.f k  = some r) :
    Calls Tryd.prog 11 #[] w fun e w' => e = .returned (.bool r) ∧ Below w.heap.size w w' := by
  have hu27 := Tryd.underlying27
  have HG := Aside0.mk hG
  clear hG
  have HB := Aside0.mk (Below.refl w.heap.size w)
  have H : ((bitset_Of.f k (([5, 1, 3, 1] : List Int))).bind fun t154 => ((bitset_Set_Len.f k t154).bind fun t158 => (if t158 = 3 then ((bitset_Set_String.f t154).bind fun t159 => (if t159.toList = ([123, 49, 32, 51, 32, 53, 125] : List UInt8) then ((bitset_Range.f k 2 5).bind fun t160 => ((bitset_Set_String.f t160).bind fun t163 => (if t163.toList = ([123, 50, 32, 51, 32, 52, 125] : List UInt8) then ((bitset_Of.f k ([] : List Int)).bind fun t164 => ((bitset_Set_String.f t164).bind fun t167 => (if t167.toList = ([123, 125] : List UInt8) then ((bitset_Set_Has.f t154 3).bind fun t168 => (if t168 = true then ((bitset_Set_Has.f t154 2).bind fun t169 => (some (!t169))) else (some false))) else (some false)))) else (some false)))) else (some false))) else (some false)))) = some r := h
  clear h
  obtain ⟨y151, hy151⟩ : ∃ y_ : List Int, y_ = (([5, 1, 3, 1] : List Int)) := ⟨_, rfl⟩
  replace H : ((bitset_Of.f k y151).bind fun t154 => ((bitset_Set_Len.f k t154).bind fun t158 => (if t158 = 3 then ((bitset_Set_String.f t154).bind fun t159 => (if t159.toList = ([123, 49, 32, 51, 32, 53, 125] : List UInt8) then ((bitset_Range.f k 2 5).bind fun t160 => ((bitset_Set_String.f t160).bind fun t163 => (if t163.toList = ([123, 50, 32, 51, 32, 52, 125] : List UInt8) then ((bitset_Of.f k ([] : List Int)).bind fun t164 => ((bitset_Set_String.f t164).bind fun t167 => (if t167.toList = ([123, 125] : List UInt8) then ((bitset_Set_Has.f t154 3).bind fun t168 => (if t168 = true then ((bitset_Set_Has.f t154 2).bind fun t169 => (some (!t169))) else (some false))) else (some false)))) else (some false)))) else (some false))) else (some false)))) = some r := by first | (rw [hy151]; with_reducible exact H) | (have H2_ := (Option.bind_some _ _).symm.trans H; rw [hy151]; with_reducible exact H2_) | (have H2_ := (Option.bind_some _ _).symm.trans H; with_reducible exact H2_) | with_reducible exact H | (rw [hy151]; exact H) | exact H
  have Ny151 := Aside0.mk hy151
  clear hy151
  replace H := Option.bind_eq_some_iff.mp H
  obtain ⟨t154, A10, H⟩ := H
  replace H : ((bitset_Set_Len.f k t154).bind fun t158 => (if t158 = 3 then ((bitset_Set_String.f t154).bind fun t159 => (if t159.toList = ([123, 49, 32, 51, 32, 53, 125] : List UInt8) then ((bitset_Range.f k 2 5).bind fun t160 => ((bitset_Set_String.f t160).bind fun t163 => (if t163.toList = ([123, 50, 32, 51, 32, 52, 125] : List UInt8) then ((bitset_Of.f k ([] : List Int)).bind fun t164 => ((bitset_Set_String.f t164).bind fun t167 => (if t167.toList = ([123, 125] : List UInt8) then ((bitset_Set_Has.f t154 3).bind fun t168 => (if t168 = true then ((bitset_Set_Has.f t154 2).bind fun t169 => (some (!t169))) else (some false))) else (some false)))) else (some false)))) else (some false))) else (some false))) = some r := H
  have A1 := Aside0.mk A10
  clear A10
  replace H := Option.bind_eq_some_iff.mp H
  obtain ⟨t158, A20, H⟩ := H
  replace H : (if t158 = 3 then ((bitset_Set_String.f t154).bind fun t159 => (if t159.toList = ([123, 49, 32, 51, 32, 53, 125] : List UInt8) then ((bitset_Range.f k 2 5).bind fun t160 => ((bitset_Set_String.f t160).bind fun t163 => (if t163.toList = ([123, 50, 32, 51, 32, 52, 125] : List UInt8) then ((bitset_Of.f k ([] : List Int)).bind fun t164 => ((bitset_Set_String.f t164).bind fun t167 => (if t167.toList = ([123, 125] : List UInt8) then ((bitset_Set_Has.f t154 3).bind fun t168 => (if t168 = true then ((bitset_Set_Has.f t154 2).bind fun t169 => (some (!t169))) else (some false))) else (some false)))) else (some false)))) else (some false))) else (some false)) = some r := H
  have A2 := Aside0.mk A20
  clear A20
  by_cases c3 : t158 = 3
  · rw [if_pos c3] at H
    have c3b0 : (t158 == 3) = true := beq_iff_eq.mpr c3
    have c3b1 : (t158 != 3) = false := bne_eq_false_iff_eq.mpr c3
    clear c3
    replace H := Option.bind_eq_some_iff.mp H
    obtain ⟨t159, A40, H⟩ := H
    replace H : (if t159.toList = ([123, 49, 32, 51, 32, 53, 125] : List UInt8) then ((bitset_Range.f k 2 5).bind fun t160 => ((bitset_Set_String.f t160).bind fun t163 => (if t163.toList = ([123, 50, 32, 51, 32, 52, 125] : List UInt8) then ((bitset_Of.f k ([] : List Int)).bind fun t164 => ((bitset_Set_String.f t164).bind fun t167 => (if t167.toList = ([123, 125] : List UInt8) then ((bitset_Set_Has.f t154 3).bind fun t168 => (if t168 = true then ((bitset_Set_Has.f t154 2).bind fun t169 => (some (!t169))) else (some false))) else (some false)))) else (some false)))) else (some false)) = some r := H
    have A4 := Aside0.mk A40
    clear A40
    by_cases c5 : t159.toList = ([123, 49, 32, 51, 32, 53, 125] : List UInt8)
    · rw [if_pos c5] at H
      have c5b0 : (t159.toList == ([123, 49, 32, 51, 32, 53, 125] : List UInt8)) = true := beq_iff_eq.mpr c5
      have c5b1 : (t159.toList != ([123, 49, 32, 51, 32, 53, 125] : List UInt8)) = false := bne_eq_false_iff_eq.mpr c5
      clear c5
      replace H := Option.bind_eq_some_iff.mp H
      obtain ⟨t160, A60, H⟩ := H
      replace H : ((bitset_Set_String.f t160).bind fun t163 => (if t163.toList = ([123, 50, 32, 51, 32, 52, 125] : List UInt8) then ((bitset_Of.f k ([] : List Int)).bind fun t164 => ((bitset_Set_String.f t164).bind fun t167 => (if t167.toList = ([123, 125] : List UInt8) then ((bitset_Set_Has.f t154 3).bind fun t168 => (if t168 = true then ((bitset_Set_Has.f t154 2).bind fun t169 => (some (!t169))) else (some false))) else (some false)))) else (some false))) = some r := H
      have A6 := Aside0.mk A60
      clear A60
      replace H := Option.bind_eq_some_iff.mp H
      obtain ⟨t163, A70, H⟩ := H
      replace H : (if t163.toList = ([123, 50, 32, 51, 32, 52, 125] : List UInt8) then ((bitset_Of.f k ([] : List Int)).bind fun t164 => ((bitset_Set_String.f t164).bind fun t167 => (if t167.toList = ([123, 125] : List UInt8) then ((bitset_Set_Has.f t154 3).bind fun t168 => (if t168 = true then ((bitset_Set_Has.f t154 2).bind fun t169 => (some (!t169))) else (some false))) else (some false)))) else (some false)) = some r := H
      have A7 := Aside0.mk A70
      clear A70
      by_cases c8 : t163.toList = ([123, 50, 32, 51, 32, 52, 125] : List UInt8)
      · rw [if_pos c8] at H
        have c8b0 : (t163.toList == ([123, 50, 32, 51, 32, 52, 125] : List UInt8)) = true := beq_iff_eq.mpr c8
        have c8b1 : (t163.toList != ([123, 50, 32, 51, 32, 52, 125] : List UInt8)) = false := bne_eq_false_iff_eq.mpr c8
        clear c8
        replace H := Option.bind_eq_some_iff.mp H
        obtain ⟨t164, A90, H⟩ := H
        replace H : ((bitset_Set_String.f t164).bind fun t167 => (if t167.toList = ([123, 125] : List UInt8) then ((bitset_Set_Has.f t154 3).bind fun t168 => (if t168 = true then ((bitset_Set_Has.f t154 2).bind fun t169 => (some (!t169))) else (some false))) else (some false))) = some r := H
        have A9 := Aside0.mk A90
        clear A90
        replace H := Option.bind_eq_some_iff.mp H
        obtain ⟨t167, A100, H⟩ := H
        replace H : (if t167.toList = ([123, 125] : List UInt8) then ((bitset_Set_Has.f t154 3).bind fun t168 => (if t168 = true then ((bitset_Set_Has.f t154 2).bind fun t169 => (some (!t169))) else (some false))) else (some false)) = some r := H
        have A10 := Aside0.mk A100
        clear A100
        by_cases c11 : t167.toList = ([123, 125] : List UInt8)
        · rw [if_pos c11] at H
          have c11b0 : (t167.toList == ([123, 125] : List UInt8)) = true := beq_iff_eq.mpr c11
          have c11b1 : (t167.toList != ([123, 125] : List UInt8)) = false := bne_eq_false_iff_eq.mpr c11
          clear c11
          replace H := Option.bind_eq_some_iff.mp H
          obtain ⟨t168, A120, H⟩ := H
          replace H : (if t168 = true then ((bitset_Set_Has.f t154 2).bind fun t169 => (some (!t169))) else (some false)) = some r := H
          have A12 := Aside0.mk A120
          clear A120
          by_cases c13 : t168 = true
          · subst c13
            have H1 : ((bitset_Set_Has.f t154 2).bind fun t169 => (some (!t169))) = some r := by rw [if_pos rfl] at H; exact H
            clear H
            have H := H1
            clear H1
            replace H := Option.bind_eq_some_iff.mp H
            obtain ⟨t169, A140, H⟩ := H
            replace H : (some (!t169)) = some r := H
            have A14 := Aside0.mk A140
            clear A140
            obtain rfl := Option.some.inj H
            go_enter Tryd.func11, Tryd.ntmps11
            go_wp2_with (first | ((with_reducible refine gate_dst (N := 2) rfl ?_); refine Kd.R_lit (Kd.int .i64) _ 3 ?hg (N := 2) ?hd (xs := ([5, 1, 3, 1] : List Int)) (inner := [.int .i64 5, .int .i64 1, .int .i64 3, .int .i64 1]) (ok := fun _ => True) (okp := fun _ => True) ?hr ?hp (fun _ hk => hk) trivial (Below.refl _ _) (Nat.le_refl _) (by simp) ?_; (case hd => rfl); (case hg => rfl); (case hr => first | (go_simp; done) | (go_simp; rfl)); (case hp => exact (Reps.one (show Kd.M (Kd.int .i64) _ _ _ 5 [.int .i64 5] from rfl) (Reps.one (show Kd.M (Kd.int .i64) _ _ _ 1 [.int .i64 1] from rfl) (Reps.one (show Kd.M (Kd.int .i64) _ _ _ 3 [.int .i64 3] from rfl) (Reps.one (show Kd.M (Kd.int .i64) _ _ _ 1 [.int .i64 1] from rfl) (Reps.none _ _)))))); intro v152 w15 ho16 hb hg_ hnew_; clear hg_ hnew_; (first | rw [← Ny151.out] at ho16 | (simp only [Int.reduceToNat] at ho16; rw [← Ny151.out] at ho16)); have n0_ := Aside0.mk (Kd.R_lower ho16 (below_size (by repeat (first | (with_reducible first | exact HB.out | apply below_alloc | apply pw_below_drewN | apply below_drew1) | exact HB.out)))); have n1_ := Aside0.mk (below_step (by repeat (first | (with_reducible first | exact HB.out | apply below_alloc | apply pw_below_drewN | apply below_drew1) | exact HB.out)) hb); clear HB; have HO153 := n0_; have HB := n1_; clear n0_ n1_; clear hb ho16; obtain ⟨Ao17, co17, eo17⟩ := Kd.R_slice HO153.out; subst eo17) | ((with_reducible refine gate_callee (f := 13) rfl ?_); refine goesL_ (some 3) rfl rfl Tryd.func13 (by kernel_rfl) rfl #[.slice Ao17 y151.length co17] rfl (by (try simp only [List.map_toArray, List.map_cons, List.map_nil]); first | done | rfl | (simp only [List.length_drop, List.length_take]; rfl)) ?_; (with_reducible refine (bitset_Of.calls k _ _ y151 t154 _ ?side1 ?side2 A1.out).mono ?_); (case side1 => repeat (first | exact (Kd.R_reads' HO153.out).2.2 | (with_reducible refine Kd.C_alloc ?_ _) | (with_reducible refine Kd.C_drewN ?_ _) | (with_reducible refine Kd.C_drew ?_))); (case side2 => exact (Kd.R_reads' HO153.out).2.1); rintro e w18 ⟨v155, rfl, ho0, hb⟩; refine ⟨_, rfl, ?_⟩; have n0_ := Aside0.mk (Kd.R_below (by (with_reducible repeat (first | apply Kd.R_alloc | apply Kd.R_drewN | apply Kd.R_drew)); exact HO153.out) hb); have n1_ := Aside0.mk (Kd.V_lower (Kd.V_mono (ok' := fun k_ => some k_ ≠ (.slice Ao17 y151.length co17 : Value).ownBlock) ho0 (fun k_ hk_ => (Kd.fresh' (Kd.R_lt (by (with_reducible repeat (first | apply Kd.R_alloc | apply Kd.R_drewN | apply Kd.R_drew)); exact HO153.out)) k_ hk_))) (below_size (by repeat (first | (with_reducible first | exact HB.out | apply below_alloc | apply pw_below_drewN | apply below_drew1) | exact HB.out)))); have n2_ := Aside0.mk (below_step (by repeat (first | (with_reducible first | exact HB.out | apply below_alloc | apply pw_below_drewN | apply below_drew1) | exact HB.out)) hb); clear HO153; clear HB; have HO153 := n0_; have HO156 := n1_; have HB := n2_; clear n0_ n1_ n2_; (try clear hb); (try clear hb2); (try clear hk); (try clear hi); (try clear ho0)) | ((with_reducible refine gate_dst (N := 1) rfl ?_); refine box_event ?hg (N := 1) ?hd (cs := #[.slice none 0 0]) (t := 27) ?hr ?_; (case hd => rfl); (case hg => rfl); (case hr => first | (go_simp; done) | (go_simp; rfl)); intro gb157 hg w19 hbox hb; have n0_ := Aside0.mk (Kd.R_below (by (with_reducible repeat (first | apply Kd.R_alloc | apply Kd.R_drewN | apply Kd.R_drew)); exact HO153.out) hb); have n1_ := Aside0.mk (Kd.V_below (Kd.V_elderB (by (with_reducible repeat (first | apply Kd.V_alloc | apply Kd.V_drewN | apply Kd.V_drew)); exact HO156.out) gb157 (Nat.le_of_eq hg.symm)) hb); have n2_ := Aside0.mk (below_step (by repeat (first | (with_reducible first | exact HB.out | apply below_alloc | apply pw_below_drewN | apply below_drew1) | exact HB.out)) hb); have n3_ := Aside0.mk (hbox); have n4_ := Aside0.mk ((by rw [hg]; exact (below_size (by repeat (first | (with_reducible first | exact HB.out | apply below_alloc | apply pw_below_drewN | apply below_drew1) | exact HB.out))) : w.heap.size ≤ gb157)); have n5_ := Aside0.mk ((by rw [hg]; exact (below_size (by repeat (first | (with_reducible first | exact HB.out | apply below_alloc | apply pw_below_drewN | apply below_drew1) | exact HB.out))) : w.heap.size ≤ gb157)); clear HO153; clear HO156; clear HB; have HO153 := n0_; have HO156 := n1_; have HB := n2_; have BK157 := n3_; have GW157 := n4_; have GE157 := n5_; clear n0_ n1_ n2_ n3_ n4_ n5_; clear hb hbox hg; obtain ⟨Ao20, co20, eo20⟩ := Kd.V_slice HO156.out; subst eo20; have hcz21_0 : w19.cell? ⟨gb157, 0, none⟩ = some (.slice none 0 0) := (blk_cell BK157.out 0).trans rfl; have hfz21_0 := blk_frozen BK157.out 0) | ((with_reducible refine gate_callee (f := 36) rfl ?_); refine goesL_ (some 5) rfl rfl Tryd.func36 (by kernel_rfl) rfl #[.agg #[.slice Ao20 t154.length co20]] rfl (by (try simp only [List.map_toArray, List.map_cons, List.map_nil]); first | done | rfl | (simp only [List.length_drop, List.length_take]; rfl)) ?_; (with_reducible refine (bitset_Set_Len.calls k _ _ t154 t158 _ ?side1 ?side2 A2.out).mono ?_); (case side1 => refine (Kd.V_reads' (e := 56) (base := w.heap.size) (ok := fun k_ => (some k_ ≠ (.slice Ao17 y151.length co17 : Value).ownBlock ∧ k_ ≠ gb157)) (n := t154.length) (c := co20) ?_).2.2; exact (by (with_reducible repeat (first | apply Kd.V_alloc | apply Kd.V_drewN | apply Kd.V_drew)); exact (Kd.V_mono (Kd.V_far (p := ⟨gb157, 0, none⟩) (Kd.V_mono HO156.out (fun k_ hk => (⟨hk, hk.2⟩ : _ ∧ k_ ≠ gb157))) (fun _ hk => hk.2) (.slice Ao20 t154.length co20)) (fun _ h_ => h_.1)))); (case side2 => exact (Kd.V_reads' HO156.out).2.1); rintro e w22 ⟨rfl, hb⟩; refine ⟨_, rfl, ?_⟩; have n0_ := Aside0.mk (Kd.R_below (by (with_reducible repeat (first | apply Kd.R_alloc | apply Kd.R_drewN | apply Kd.R_drew)); exact (Kd.R_mono (Kd.R_far (p := ⟨gb157, 0, none⟩) (Kd.R_types HO153.out BK157.out (by decide)) (fun _ hk => hk.2) (.slice Ao20 t154.length co20)) (fun _ h_ => h_.1))) hb); have n1_ := Aside0.mk (Kd.V_below (by (with_reducible repeat (first | apply Kd.V_alloc | apply Kd.V_drewN | apply Kd.V_drew)); exact (Kd.V_mono (Kd.V_far (p := ⟨gb157, 0, none⟩) (Kd.V_mono HO156.out (fun k_ hk => (⟨hk, hk.2⟩ : _ ∧ k_ ≠ gb157))) (fun _ hk => hk.2) (.slice Ao20 t154.length co20)) (fun _ h_ => h_.1))) hb); have n2_ := Aside0.mk (blk_below (g := gb157) (o := .cells #[.slice Ao20 t154.length co20] 27 (0, 0)) (by (with_reducible repeat (first | refine blk_drewN ?_ _ | refine blk_drew ?_ | refine blk_alloc ?_ _)); refine blk_put (cs := #[.slice none 0 0]) ?_ 0 _ rfl; (with_reducible repeat (first | refine blk_drewN ?_ _ | refine blk_drew ?_ | refine blk_alloc ?_ _)); exact BK157.out) hb); have n3_ := Aside0.mk (below_step (by repeat (first | (with_reducible first | exact HB.out | apply below_alloc | apply pw_below_drewN | apply below_drew1 | refine below_set ?_ GE157.out) | exact HB.out)) hb); clear HO153; clear HO156; clear BK157; clear HB; have HO153 := n0_; have HO156 := n1_; have BK157 := n2_; have HB := n3_; clear n0_ n1_ n2_ n3_; (try clear hb); (try clear hb2); (try clear hk); (try clear hi); have hcz23_0 : w22.cell? ⟨gb157, 0, none⟩ = some (.slice Ao20 t154.length co20) := (blk_cell BK157.out 0).trans rfl; have hfz23_0 := blk_frozen BK157.out 0) | (go_at_call 20; (with_reducible refine (bitset_Set_String.calls _ _ t154 t159 _ ?side1 ?side2 ?side3 A4.out).mono ?_); (case side1 => repeat (first | exact (Kd.V_reads' HO156.out).2.2 | (with_reducible refine Kd.C_alloc ?_ _) | (with_reducible refine Kd.C_drewN ?_ _) | (with_reducible refine Kd.C_drew ?_))); (case side2 => exact (Kd.V_reads' HO156.out).2.1); (case side3 => refine GW.below HG.out ?_; repeat (first | (with_reducible first | exact HB.out | apply below_alloc | apply pw_below_drewN | apply below_drew1 | refine below_set ?_ GE157.out) | exact HB.out)); rintro e w24 ⟨rfl, hb⟩; have n0_ := Aside0.mk (Kd.R_below (by (with_reducible repeat (first | apply Kd.R_alloc | apply Kd.R_drewN | apply Kd.R_drew)); exact HO153.out) hb); have n1_ := Aside0.mk (Kd.V_below (by (with_reducible repeat (first | apply Kd.V_alloc | apply Kd.V_drewN | apply Kd.V_drew)); exact HO156.out) hb); have n2_ := Aside0.mk (blk_below (g := gb157) (o := .cells #[.slice Ao20 t154.length co20] 27 (0, 0)) (by (with_reducible repeat (first | refine blk_drewN ?_ _ | refine blk_drew ?_ | refine blk_alloc ?_ _)); exact BK157.out) hb); have n3_ := Aside0.mk (below_step (by repeat (first | (with_reducible first | exact HB.out | apply below_alloc | apply pw_below_drewN | apply below_drew1 | refine below_set ?_ GE157.out) | exact HB.out)) hb); clear HO153; clear HO156; clear BK157; clear HB; have HO153 := n0_; have HO156 := n1_; have BK157 := n2_; have HB := n3_; clear n0_ n1_ n2_ n3_; (try clear hb); (try clear hb2); (try clear hk); (try clear hi)) | (go_at_call 18; (with_reducible refine (bitset_Range.calls k 2 5 t160 _ A6.out).mono ?_); rintro e w25 ⟨v161, rfl, ho0, hb⟩; have n0_ := Aside0.mk (Kd.R_below (by (with_reducible repeat (first | apply Kd.R_alloc | apply Kd.R_drewN | apply Kd.R_drew)); exact HO153.out) hb); have n1_ := Aside0.mk (Kd.V_below (by (with_reducible repeat (first | apply Kd.V_alloc | apply Kd.V_drewN | apply Kd.V_drew)); exact HO156.out) hb); have n2_ := Aside0.mk (Kd.V_lower (Kd.V_mono (ok' := fun k_ => some k_ ≠ (.slice Ao17 y151.length co17 : Value).ownBlock ∧ k_ ≠ gb157) ho0 (fun k_ hk_ => ⟨(Kd.fresh' (Kd.R_lt (by (with_reducible repeat (first | apply Kd.R_alloc | apply Kd.R_drewN | apply Kd.R_drew)); exact HO153.out)) k_ hk_), (Kd.freshB (g := gb157) (o := .cells #[.slice Ao20 t154.length co20] 27 (0, 0)) (by (with_reducible repeat (first | refine blk_drewN ?_ _ | refine blk_drew ?_ | refine blk_alloc ?_ _)); exact BK157.out) k_ hk_)⟩)) (below_size (by repeat (first | (with_reducible first | exact HB.out | apply below_alloc | apply pw_below_drewN | apply below_drew1 | refine below_set ?_ GE157.out) | exact HB.out)))); have n3_ := Aside0.mk (blk_below (g := gb157) (o := .cells #[.slice Ao20 t154.length co20] 27 (0, 0)) (by (with_reducible repeat (first | refine blk_drewN ?_ _ | refine blk_drew ?_ | refine blk_alloc ?_ _)); exact BK157.out) hb); have n4_ := Aside0.mk (below_step (by repeat (first | (with_reducible first | exact HB.out | apply below_alloc | apply pw_below_drewN | apply below_drew1 | refine below_set ?_ GE157.out) | exact HB.out)) hb); clear HO153; clear HO156; clear BK157; clear HB; have HO153 := n0_; have HO156 := n1_; have HO162 := n2_; have BK157 := n3_; have HB := n4_; clear n0_ n1_ n2_ n3_ n4_; (try clear hb); (try clear hb2); (try clear hk); (try clear hi); (try clear ho0); obtain ⟨Ao26, co26, eo26⟩ := Kd.V_slice HO162.out; subst eo26) | (go_at_call 20; (with_reducible refine (bitset_Set_String.calls _ _ t160 t163 _ ?side1 ?side2 ?side3 A7.out).mono ?_); (case side1 => repeat (first | exact (Kd.V_reads' HO162.out).2.2 | (with_reducible refine Kd.C_alloc ?_ _) | (with_reducible refine Kd.C_drewN ?_ _) | (with_reducible refine Kd.C_drew ?_))); (case side2 => exact (Kd.V_reads' HO162.out).2.1); (case side3 => refine GW.below HG.out ?_; repeat (first | (with_reducible first | exact HB.out | apply below_alloc | apply pw_below_drewN | apply below_drew1 | refine below_set ?_ GE157.out) | exact HB.out)); rintro e w27 ⟨rfl, hb⟩; have n0_ := Aside0.mk (Kd.R_below (by (with_reducible repeat (first | apply Kd.R_alloc | apply Kd.R_drewN | apply Kd.R_drew)); exact HO153.out) hb); have n1_ := Aside0.mk (Kd.V_below (by (with_reducible repeat (first | apply Kd.V_alloc | apply Kd.V_drewN | apply Kd.V_drew)); exact HO156.out) hb); have n2_ := Aside0.mk (Kd.V_below (by (with_reducible repeat (first | apply Kd.V_alloc | apply Kd.V_drewN | apply Kd.V_drew)); exact HO162.out) hb); have n3_ := Aside0.mk (blk_below (g := gb157) (o := .cells #[.slice Ao20 t154.length co20] 27 (0, 0)) (by (with_reducible repeat (first | refine blk_drewN ?_ _ | refine blk_drew ?_ | refine blk_alloc ?_ _)); exact BK157.out) hb); have n4_ := Aside0.mk (below_step (by repeat (first | (with_reducible first | exact HB.out | apply below_alloc | apply pw_below_drewN | apply below_drew1 | refine below_set ?_ GE157.out) | exact HB.out)) hb); clear HO153; clear HO156; clear HO162; clear BK157; clear HB; have HO153 := n0_; have HO156 := n1_; have HO162 := n2_; have BK157 := n3_; have HB := n4_; clear n0_ n1_ n2_ n3_ n4_; (try clear hb); (try clear hb2); (try clear hk); (try clear hi)) | (go_at_call 13; (refine (bitset_Of.calls k _ _ ([] : List Int) t164 _ ?side1 ?side2 A9.out).mono ?_); (case side1 => exact Kd.C_nil _ _); (case side2 => exact Nat.le_refl _); rintro e w28 ⟨v165, rfl, ho0, hb⟩; have n0_ := Aside0.mk (Kd.R_below (by (with_reducible repeat (first | apply Kd.R_alloc | apply Kd.R_drewN | apply Kd.R_drew)); exact HO153.out) hb); have n1_ := Aside0.mk (Kd.V_below (by (with_reducible repeat (first | apply Kd.V_alloc | apply Kd.V_drewN | apply Kd.V_drew)); exact HO156.out) hb); have n2_ := Aside0.mk (Kd.V_below (by (with_reducible repeat (first | apply Kd.V_alloc | apply Kd.V_drewN | apply Kd.V_drew)); exact HO162.out) hb); have n3_ := Aside0.mk (Kd.V_lower (Kd.V_mono (ok' := fun k_ => some k_ ≠ (.slice Ao17 y151.length co17 : Value).ownBlock ∧ k_ ≠ gb157) ho0 (fun k_ hk_ => ⟨(Kd.fresh' (Kd.R_lt (by (with_reducible repeat (first | apply Kd.R_alloc | apply Kd.R_drewN | apply Kd.R_drew)); exact HO153.out)) k_ hk_), (Kd.freshB (g := gb157) (o := .cells #[.slice Ao20 t154.length co20] 27 (0, 0)) (by (with_reducible repeat (first | refine blk_drewN ?_ _ | refine blk_drew ?_ | refine blk_alloc ?_ _)); exact BK157.out) k_ hk_)⟩)) (below_size (by repeat (first | (with_reducible first | exact HB.out | apply below_alloc | apply pw_below_drewN | apply below_drew1 | refine below_set ?_ GE157.out) | exact HB.out)))); have n4_ := Aside0.mk (blk_below (g := gb157) (o := .cells #[.slice Ao20 t154.length co20] 27 (0, 0)) (by (with_reducible repeat (first | refine blk_drewN ?_ _ | refine blk_drew ?_ | refine blk_alloc ?_ _)); exact BK157.out) hb); have n5_ := Aside0.mk (below_step (by repeat (first | (with_reducible first | exact HB.out | apply below_alloc | apply pw_below_drewN | apply below_drew1 | refine below_set ?_ GE157.out) | exact HB.out)) hb); clear HO153; clear HO156; clear HO162; clear BK157; clear HB; have HO153 := n0_; have HO156 := n1_; have HO162 := n2_; have HO166 := n3_; have BK157 := n4_; have HB := n5_; clear n0_ n1_ n2_ n3_ n4_ n5_; (try clear hb); (try clear hb2); (try clear hk); (try clear hi); (try clear ho0); obtain ⟨Ao29, co29, eo29⟩ := Kd.V_slice HO166.out; subst eo29) | (go_at_call 20; (with_reducible refine (bitset_Set_String.calls _ _ t164 t167 _ ?side1 ?side2 ?side3 A10.out).mono ?_); (case side1 => repeat (first | exact (Kd.V_reads' HO166.out).2.2 | (with_reducible refine Kd.C_alloc ?_ _) | (with_reducible refine Kd.C_drewN ?_ _) | (with_reducible refine Kd.C_drew ?_))); (case side2 => exact (Kd.V_reads' HO166.out).2.1); (case side3 => refine GW.below HG.out ?_; repeat (first | (with_reducible first | exact HB.out | apply below_alloc | apply pw_below_drewN | apply below_drew1 | refine below_set ?_ GE157.out) | exact HB.out)); rintro e w30 ⟨rfl, hb⟩; have n0_ := Aside0.mk (Kd.R_below (by (with_reducible repeat (first | apply Kd.R_alloc | apply Kd.R_drewN | apply Kd.R_drew)); exact HO153.out) hb); have n1_ := Aside0.mk (Kd.V_below (by (with_reducible repeat (first | apply Kd.V_alloc | apply Kd.V_drewN | apply Kd.V_drew)); exact HO156.out) hb); have n2_ := Aside0.mk (Kd.V_below (by (with_reducible repeat (first | apply Kd.V_alloc | apply Kd.V_drewN | apply Kd.V_drew)); exact HO162.out) hb); have n3_ := Aside0.mk (Kd.V_below (by (with_reducible repeat (first | apply Kd.V_alloc | apply Kd.V_drewN | apply Kd.V_drew)); exact HO166.out) hb); have n4_ := Aside0.mk (blk_below (g := gb157) (o := .cells #[.slice Ao20 t154.length co20] 27 (0, 0)) (by (with_reducible repeat (first | refine blk_drewN ?_ _ | refine blk_drew ?_ | refine blk_alloc ?_ _)); exact BK157.out) hb); have n5_ := Aside0.mk (below_step (by repeat (first | (with_reducible first | exact HB.out | apply below_alloc | apply pw_below_drewN | apply below_drew1 | refine below_set ?_ GE157.out) | exact HB.out)) hb); clear HO153; clear HO156; clear HO162; clear HO166; clear BK157; clear HB; have HO153 := n0_; have HO156 := n1_; have HO162 := n2_; have HO166 := n3_; have BK157 := n4_; have HB := n5_; clear n0_ n1_ n2_ n3_ n4_ n5_; (try clear hb); (try clear hb2); (try clear hk); (try clear hi); have hcz31_0 : w30.cell? ⟨gb157, 0, none⟩ = some (.slice Ao20 t154.length co20) := (blk_cell BK157.out 0).trans rfl; have hfz31_0 := blk_frozen BK157.out 0) | (go_at_call 16; (with_reducible refine (bitset_Set_Has.calls _ _ t154 3 true _ ?side1 ?side2 A12.out).mono ?_); (case side1 => repeat (first | exact (Kd.V_reads' HO156.out).2.2 | (with_reducible refine Kd.C_alloc ?_ _) | (with_reducible refine Kd.C_drewN ?_ _) | (with_reducible refine Kd.C_drew ?_))); (case side2 => exact (Kd.V_reads' HO156.out).2.1); rintro e w32 ⟨rfl, hb⟩; have n0_ := Aside0.mk (Kd.R_below (by (with_reducible repeat (first | apply Kd.R_alloc | apply Kd.R_drewN | apply Kd.R_drew)); exact HO153.out) hb); have n1_ := Aside0.mk (Kd.V_below (by (with_reducible repeat (first | apply Kd.V_alloc | apply Kd.V_drewN | apply Kd.V_drew)); exact HO156.out) hb); have n2_ := Aside0.mk (Kd.V_below (by (with_reducible repeat (first | apply Kd.V_alloc | apply Kd.V_drewN | apply Kd.V_drew)); exact HO162.out) hb); have n3_ := Aside0.mk (Kd.V_below (by (with_reducible repeat (first | apply Kd.V_alloc | apply Kd.V_drewN | apply Kd.V_drew)); exact HO166.out) hb); have n4_ := Aside0.mk (blk_below (g := gb157) (o := .cells #[.slice Ao20 t154.length co20] 27 (0, 0)) (by (with_reducible repeat (first | refine blk_drewN ?_ _ | refine blk_drew ?_ | refine blk_alloc ?_ _)); exact BK157.out) hb); have n5_ := Aside0.mk (below_step (by repeat (first | (with_reducible first | exact HB.out | apply below_alloc | apply pw_below_drewN | apply below_drew1 | refine below_set ?_ GE157.out) | exact HB.out)) hb); clear HO153; clear HO156; clear HO162; clear HO166; clear BK157; clear HB; have HO153 := n0_; have HO156 := n1_; have HO162 := n2_; have HO166 := n3_; have BK157 := n4_; have HB := n5_; clear n0_ n1_ n2_ n3_ n4_ n5_; (try clear hb); (try clear hb2); (try clear hk); (try clear hi); have hcz33_0 : w32.cell? ⟨gb157, 0, none⟩ = some (.slice Ao20 t154.length co20) := (blk_cell BK157.out 0).trans rfl; have hfz33_0 := blk_frozen BK157.out 0) | (go_at_call 16; (with_reducible refine (bitset_Set_Has.calls _ _ t154 2 t169 _ ?side1 ?side2 A14.out).mono ?_); (case side1 => repeat (first | exact (Kd.V_reads' HO156.out).2.2 | (with_reducible refine Kd.C_alloc ?_ _) | (with_reducible refine Kd.C_drewN ?_ _) | (with_reducible refine Kd.C_drew ?_))); (case side2 => exact (Kd.V_reads' HO156.out).2.1); rintro e w34 ⟨rfl, hb⟩; have n0_ := Aside0.mk (Kd.R_below (by (with_reducible repeat (first | apply Kd.R_alloc | apply Kd.R_drewN | apply Kd.R_drew)); exact HO153.out) hb); have n1_ := Aside0.mk (Kd.V_below (by (with_reducible repeat (first | apply Kd.V_alloc | apply Kd.V_drewN | apply Kd.V_drew)); exact HO156.out) hb); have n2_ := Aside0.mk (Kd.V_below (by (with_reducible repeat (first | apply Kd.V_alloc | apply Kd.V_drewN | apply Kd.V_drew)); exact HO162.out) hb); have n3_ := Aside0.mk (Kd.V_below (by (with_reducible repeat (first | apply Kd.V_alloc | apply Kd.V_drewN | apply Kd.V_drew)); exact HO166.out) hb); have n4_ := Aside0.mk (blk_below (g := gb157) (o := .cells #[.slice Ao20 t154.length co20] 27 (0, 0)) (by (with_reducible repeat (first | refine blk_drewN ?_ _ | refine blk_drew ?_ | refine blk_alloc ?_ _)); exact BK157.out) hb); have n5_ := Aside0.mk (below_step (by repeat (first | (with_reducible first | exact HB.out | apply below_alloc | apply pw_below_drewN | apply below_drew1 | refine below_set ?_ GE157.out) | exact HB.out)) hb); clear HO153; clear HO156; clear HO162; clear HO166; clear BK157; clear HB; have HO153 := n0_; have HO156 := n1_; have HO162 := n2_; have HO166 := n3_; have BK157 := n4_; have HB := n5_; clear n0_ n1_ n2_ n3_ n4_ n5_; (try clear hb); (try clear hb2); (try clear hk); (try clear hi)))
            go_ret
            exact ⟨by first | rfl | (simp [errW_none, errW_some] <;> rfl) | (simp [*, errW_none, errW_some] <;> rfl), by repeat (first | (with_reducible first | exact HB.out | apply below_alloc | apply pw_below_drewN | apply below_drew1 | refine below_set ?_ GE157.out) | exact HB.out)⟩
          · replace c13 := Bool.eq_false_iff.mpr c13
            subst c13
            have H1 : (some false) = some r := by rw [if_neg (show ¬ (false = true) by decide)] at H; exact H
            clear H
            have H := H1
            clear H1
            obtain rfl := Option.some.inj H
            go_enter Tryd.func11, Tryd.ntmps11
            go_wp2_with (first | ((with_reducible refine gate_dst (N := 2) rfl ?_); refine Kd.R_lit (Kd.int .i64) _ 3 ?hg (N := 2) ?hd (xs := ([5, 1, 3, 1] : List Int)) (inner := [.int .i64 5, .int .i64 1, .int .i64 3, .int .i64 1]) (ok := fun _ => True) (okp := fun _ => True) ?hr ?hp (fun _ hk => hk) trivial (Below.refl _ _) (Nat.le_refl _) (by simp) ?_; (case hd => rfl); (case hg => rfl); (case hr => first | (go_simp; done) | (go_simp; rfl)); (case hp => exact (Reps.one (show Kd.M (Kd.int .i64) _ _ _ 5 [.int .i64 5] from rfl) (Reps.one (show Kd.M (Kd.int .i64) _ _ _ 1 [.int .i64 1] from rfl) (Reps.one (show Kd.M (Kd.int .i64) _ _ _ 3 [.int .i64 3] from rfl) (Reps.one (show Kd.M (Kd.int .i64) _ _ _ 1 [.int .i64 1] from rfl) (Reps.none _ _)))))); intro v152 w35 ho36 hb hg_ hnew_; clear hg_ hnew_; (first | rw [← Ny151.out] at ho36 | (simp only [Int.reduceToNat] at ho36; rw [← Ny151.out] at ho36)); have n0_ := Aside0.mk (Kd.R_lower ho36 (below_size (by repeat (first | (with_reducible first | exact HB.out | apply below_alloc | apply pw_below_drewN | apply below_drew1) | exact HB.out)))); have n1_ := Aside0.mk (below_step (by repeat (first | (with_reducible first | exact HB.out | apply below_alloc | apply pw_below_drewN | apply below_drew1) | exact HB.out)) hb); clear HB; have HO153 := n0_; have HB := n1_; clear n0_ n1_; clear hb ho36; obtain ⟨Ao37, co37, eo37⟩ := Kd.R_slice HO153.out; subst eo37) | ((with_reducible refine gate_callee (f := 13) rfl ?_); refine goesL_ (some 3) rfl rfl Tryd.func13 (by kernel_rfl) rfl #[.slice Ao37 y151.length co37] rfl (by (try simp only [List.map_toArray, List.map_cons, List.map_nil]); first | done | rfl | (simp only [List.length_drop, List.length_take]; rfl)) ?_; (with_reducible refine (bitset_Of.calls k _ _ y151 t154 _ ?side1 ?side2 A1.out).mono ?_); (case side1 => repeat (first | exact (Kd.R_reads' HO153.out).2.2 | (with_reducible refine Kd.C_alloc ?_ _) | (with_reducible refine Kd.C_drewN ?_ _) | (with_reducible refine Kd.C_drew ?_))); (case side2 => exact (Kd.R_reads' HO153.out).2.1); rintro e w38 ⟨v155, rfl, ho0, hb⟩; refine ⟨_, rfl, ?_⟩; have n0_ := Aside0.mk (Kd.R_below (by (with_reducible repeat (first | apply Kd.R_alloc | apply Kd.R_drewN | apply Kd.R_drew)); exact HO153.out) hb); have n1_ := Aside0.mk (Kd.V_lower (Kd.V_mono (ok' := fun k_ => some k_ ≠ (.slice Ao37 y151.length co37 : Value).ownBlock) ho0 (fun k_ hk_ => (Kd.fresh' (Kd.R_lt (by (with_reducible repeat (first | apply Kd.R_alloc | apply Kd.R_drewN | apply Kd.R_drew)); exact HO153.out)) k_ hk_))) (below_size (by repeat (first | (with_reducible first | exact HB.out | apply below_alloc | apply pw_below_drewN | apply below_drew1) | exact HB.out)))); have n2_ := Aside0.mk (below_step (by repeat (first | (with_reducible first | exact HB.out | apply below_alloc | apply pw_below_drewN | apply below_drew1) | exact HB.out)) hb); clear HO153; clear HB; have HO153 := n0_; have HO156 := n1_; have HB := n2_; clear n0_ n1_ n2_; (try clear hb); (try clear hb2); (try clear hk); (try clear hi); (try clear ho0)) | ((with_reducible refine gate_dst (N := 1) rfl ?_); refine box_event ?hg (N := 1) ?hd (cs := #[.slice none 0 0]) (t := 27) ?hr ?_; (case hd => rfl); (case hg => rfl); (case hr => first | (go_simp; done) | (go_simp; rfl)); intro gb157 hg w39 hbox hb; have n0_ := Aside0.mk (Kd.R_below (by (with_reducible repeat (first | apply Kd.R_alloc | apply Kd.R_drewN | apply Kd.R_drew)); exact HO153.out) hb); have n1_ := Aside0.mk (Kd.V_below (Kd.V_elderB (by (with_reducible repeat (first | apply Kd.V_alloc | apply Kd.V_drewN | apply Kd.V_drew)); exact HO156.out) gb157 (Nat.le_of_eq hg.symm)) hb); have n2_ := Aside0.mk (below_step (by repeat (first | (with_reducible first | exact HB.out | apply below_alloc | apply pw_below_drewN | apply below_drew1) | exact HB.out)) hb); have n3_ := Aside0.mk (hbox); have n4_ := Aside0.mk ((by rw [hg]; exact (below_size (by repeat (first | (with_reducible first | exact HB.out | apply below_alloc | apply pw_below_drewN | apply below_drew1) | exact HB.out))) : w.heap.size ≤ gb157)); have n5_ := Aside0.mk ((by rw [hg]; exact (below_size (by repeat (first | (with_reducible first | exact HB.out | apply below_alloc | apply pw_below_drewN | apply below_drew1) | exact HB.out))) : w.heap.size ≤ gb157)); clear HO153; clear HO156; clear HB; have HO153 := n0_; have HO156 := n1_; have HB := n2_; have BK157 := n3_; have GW157 := n4_; have GE157 := n5_; clear n0_ n1_ n2_ n3_ n4_ n5_; clear hb hbox hg; obtain ⟨Ao40, co40, eo40⟩ := Kd.V_slice HO156.out; subst eo40; have hcz41_0 : w39.cell? ⟨gb157, 0, none⟩ = some (.slice none 0 0) := (blk_cell BK157.out 0).trans rfl; have hfz41_0 := blk_frozen BK157.out 0) | ((with_reducible refine gate_callee (f := 36) rfl ?_); refine goesL_ (some 5) rfl rfl Tryd.func36 (by kernel_rfl) rfl #[.agg #[.slice Ao40 t154.length co40]] rfl (by (try simp only [List.map_toArray, List.map_cons, List.map_nil]); first | done | rfl | (simp only [List.length_drop, List.length_take]; rfl)) ?_; (with_reducible refine (bitset_Set_Len.calls k _ _ t154 t158 _ ?side1 ?side2 A2.out).mono ?_); (case side1 => refine (Kd.V_reads' (e := 56) (base := w.heap.size) (ok := fun k_ => (some k_ ≠ (.slice Ao37 y151.length co37 : Value).ownBlock ∧ k_ ≠ gb157)) (n := t154.length) (c := co40) ?_).2.2; exact (by (with_reducible repeat (first | apply Kd.V_alloc | apply Kd.V_drewN | apply Kd.V_drew)); exact (Kd.V_mono (Kd.V_far (p := ⟨gb157, 0, none⟩) (Kd.V_mono HO156.out (fun k_ hk => (⟨hk, hk.2⟩ : _ ∧ k_ ≠ gb157))) (fun _ hk => hk.2) (.slice Ao40 t154.length co40)) (fun _ h_ => h_.1)))); (case side2 => exact (Kd.V_reads' HO156.out).2.1); rintro e w42 ⟨rfl, hb⟩; refine ⟨_, rfl, ?_⟩; have n0_ := Aside0.mk (Kd.R_below (by (with_reducible repeat (first | apply Kd.R_alloc | apply Kd.R_drewN | apply Kd.R_drew)); exact (Kd.R_mono (Kd.R_far (p := ⟨gb157, 0, none⟩) (Kd.R_types HO153.out BK157.out (by decide)) (fun _ hk => hk.2) (.slice Ao40 t154.length co40)) (fun _ h_ => h_.1))) hb); have n1_ := Aside0.mk (Kd.V_below (by (with_reducible repeat (first | apply Kd.V_alloc | apply Kd.V_drewN | apply Kd.V_drew)); exact (Kd.V_mono (Kd.V_far (p := ⟨gb157, 0, none⟩) (Kd.V_mono HO156.out (fun k_ hk => (⟨hk, hk.2⟩ : _ ∧ k_ ≠ gb157))) (fun _ hk => hk.2) (.slice Ao40 t154.length co40)) (fun _ h_ => h_.1))) hb); have n2_ := Aside0.mk (blk_below (g := gb157) (o := .cells #[.slice Ao40 t154.length co40] 27 (0, 0)) (by (with_reducible repeat (first | refine blk_drewN ?_ _ | refine blk_drew ?_ | refine blk_alloc ?_ _)); refine blk_put (cs := #[.slice none 0 0]) ?_ 0 _ rfl; (with_reducible repeat (first | refine blk_drewN ?_ _ | refine blk_drew ?_ | refine blk_alloc ?_ _)); exact BK157.out) hb); have n3_ := Aside0.mk (below_step (by repeat (first | (with_reducible first | exact HB.out | apply below_alloc | apply pw_below_drewN | apply below_drew1 | refine below_set ?_ GE157.out) | exact HB.out)) hb); clear HO153; clear HO156; clear BK157; clear HB; have HO153 := n0_; have HO156 := n1_; have BK157 := n2_; have HB := n3_; clear n0_ n1_ n2_ n3_; (try clear hb); (try clear hb2); (try clear hk); (try clear hi); have hcz43_0 : w42.cell? ⟨gb157, 0, none⟩ = some (.slice Ao40 t154.length co40) := (blk_cell BK157.out 0).trans rfl; have hfz43_0 := blk_frozen BK157.out 0) | (go_at_call 20; (with_reducible refine (bitset_Set_String.calls _ _ t154 t159 _ ?side1 ?side2 ?side3 A4.out).mono ?_); (case side1 => repeat (first | exact (Kd.V_reads' HO156.out).2.2 | (with_reducible refine Kd.C_alloc ?_ _) | (with_reducible refine Kd.C_drewN ?_ _) | (with_reducible refine Kd.C_drew ?_))); (case side2 => exact (Kd.V_reads' HO156.out).2.1); (case side3 => refine GW.below HG.out ?_; repeat (first | (with_reducible first | exact HB.out | apply below_alloc | apply pw_below_drewN | apply below_drew1 | refine below_set ?_ GE157.out) | exact HB.out)); rintro e w44 ⟨rfl, hb⟩; have n0_ := Aside0.mk (Kd.R_below (by (with_reducible repeat (first | apply Kd.R_alloc | apply Kd.R_drewN | apply Kd.R_drew)); exact HO153.out) hb); have n1_ := Aside0.mk (Kd.V_below (by (with_reducible repeat (first | apply Kd.V_alloc | apply Kd.V_drewN | apply Kd.V_drew)); exact HO156.out) hb); have n2_ := Aside0.mk (blk_below (g := gb157) (o := .cells #[.slice Ao40 t154.length co40] 27 (0, 0)) (by (with_reducible repeat (first | refine blk_drewN ?_ _ | refine blk_drew ?_ | refine blk_alloc ?_ _)); exact BK157.out) hb); have n3_ := Aside0.mk (below_step (by repeat (first | (with_reducible first | exact HB.out | apply below_alloc | apply pw_below_drewN | apply below_drew1 | refine below_set ?_ GE157.out) | exact HB.out)) hb); clear HO153; clear HO156; clear BK157; clear HB; have HO153 := n0_; have HO156 := n1_; have BK157 := n2_; have HB := n3_; clear n0_ n1_ n2_ n3_; (try clear hb); (try clear hb2); (try clear hk); (try clear hi)) | (go_at_call 18; (with_reducible refine (bitset_Range.calls k 2 5 t160 _ A6.out).mono ?_); rintro e w45 ⟨v161, rfl, ho0, hb⟩; have n0_ := Aside0.mk (Kd.R_below (by (with_reducible repeat (first | apply Kd.R_alloc | apply Kd.R_drewN | apply Kd.R_drew)); exact HO153.out) hb); have n1_ := Aside0.mk (Kd.V_below (by (with_reducible repeat (first | apply Kd.V_alloc | apply Kd.V_drewN | apply Kd.V_drew)); exact HO156.out) hb); have n2_ := Aside0.mk (Kd.V_lower (Kd.V_mono (ok' := fun k_ => some k_ ≠ (.slice Ao37 y151.length co37 : Value).ownBlock ∧ k_ ≠ gb157) ho0 (fun k_ hk_ => ⟨(Kd.fresh' (Kd.R_lt (by (with_reducible repeat (first | apply Kd.R_alloc | apply Kd.R_drewN | apply Kd.R_drew)); exact HO153.out)) k_ hk_), (Kd.freshB (g := gb157) (o := .cells #[.slice Ao40 t154.length co40] 27 (0, 0)) (by (with_reducible repeat (first | refine blk_drewN ?_ _ | refine blk_drew ?_ | refine blk_alloc ?_ _)); exact BK157.out) k_ hk_)⟩)) (below_size (by repeat (first | (with_reducible first | exact HB.out | apply below_alloc | apply pw_below_drewN | apply below_drew1 | refine below_set ?_ GE157.out) | exact HB.out)))); have n3_ := Aside0.mk (blk_below (g := gb157) (o := .cells #[.slice Ao40 t154.length co40] 27 (0, 0)) (by (with_reducible repeat (first | refine blk_drewN ?_ _ | refine blk_drew ?_ | refine blk_alloc ?_ _)); exact BK157.out) hb); have n4_ := Aside0.mk (below_step (by repeat (first | (with_reducible first | exact HB.out | apply below_alloc | apply pw_below_drewN | apply below_drew1 | refine below_set ?_ GE157.out) | exact HB.out)) hb); clear HO153; clear HO156; clear BK157; clear HB; have HO153 := n0_; have HO156 := n1_; have HO162 := n2_; have BK157 := n3_; have HB := n4_; clear n0_ n1_ n2_ n3_ n4_; (try clear hb); (try clear hb2); (try clear hk); (try clear hi); (try clear ho0); obtain ⟨Ao46, co46, eo46⟩ := Kd.V_slice HO162.out; subst eo46) | (go_at_call 20; (with_reducible refine (bitset_Set_String.calls _ _ t160 t163 _ ?side1 ?side2 ?side3 A7.out).mono ?_); (case side1 => repeat (first | exact (Kd.V_reads' HO162.out).2.2 | (with_reducible refine Kd.C_alloc ?_ _) | (with_reducible refine Kd.C_drewN ?_ _) | (with_reducible refine Kd.C_drew ?_))); (case side2 => exact (Kd.V_reads' HO162.out).2.1); (case side3 => refine GW.below HG.out ?_; repeat (first | (with_reducible first | exact HB.out | apply below_alloc | apply pw_below_drewN | apply below_drew1 | refine below_set ?_ GE157.out) | exact HB.out)); rintro e w47 ⟨rfl, hb⟩; have n0_ := Aside0.mk (Kd.R_below (by (with_reducible repeat (first | apply Kd.R_alloc | apply Kd.R_drewN | apply Kd.R_drew)); exact HO153.out) hb); have n1_ := Aside0.mk (Kd.V_below (by (with_reducible repeat (first | apply Kd.V_alloc | apply Kd.V_drewN | apply Kd.V_drew)); exact HO156.out) hb); have n2_ := Aside0.mk (Kd.V_below (by (with_reducible repeat (first | apply Kd.V_alloc | apply Kd.V_drewN | apply Kd.V_drew)); exact HO162.out) hb); have n3_ := Aside0.mk (blk_below (g := gb157) (o := .cells #[.slice Ao40 t154.length co40] 27 (0, 0)) (by (with_reducible repeat (first | refine blk_drewN ?_ _ | refine blk_drew ?_ | refine blk_alloc ?_ _)); exact BK157.out) hb); have n4_ := Aside0.mk (below_step (by repeat (first | (with_reducible first | exact HB.out | apply below_alloc | apply pw_below_drewN | apply below_drew1 | refine below_set ?_ GE157.out) | exact HB.out)) hb); clear HO153; clear HO156; clear HO162; clear BK157; clear HB; have HO153 := n0_; have HO156 := n1_; have HO162 := n2_; have BK157 := n3_; have HB := n4_; clear n0_ n1_ n2_ n3_ n4_; (try clear hb); (try clear hb2); (try clear hk); (try clear hi)) | (go_at_call 13; (refine (bitset_Of.calls k _ _ ([] : List Int) t164 _ ?side1 ?side2 A9.out).mono ?_); (case side1 => exact Kd.C_nil _ _); (case side2 => exact Nat.le_refl _); rintro e w48 ⟨v165, rfl, ho0, hb⟩; have n0_ := Aside0.mk (Kd.R_below (by (with_reducible repeat (first | apply Kd.R_alloc | apply Kd.R_drewN | apply Kd.R_drew)); exact HO153.out) hb); have n1_ := Aside0.mk (Kd.V_below (by (with_reducible repeat (first | apply Kd.V_alloc | apply Kd.V_drewN | apply Kd.V_drew)); exact HO156.out) hb); have n2_ := Aside0.mk (Kd.V_below (by (with_reducible repeat (first | apply Kd.V_alloc | apply Kd.V_drewN | apply Kd.V_drew)); exact HO162.out) hb); have n3_ := Aside0.mk (Kd.V_lower (Kd.V_mono (ok' := fun k_ => some k_ ≠ (.slice Ao37 y151.length co37 : Value).ownBlock ∧ k_ ≠ gb157) ho0 (fun k_ hk_ => ⟨(Kd.fresh' (Kd.R_lt (by (with_reducible repeat (first | apply Kd.R_alloc | apply Kd.R_drewN | apply Kd.R_drew)); exact HO153.out)) k_ hk_), (Kd.freshB (g := gb157) (o := .cells #[.slice Ao40 t154.length co40] 27 (0, 0)) (by (with_reducible repeat (first | refine blk_drewN ?_ _ | refine blk_drew ?_ | refine blk_alloc ?_ _)); exact BK157.out) k_ hk_)⟩)) (below_size (by repeat (first | (with_reducible first | exact HB.out | apply below_alloc | apply pw_below_drewN | apply below_drew1 | refine below_set ?_ GE157.out) | exact HB.out)))); have n4_ := Aside0.mk (blk_below (g := gb157) (o := .cells #[.slice Ao40 t154.length co40] 27 (0, 0)) (by (with_reducible repeat (first | refine blk_drewN ?_ _ | refine blk_drew ?_ | refine blk_alloc ?_ _)); exact BK157.out) hb); have n5_ := Aside0.mk (below_step (by repeat (first | (with_reducible first | exact HB.out | apply below_alloc | apply pw_below_drewN | apply below_drew1 | refine below_set ?_ GE157.out) | exact HB.out)) hb); clear HO153; clear HO156; clear HO162; clear BK157; clear HB; have HO153 := n0_; have HO156 := n1_; have HO162 := n2_; have HO166 := n3_; have BK157 := n4_; have HB := n5_; clear n0_ n1_ n2_ n3_ n4_ n5_; (try clear hb); (try clear hb2); (try clear hk); (try clear hi); (try clear ho0); obtain ⟨Ao49, co49, eo49⟩ := Kd.V_slice HO166.out; subst eo49) | (go_at_call 20; (with_reducible refine (bitset_Set_String.calls _ _ t164 t167 _ ?side1 ?side2 ?side3 A10.out).mono ?_); (case side1 => repeat (first | exact (Kd.V_reads' HO166.out).2.2 | (with_reducible refine Kd.C_alloc ?_ _) | (with_reducible refine Kd.C_drewN ?_ _) | (with_reducible refine Kd.C_drew ?_))); (case side2 => exact (Kd.V_reads' HO166.out).2.1); (case side3 => refine GW.below HG.out ?_; repeat (first | (with_reducible first | exact HB.out | apply below_alloc | apply pw_below_drewN | apply below_drew1 | refine below_set ?_ GE157.out) | exact HB.out)); rintro e w50 ⟨rfl, hb⟩; have n0_ := Aside0.mk (Kd.R_below (by (with_reducible repeat (first | apply Kd.R_alloc | apply Kd.R_drewN | apply Kd.R_drew)); exact HO153.out) hb); have n1_ := Aside0.mk (Kd.V_below (by (with_reducible repeat (first | apply Kd.V_alloc | apply Kd.V_drewN | apply Kd.V_drew)); exact HO156.out) hb); have n2_ := Aside0.mk (Kd.V_below (by (with_reducible repeat (first | apply Kd.V_alloc | apply Kd.V_drewN | apply Kd.V_drew)); exact HO162.out) hb); have n3_ := Aside0.mk (Kd.V_below (by (with_reducible repeat (first | apply Kd.V_alloc | apply Kd.V_drewN | apply Kd.V_drew)); exact HO166.out) hb); have n4_ := Aside0.mk (blk_below (g := gb157) (o := .cells #[.slice Ao40 t154.length co40] 27 (0, 0)) (by (with_reducible repeat (first | refine blk_drewN ?_ _ | refine blk_drew ?_ | refine blk_alloc ?_ _)); exact BK157.out) hb); have n5_ := Aside0.mk (below_step (by repeat (first | (with_reducible first | exact HB.out | apply below_alloc | apply pw_below_drewN | apply below_drew1 | refine below_set ?_ GE157.out) | exact HB.out)) hb); clear HO153; clear HO156; clear HO162; clear HO166; clear BK157; clear HB; have HO153 := n0_; have HO156 := n1_; have HO162 := n2_; have HO166 := n3_; have BK157 := n4_; have HB := n5_; clear n0_ n1_ n2_ n3_ n4_ n5_; (try clear hb); (try clear hb2); (try clear hk); (try clear hi); have hcz51_0 : w50.cell? ⟨gb157, 0, none⟩ = some (.slice Ao40 t154.length co40) := (blk_cell BK157.out 0).trans rfl; have hfz51_0 := blk_frozen BK157.out 0) | (go_at_call 16; (with_reducible refine (bitset_Set_Has.calls _ _ t154 3 false _ ?side1 ?side2 A12.out).mono ?_); (case side1 => repeat (first | exact (Kd.V_reads' HO156.out).2.2 | (with_reducible refine Kd.C_alloc ?_ _) | (with_reducible refine Kd.C_drewN ?_ _) | (with_reducible refine Kd.C_drew ?_))); (case side2 => exact (Kd.V_reads' HO156.out).2.1); rintro e w52 ⟨rfl, hb⟩; have n0_ := Aside0.mk (Kd.R_below (by (with_reducible repeat (first | apply Kd.R_alloc | apply Kd.R_drewN | apply Kd.R_drew)); exact HO153.out) hb); have n1_ := Aside0.mk (Kd.V_below (by (with_reducible repeat (first | apply Kd.V_alloc | apply Kd.V_drewN | apply Kd.V_drew)); exact HO156.out) hb); have n2_ := Aside0.mk (Kd.V_below (by (with_reducible repeat (first | apply Kd.V_alloc | apply Kd.V_drewN | apply Kd.V_drew)); exact HO162.out) hb); have n3_ := Aside0.mk (Kd.V_below (by (with_reducible repeat (first | apply Kd.V_alloc | apply Kd.V_drewN | apply Kd.V_drew)); exact HO166.out) hb); have n4_ := Aside0.mk (blk_below (g := gb157) (o := .cells #[.slice Ao40 t154.length co40] 27 (0, 0)) (by (with_reducible repeat (first | refine blk_drewN ?_ _ | refine blk_drew ?_ | refine blk_alloc ?_ _)); exact BK157.out) hb); have n5_ := Aside0.mk (below_step (by repeat (first | (with_reducible first | exact HB.out | apply below_alloc | apply pw_below_drewN | apply below_drew1 | refine below_set ?_ GE157.out) | exact HB.out)) hb); clear HO153; clear HO156; clear HO162; clear HO166; clear BK157; clear HB; have HO153 := n0_; have HO156 := n1_; have HO162 := n2_; have HO166 := n3_; have BK157 := n4_; have HB := n5_; clear n0_ n1_ n2_ n3_ n4_ n5_; (try clear hb); (try clear hb2); (try clear hk); (try clear hi)))
            go_ret
            exact ⟨by first | rfl | (simp [errW_none, errW_some] <;> rfl) | (simp [*, errW_none, errW_some] <;> rfl), by repeat (first | (with_reducible first | exact HB.out | apply below_alloc | apply pw_below_drewN | apply below_drew1 | refine below_set ?_ GE157.out) | exact HB.out)⟩
        · rw [if_neg c11] at H
          have c11b0 : (t167.toList == ([123, 125] : List UInt8)) = false := beq_eq_false_iff_ne.mpr c11
          have c11b1 : (t167.toList != ([123, 125] : List UInt8)) = true := bne_iff_ne.mpr c11
          obtain rfl := Option.some.inj H
          go_enter Tryd.func11, Tryd.ntmps11
          go_wp2_with (first | ((with_reducible refine gate_dst (N := 2) rfl ?_); refine Kd.R_lit (Kd.int .i64) _ 3 ?hg (N := 2) ?hd (xs := ([5, 1, 3, 1] : List Int)) (inner := [.int .i64 5, .int .i64 1, .int .i64 3, .int .i64 1]) (ok := fun _ => True) (okp := fun _ => True) ?hr ?hp (fun _ hk => hk) trivial (Below.refl _ _) (Nat.le_refl _) (by simp) ?_; (case hd => rfl); (case hg => rfl); (case hr => first | (go_simp; done) | (go_simp; rfl)); (case hp => exact (Reps.one (show Kd.M (Kd.int .i64) _ _ _ 5 [.int .i64 5] from rfl) (Reps.one (show Kd.M (Kd.int .i64) _ _ _ 1 [.int .i64 1] from rfl) (Reps.one (show Kd.M (Kd.int .i64) _ _ _ 3 [.int .i64 3] from rfl) (Reps.one (show Kd.M (Kd.int .i64) _ _ _ 1 [.int .i64 1] from rfl) (Reps.none _ _)))))); intro v152 w53 ho54 hb hg_ hnew_; clear hg_ hnew_; (first | rw [← Ny151.out] at ho54 | (simp only [Int.reduceToNat] at ho54; rw [← Ny151.out] at ho54)); have n0_ := Aside0.mk (Kd.R_lower ho54 (below_size (by repeat (first | (with_reducible first | exact HB.out | apply below_alloc | apply pw_below_drewN | apply below_drew1) | exact HB.out)))); have n1_ := Aside0.mk (below_step (by repeat (first | (with_reducible first | exact HB.out | apply below_alloc | apply pw_below_drewN | apply below_drew1) | exact HB.out)) hb); clear HB; have HO153 := n0_; have HB := n1_; clear n0_ n1_; clear hb ho54; obtain ⟨Ao55, co55, eo55⟩ := Kd.R_slice HO153.out; subst eo55) | ((with_reducible refine gate_callee (f := 13) rfl ?_); refine goesL_ (some 3) rfl rfl Tryd.func13 (by kernel_rfl) rfl #[.slice Ao55 y151.length co55] rfl (by (try simp only [List.map_toArray, List.map_cons, List.map_nil]); first | done | rfl | (simp only [List.length_drop, List.length_take]; rfl)) ?_; (with_reducible refine (bitset_Of.calls k _ _ y151 t154 _ ?side1 ?side2 A1.out).mono ?_); (case side1 => repeat (first | exact (Kd.R_reads' HO153.out).2.2 | (with_reducible refine Kd.C_alloc ?_ _) | (with_reducible refine Kd.C_drewN ?_ _) | (with_reducible refine Kd.C_drew ?_))); (case side2 => exact (Kd.R_reads' HO153.out).2.1); rintro e w56 ⟨v155, rfl, ho0, hb⟩; refine ⟨_, rfl, ?_⟩; have n0_ := Aside0.mk (Kd.R_below (by (with_reducible repeat (first | apply Kd.R_alloc | apply Kd.R_drewN | apply Kd.R_drew)); exact HO153.out) hb); have n1_ := Aside0.mk (Kd.V_lower (Kd.V_mono (ok' := fun k_ => some k_ ≠ (.slice Ao55 y151.length co55 : Value).ownBlock) ho0 (fun k_ hk_ => (Kd.fresh' (Kd.R_lt (by (with_reducible repeat (first | apply Kd.R_alloc | apply Kd.R_drewN | apply Kd.R_drew)); exact HO153.out)) k_ hk_))) (below_size (by repeat (first | (with_reducible first | exact HB.out | apply below_alloc | apply pw_below_drewN | apply below_drew1) | exact HB.out)))); have n2_ := Aside0.mk (below_step (by repeat (first | (with_reducible first | exact HB.out | apply below_alloc | apply pw_below_drewN | apply below_drew1) | exact HB.out)) hb); clear HO153; clear HB; have HO153 := n0_; have HO156 := n1_; have HB := n2_; clear n0_ n1_ n2_; (try clear hb); (try clear hb2); (try clear hk); (try clear hi); (try clear ho0)) | ((with_reducible refine gate_dst (N := 1) rfl ?_); refine box_event ?hg (N := 1) ?hd (cs := #[.slice none 0 0]) (t := 27) ?hr ?_; (case hd => rfl); (case hg => rfl); (case hr => first | (go_simp; done) | (go_simp; rfl)); intro gb157 hg w57 hbox hb; have n0_ := Aside0.mk (Kd.R_below (by (with_reducible repeat (first | apply Kd.R_alloc | apply Kd.R_drewN | apply Kd.R_drew)); exact HO153.out) hb); have n1_ := Aside0.mk (Kd.V_below (Kd.V_elderB (by (with_reducible repeat (first | apply Kd.V_alloc | apply Kd.V_drewN | apply Kd.V_drew)); exact HO156.out) gb157 (Nat.le_of_eq hg.symm)) hb); have n2_ := Aside0.mk (below_step (by repeat (first | (with_reducible first | exact HB.out | apply below_alloc | apply pw_below_drewN | apply below_drew1) | exact HB.out)) hb); have n3_ := Aside0.mk (hbox); have n4_ := Aside0.mk ((by rw [hg]; exact (below_size (by repeat (first | (with_reducible first | exact HB.out | apply below_alloc | apply pw_below_drewN | apply below_drew1) | exact HB.out))) : w.heap.size ≤ gb157)); have n5_ := Aside0.mk ((by rw [hg]; exact (below_size (by repeat (first | (with_reducible first | exact HB.out | apply below_alloc | apply pw_below_drewN | apply below_drew1) | exact HB.out))) : w.heap.size ≤ gb157)); clear HO153; clear HO156; clear HB; have HO153 := n0_; have HO156 := n1_; have HB := n2_; have BK157 := n3_; have GW157 := n4_; have GE157 := n5_; clear n0_ n1_ n2_ n3_ n4_ n5_; clear hb hbox hg; obtain ⟨Ao58, co58, eo58⟩ := Kd.V_slice HO156.out; subst eo58; have hcz59_0 : w57.cell? ⟨gb157, 0, none⟩ = some (.slice none 0 0) := (blk_cell BK157.out 0).trans rfl; have hfz59_0 := blk_frozen BK157.out 0) | ((with_reducible refine gate_callee (f := 36) rfl ?_); refine goesL_ (some 5) rfl rfl Tryd.func36 (by kernel_rfl) rfl #[.agg #[.slice Ao58 t154.length co58]] rfl (by (try simp only [List.map_toArray, List.map_cons, List.map_nil]); first | done | rfl | (simp only [List.length_drop, List.length_take]; rfl)) ?_; (with_reducible refine (bitset_Set_Len.calls k _ _ t154 t158 _ ?side1 ?side2 A2.out).mono ?_); (case side1 => refine (Kd.V_reads' (e := 56) (base := w.heap.size) (ok := fun k_ => (some k_ ≠ (.slice Ao55 y151.length co55 : Value).ownBlock ∧ k_ ≠ gb157)) (n := t154.length) (c := co58) ?_).2.2; exact (by (with_reducible repeat (first | apply Kd.V_alloc | apply Kd.V_drewN | apply Kd.V_drew)); exact (Kd.V_mono (Kd.V_far (p := ⟨gb157, 0, none⟩) (Kd.V_mono HO156.out (fun k_ hk => (⟨hk, hk.2⟩ : _ ∧ k_ ≠ gb157))) (fun _ hk => hk.2) (.slice Ao58 t154.length co58)) (fun _ h_ => h_.1)))); (case side2 => exact (Kd.V_reads' HO156.out).2.1); rintro e w60 ⟨rfl, hb⟩; refine ⟨_, rfl, ?_⟩; have n0_ := Aside0.mk (Kd.R_below (by (with_reducible repeat (first | apply Kd.R_alloc | apply Kd.R_drewN | apply Kd.R_drew)); exact (Kd.R_mono (Kd.R_far (p := ⟨gb157, 0, none⟩) (Kd.R_types HO153.out BK157.out (by decide)) (fun _ hk => hk.2) (.slice Ao58 t154.length co58)) (fun _ h_ => h_.1))) hb); have n1_ := Aside0.mk (Kd.V_below (by (with_reducible repeat (first | apply Kd.V_alloc | apply Kd.V_drewN | apply Kd.V_drew)); exact (Kd.V_mono (Kd.V_far (p := ⟨gb157, 0, none⟩) (Kd.V_mono HO156.out (fun k_ hk => (⟨hk, hk.2⟩ : _ ∧ k_ ≠ gb157))) (fun _ hk => hk.2) (.slice Ao58 t154.length co58)) (fun _ h_ => h_.1))) hb); have n2_ := Aside0.mk (blk_below (g := gb157) (o := .cells #[.slice Ao58 t154.length co58] 27 (0, 0)) (by (with_reducible repeat (first | refine blk_drewN ?_ _ | refine blk_drew ?_ | refine blk_alloc ?_ _)); refine blk_put (cs := #[.slice none 0 0]) ?_ 0 _ rfl; (with_reducible repeat (first | refine blk_drewN ?_ _ | refine blk_drew ?_ | refine blk_alloc ?_ _)); exact BK157.out) hb); have n3_ := Aside0.mk (below_step (by repeat (first | (with_reducible first | exact HB.out | apply below_alloc | apply pw_below_drewN | apply below_drew1 | refine below_set ?_ GE157.out) | exact HB.out)) hb); clear HO153; clear HO156; clear BK157; clear HB; have HO153 := n0_; have HO156 := n1_; have BK157 := n2_; have HB := n3_; clear n0_ n1_ n2_ n3_; (try clear hb); (try clear hb2); (try clear hk); (try clear hi); have hcz61_0 : w60.cell? ⟨gb157, 0, none⟩ = some (.slice Ao58 t154.length co58) := (blk_cell BK157.out 0).trans rfl; have hfz61_0 := blk_frozen BK157.out 0) | (go_at_call 20; (with_reducible refine (bitset_Set_String.calls _ _ t154 t159 _ ?side1 ?side2 ?side3 A4.out).mono ?_); (case side1 => repeat (first | exact (Kd.V_reads' HO156.out).2.2 | (with_reducible refine Kd.C_alloc ?_ _) | (with_reducible refine Kd.C_drewN ?_ _) | (with_reducible refine Kd.C_drew ?_))); (case side2 => exact (Kd.V_reads' HO156.out).2.1); (case side3 => refine GW.below HG.out ?_; repeat (first | (with_reducible first | exact HB.out | apply below_alloc | apply pw_below_drewN | apply below_drew1 | refine below_set ?_ GE157.out) | exact HB.out)); rintro e w62 ⟨rfl, hb⟩; have n0_ := Aside0.mk (Kd.R_below (by (with_reducible repeat (first | apply Kd.R_alloc | apply Kd.R_drewN | apply Kd.R_drew)); exact HO153.out) hb); have n1_ := Aside0.mk (Kd.V_below (by (with_reducible repeat (first | apply Kd.V_alloc | apply Kd.V_drewN | apply Kd.V_drew)); exact HO156.out) hb); have n2_ := Aside0.mk (blk_below (g := gb157) (o := .cells #[.slice Ao58 t154.length co58] 27 (0, 0)) (by (with_reducible repeat (first | refine blk_drewN ?_ _ | refine blk_drew ?_ | refine blk_alloc ?_ _)); exact BK157.out) hb); have n3_ := Aside0.mk (below_step (by repeat (first | (with_reducible first | exact HB.out | apply below_alloc | apply pw_below_drewN | apply below_drew1 | refine below_set ?_ GE157.out) | exact HB.out)) hb); clear HO153; clear HO156; clear BK157; clear HB; have HO153 := n0_; have HO156 := n1_; have BK157 := n2_; have HB := n3_; clear n0_ n1_ n2_ n3_; (try clear hb); (try clear hb2); (try clear hk); (try clear hi)) | (go_at_call 18; (with_reducible refine (bitset_Range.calls k 2 5 t160 _ A6.out).mono ?_); rintro e w63 ⟨v161, rfl, ho0, hb⟩; have n0_ := Aside0.mk (Kd.R_below (by (with_reducible repeat (first | apply Kd.R_alloc | apply Kd.R_drewN | apply Kd.R_drew)); exact HO153.out) hb); have n1_ := Aside0.mk (Kd.V_below (by (with_reducible repeat (first | apply Kd.V_alloc | apply Kd.V_drewN | apply Kd.V_drew)); exact HO156.out) hb); have n2_ := Aside0.mk (Kd.V_lower (Kd.V_mono (ok' := fun k_ => some k_ ≠ (.slice Ao55 y151.length co55 : Value).ownBlock ∧ k_ ≠ gb157) ho0 (fun k_ hk_ => ⟨(Kd.fresh' (Kd.R_lt (by (with_reducible repeat (first | apply Kd.R_alloc | apply Kd.R_drewN | apply Kd.R_drew)); exact HO153.out)) k_ hk_), (Kd.freshB (g := gb157) (o := .cells #[.slice Ao58 t154.length co58] 27 (0, 0)) (by (with_reducible repeat (first | refine blk_drewN ?_ _ | refine blk_drew ?_ | refine blk_alloc ?_ _)); exact BK157.out) k_ hk_)⟩)) (below_size (by repeat (first | (with_reducible first | exact HB.out | apply below_alloc | apply pw_below_drewN | apply below_drew1 | refine below_set ?_ GE157.out) | exact HB.out)))); have n3_ := Aside0.mk (blk_below (g := gb157) (o := .cells #[.slice Ao58 t154.length co58] 27 (0, 0)) (by (with_reducible repeat (first | refine blk_drewN ?_ _ | refine blk_drew ?_ | refine blk_alloc ?_ _)); exact BK157.out) hb); have n4_ := Aside0.mk (below_step (by repeat (first | (with_reducible first | exact HB.out | apply below_alloc | apply pw_below_drewN | apply below_drew1 | refine below_set ?_ GE157.out) | exact HB.out)) hb); clear HO153; clear HO156; clear BK157; clear HB; have HO153 := n0_; have HO156 := n1_; have HO162 := n2_; have BK157 := n3_; have HB := n4_; clear n0_ n1_ n2_ n3_ n4_; (try clear hb); (try clear hb2); (try clear hk); (try clear hi); (try clear ho0); obtain ⟨Ao64, co64, eo64⟩ := Kd.V_slice HO162.out; subst eo64) | (go_at_call 20; (with_reducible refine (bitset_Set_String.calls _ _ t160 t163 _ ?side1 ?side2 ?side3 A7.out).mono ?_); (case side1 => repeat (first | exact (Kd.V_reads' HO162.out).2.2 | (with_reducible refine Kd.C_alloc ?_ _) | (with_reducible refine Kd.C_drewN ?_ _) | (with_reducible refine Kd.C_drew ?_))); (case side2 => exact (Kd.V_reads' HO162.out).2.1); (case side3 => refine GW.below HG.out ?_; repeat (first | (with_reducible first | exact HB.out | apply below_alloc | apply pw_below_drewN | apply below_drew1 | refine below_set ?_ GE157.out) | exact HB.out)); rintro e w65 ⟨rfl, hb⟩; have n0_ := Aside0.mk (Kd.R_below (by (with_reducible repeat (first | apply Kd.R_alloc | apply Kd.R_drewN | apply Kd.R_drew)); exact HO153.out) hb); have n1_ := Aside0.mk (Kd.V_below (by (with_reducible repeat (first | apply Kd.V_alloc | apply Kd.V_drewN | apply Kd.V_drew)); exact HO156.out) hb); have n2_ := Aside0.mk (Kd.V_below (by (with_reducible repeat (first | apply Kd.V_alloc | apply Kd.V_drewN | apply Kd.V_drew)); exact HO162.out) hb); have n3_ := Aside0.mk (blk_below (g := gb157) (o := .cells #[.slice Ao58 t154.length co58] 27 (0, 0)) (by (with_reducible repeat (first | refine blk_drewN ?_ _ | refine blk_drew ?_ | refine blk_alloc ?_ _)); exact BK157.out) hb); have n4_ := Aside0.mk (below_step (by repeat (first | (with_reducible first | exact HB.out | apply below_alloc | apply pw_below_drewN | apply below_drew1 | refine below_set ?_ GE157.out) | exact HB.out)) hb); clear HO153; clear HO156; clear HO162; clear BK157; clear HB; have HO153 := n0_; have HO156 := n1_; have HO162 := n2_; have BK157 := n3_; have HB := n4_; clear n0_ n1_ n2_ n3_ n4_; (try clear hb); (try clear hb2); (try clear hk); (try clear hi)) | (go_at_call 13; (refine (bitset_Of.calls k _ _ ([] : List Int) t164 _ ?side1 ?side2 A9.out).mono ?_); (case side1 => exact Kd.C_nil _ _); (case side2 => exact Nat.le_refl _); rintro e w66 ⟨v165, rfl, ho0, hb⟩; have n0_ := Aside0.mk (Kd.R_below (by (with_reducible repeat (first | apply Kd.R_alloc | apply Kd.R_drewN | apply Kd.R_drew)); exact HO153.out) hb); have n1_ := Aside0.mk (Kd.V_below (by (with_reducible repeat (first | apply Kd.V_alloc | apply Kd.V_drewN | apply Kd.V_drew)); exact HO156.out) hb); have n2_ := Aside0.mk (Kd.V_below (by (with_reducible repeat (first | apply Kd.V_alloc | apply Kd.V_drewN | apply Kd.V_drew)); exact HO162.out) hb); have n3_ := Aside0.mk (Kd.V_lower (Kd.V_mono (ok' := fun k_ => some k_ ≠ (.slice Ao55 y151.length co55 : Value).ownBlock ∧ k_ ≠ gb157) ho0 (fun k_ hk_ => ⟨(Kd.fresh' (Kd.R_lt (by (with_reducible repeat (first | apply Kd.R_alloc | apply Kd.R_drewN | apply Kd.R_drew)); exact HO153.out)) k_ hk_), (Kd.freshB (g := gb157) (o := .cells #[.slice Ao58 t154.length co58] 27 (0, 0)) (by (with_reducible repeat (first | refine blk_drewN ?_ _ | refine blk_drew ?_ | refine blk_alloc ?_ _)); exact BK157.out) k_ hk_)⟩)) (below_size (by repeat (first | (with_reducible first | exact HB.out | apply below_alloc | apply pw_below_drewN | apply below_drew1 | refine below_set ?_ GE157.out) | exact HB.out)))); have n4_ := Aside0.mk (blk_below (g := gb157) (o := .cells #[.slice Ao58 t154.length co58] 27 (0, 0)) (by (with_reducible repeat (first | refine blk_drewN ?_ _ | refine blk_drew ?_ | refine blk_alloc ?_ _)); exact BK157.out) hb); have n5_ := Aside0.mk (below_step (by repeat (first | (with_reducible first | exact HB.out | apply below_alloc | apply pw_below_drewN | apply below_drew1 | refine below_set ?_ GE157.out) | exact HB.out)) hb); clear HO153; clear HO156; clear HO162; clear BK157; clear HB; have HO153 := n0_; have HO156 := n1_; have HO162 := n2_; have HO166 := n3_; have BK157 := n4_; have HB := n5_; clear n0_ n1_ n2_ n3_ n4_ n5_; (try clear hb); (try clear hb2); (try clear hk); (try clear hi); (try clear ho0); obtain ⟨Ao67, co67, eo67⟩ := Kd.V_slice HO166.out; subst eo67) | (go_at_call 20; (with_reducible refine (bitset_Set_String.calls _ _ t164 t167 _ ?side1 ?side2 ?side3 A10.out).mono ?_); (case side1 => repeat (first | exact (Kd.V_reads' HO166.out).2.2 | (with_reducible refine Kd.C_alloc ?_ _) | (with_reducible refine Kd.C_drewN ?_ _) | (with_reducible refine Kd.C_drew ?_))); (case side2 => exact (Kd.V_reads' HO166.out).2.1); (case side3 => refine GW.below HG.out ?_; repeat (first | (with_reducible first | exact HB.out | apply below_alloc | apply pw_below_drewN | apply below_drew1 | refine below_set ?_ GE157.out) | exact HB.out)); rintro e w68 ⟨rfl, hb⟩; have n0_ := Aside0.mk (Kd.R_below (by (with_reducible repeat (first | apply Kd.R_alloc | apply Kd.R_drewN | apply Kd.R_drew)); exact HO153.out) hb); have n1_ := Aside0.mk (Kd.V_below (by (with_reducible repeat (first | apply Kd.V_alloc | apply Kd.V_drewN | apply Kd.V_drew)); exact HO156.out) hb); have n2_ := Aside0.mk (Kd.V_below (by (with_reducible repeat (first | apply Kd.V_alloc | apply Kd.V_drewN | apply Kd.V_drew)); exact HO162.out) hb); have n3_ := Aside0.mk (Kd.V_below (by (with_reducible repeat (first | apply Kd.V_alloc | apply Kd.V_drewN | apply Kd.V_drew)); exact HO166.out) hb); have n4_ := Aside0.mk (blk_below (g := gb157) (o := .cells #[.slice Ao58 t154.length co58] 27 (0, 0)) (by (with_reducible repeat (first | refine blk_drewN ?_ _ | refine blk_drew ?_ | refine blk_alloc ?_ _)); exact BK157.out) hb); have n5_ := Aside0.mk (below_step (by repeat (first | (with_reducible first | exact HB.out | apply below_alloc | apply pw_below_drewN | apply below_drew1 | refine below_set ?_ GE157.out) | exact HB.out)) hb); clear HO153; clear HO156; clear HO162; clear HO166; clear BK157; clear HB; have HO153 := n0_; have HO156 := n1_; have HO162 := n2_; have HO166 := n3_; have BK157 := n4_; have HB := n5_; clear n0_ n1_ n2_ n3_ n4_ n5_; (try clear hb); (try clear hb2); (try clear hk); (try clear hi)))
          go_ret
          exact ⟨by first | rfl | (simp [errW_none, errW_some] <;> rfl) | (simp [*, errW_none, errW_some] <;> rfl), by repeat (first | (with_reducible first | exact HB.out | apply below_alloc | apply pw_below_drewN | apply below_drew1 | refine below_set ?_ GE157.out) | exact HB.out)⟩
      · rw [if_neg c8] at H
        have c8b0 : (t163.toList == ([123, 50, 32, 51, 32, 52, 125] : List UInt8)) = false := beq_eq_false_iff_ne.mpr c8
        have c8b1 : (t163.toList != ([123, 50, 32, 51, 32, 52, 125] : List UInt8)) = true := bne_iff_ne.mpr c8
        obtain rfl := Option.some.inj H
        go_enter Tryd.func11, Tryd.ntmps11
        go_wp2_with (first | ((with_reducible refine gate_dst (N := 2) rfl ?_); refine Kd.R_lit (Kd.int .i64) _ 3 ?hg (N := 2) ?hd (xs := ([5, 1, 3, 1] : List Int)) (inner := [.int .i64 5, .int .i64 1, .int .i64 3, .int .i64 1]) (ok := fun _ => True) (okp := fun _ => True) ?hr ?hp (fun _ hk => hk) trivial (Below.refl _ _) (Nat.le_refl _) (by simp) ?_; (case hd => rfl); (case hg => rfl); (case hr => first | (go_simp; done) | (go_simp; rfl)); (case hp => exact (Reps.one (show Kd.M (Kd.int .i64) _ _ _ 5 [.int .i64 5] from rfl) (Reps.one (show Kd.M (Kd.int .i64) _ _ _ 1 [.int .i64 1] from rfl) (Reps.one (show Kd.M (Kd.int .i64) _ _ _ 3 [.int .i64 3] from rfl) (Reps.one (show Kd.M (Kd.int .i64) _ _ _ 1 [.int .i64 1] from rfl) (Reps.none _ _)))))); intro v152 w69 ho70 hb hg_ hnew_; clear hg_ hnew_; (first | rw [← Ny151.out] at ho70 | (simp only [Int.reduceToNat] at ho70; rw [← Ny151.out] at ho70)); have n0_ := Aside0.mk (Kd.R_lower ho70 (below_size (by repeat (first | (with_reducible first | exact HB.out | apply below_alloc | apply pw_below_drewN | apply below_drew1) | exact HB.out)))); have n1_ := Aside0.mk (below_step (by repeat (first | (with_reducible first | exact HB.out | apply below_alloc | apply pw_below_drewN | apply below_drew1) | exact HB.out)) hb); clear HB; have HO153 := n0_; have HB := n1_; clear n0_ n1_; clear hb ho70; obtain ⟨Ao71, co71, eo71⟩ := Kd.R_slice HO153.out; subst eo71) | ((with_reducible refine gate_callee (f := 13) rfl ?_); refine goesL_ (some 3) rfl rfl Tryd.func13 (by kernel_rfl) rfl #[.slice Ao71 y151.length co71] rfl (by (try simp only [List.map_toArray, List.map_cons, List.map_nil]); first | done | rfl | (simp only [List.length_drop, List.length_take]; rfl)) ?_; (with_reducible refine (bitset_Of.calls k _ _ y151 t154 _ ?side1 ?side2 A1.out).mono ?_); (case side1 => repeat (first | exact (Kd.R_reads' HO153.out).2.2 | (with_reducible refine Kd.C_alloc ?_ _) | (with_reducible refine Kd.C_drewN ?_ _) | (with_reducible refine Kd.C_drew ?_))); (case side2 => exact (Kd.R_reads' HO153.out).2.1); rintro e w72 ⟨v155, rfl, ho0, hb⟩; refine ⟨_, rfl, ?_⟩; have n0_ := Aside0.mk (Kd.R_below (by (with_reducible repeat (first | apply Kd.R_alloc | apply Kd.R_drewN | apply Kd.R_drew)); exact HO153.out) hb); have n1_ := Aside0.mk (Kd.V_lower (Kd.V_mono (ok' := fun k_ => some k_ ≠ (.slice Ao71 y151.length co71 : Value).ownBlock) ho0 (fun k_ hk_ => (Kd.fresh' (Kd.R_lt (by (with_reducible repeat (first | apply Kd.R_alloc | apply Kd.R_drewN | apply Kd.R_drew)); exact HO153.out)) k_ hk_))) (below_size (by repeat (first | (with_reducible first | exact HB.out | apply below_alloc | apply pw_below_drewN | apply below_drew1) | exact HB.out)))); have n2_ := Aside0.mk (below_step (by repeat (first | (with_reducible first | exact HB.out | apply below_alloc | apply pw_below_drewN | apply below_drew1) | exact HB.out)) hb); clear HO153; clear HB; have HO153 := n0_; have HO156 := n1_; have HB := n2_; clear n0_ n1_ n2_; (try clear hb); (try clear hb2); (try clear hk); (try clear hi); (try clear ho0)) | ((with_reducible refine gate_dst (N := 1) rfl ?_); refine box_event ?hg (N := 1) ?hd (cs := #[.slice none 0 0]) (t := 27) ?hr ?_; (case hd => rfl); (case hg => rfl); (case hr => first | (go_simp; done) | (go_simp; rfl)); intro gb157 hg w73 hbox hb; have n0_ := Aside0.mk (Kd.R_below (by (with_reducible repeat (first | apply Kd.R_alloc | apply Kd.R_drewN | apply Kd.R_drew)); exact HO153.out) hb); have n1_ := Aside0.mk (Kd.V_below (Kd.V_elderB (by (with_reducible repeat (first | apply Kd.V_alloc | apply Kd.V_drewN | apply Kd.V_drew)); exact HO156.out) gb157 (Nat.le_of_eq hg.symm)) hb); have n2_ := Aside0.mk (below_step (by repeat (first | (with_reducible first | exact HB.out | apply below_alloc | apply pw_below_drewN | apply below_drew1) | exact HB.out)) hb); have n3_ := Aside0.mk (hbox); have n4_ := Aside0.mk ((by rw [hg]; exact (below_size (by repeat (first | (with_reducible first | exact HB.out | apply below_alloc | apply pw_below_drewN | apply below_drew1) | exact HB.out))) : w.heap.size ≤ gb157)); have n5_ := Aside0.mk ((by rw [hg]; exact (below_size (by repeat (first | (with_reducible first | exact HB.out | apply below_alloc | apply pw_below_drewN | apply below_drew1) | exact HB.out))) : w.heap.size ≤ gb157)); clear HO153; clear HO156; clear HB; have HO153 := n0_; have HO156 := n1_; have HB := n2_; have BK157 := n3_; have GW157 := n4_; have GE157 := n5_; clear n0_ n1_ n2_ n3_ n4_ n5_; clear hb hbox hg; obtain ⟨Ao74, co74, eo74⟩ := Kd.V_slice HO156.out; subst eo74; have hcz75_0 : w73.cell? ⟨gb157, 0, none⟩ = some (.slice none 0 0) := (blk_cell BK157.out 0).trans rfl; have hfz75_0 := blk_frozen BK157.out 0) | ((with_reducible refine gate_callee (f := 36) rfl ?_); refine goesL_ (some 5) rfl rfl Tryd.func36 (by kernel_rfl) rfl #[.agg #[.slice Ao74 t154.length co74]] rfl (by (try simp only [List.map_toArray, List.map_cons, List.map_nil]); first | done | rfl | (simp only [List.length_drop, List.length_take]; rfl)) ?_; (with_reducible refine (bitset_Set_Len.calls k _ _ t154 t158 _ ?side1 ?side2 A2.out).mono ?_); (case side1 => refine (Kd.V_reads' (e := 56) (base := w.heap.size) (ok := fun k_ => (some k_ ≠ (.slice Ao71 y151.length co71 : Value).ownBlock ∧ k_ ≠ gb157)) (n := t154.length) (c := co74) ?_).2.2; exact (by (with_reducible repeat (first | apply Kd.V_alloc | apply Kd.V_drewN | apply Kd.V_drew)); exact (Kd.V_mono (Kd.V_far (p := ⟨gb157, 0, none⟩) (Kd.V_mono HO156.out (fun k_ hk => (⟨hk, hk.2⟩ : _ ∧ k_ ≠ gb157))) (fun _ hk => hk.2) (.slice Ao74 t154.length co74)) (fun _ h_ => h_.1)))); (case side2 => exact (Kd.V_reads' HO156.out).2.1); rintro e w76 ⟨rfl, hb⟩; refine ⟨_, rfl, ?_⟩; have n0_ := Aside0.mk (Kd.R_below (by (with_reducible repeat (first | apply Kd.R_alloc | apply Kd.R_drewN | apply Kd.R_drew)); exact (Kd.R_mono (Kd.R_far (p := ⟨gb157, 0, none⟩) (Kd.R_types HO153.out BK157.out (by decide)) (fun _ hk => hk.2) (.slice Ao74 t154.length co74)) (fun _ h_ => h_.1))) hb); have n1_ := Aside0.mk (Kd.V_below (by (with_reducible repeat (first | apply Kd.V_alloc | apply Kd.V_drewN | apply Kd.V_drew)); exact (Kd.V_mono (Kd.V_far (p := ⟨gb157, 0, none⟩) (Kd.V_mono HO156.out (fun k_ hk => (⟨hk, hk.2⟩ : _ ∧ k_ ≠ gb157))) (fun _ hk => hk.2) (.slice Ao74 t154.length co74)) (fun _ h_ => h_.1))) hb); have n2_ := Aside0.mk (blk_below (g := gb157) (o := .cells #[.slice Ao74 t154.length co74] 27 (0, 0)) (by (with_reducible repeat (first | refine blk_drewN ?_ _ | refine blk_drew ?_ | refine blk_alloc ?_ _)); refine blk_put (cs := #[.slice none 0 0]) ?_ 0 _ rfl; (with_reducible repeat (first | refine blk_drewN ?_ _ | refine blk_drew ?_ | refine blk_alloc ?_ _)); exact BK157.out) hb); have n3_ := Aside0.mk (below_step (by repeat (first | (with_reducible first | exact HB.out | apply below_alloc | apply pw_below_drewN | apply below_drew1 | refine below_set ?_ GE157.out) | exact HB.out)) hb); clear HO153; clear HO156; clear BK157; clear HB; have HO153 := n0_; have HO156 := n1_; have BK157 := n2_; have HB := n3_; clear n0_ n1_ n2_ n3_; (try clear hb); (try clear hb2); (try clear hk); (try clear hi); have hcz77_0 : w76.cell? ⟨gb157, 0, none⟩ = some (.slice Ao74 t154.length co74) := (blk_cell BK157.out 0).trans rfl; have hfz77_0 := blk_frozen BK157.out 0) | (go_at_call 20; (with_reducible refine (bitset_Set_String.calls _ _ t154 t159 _ ?side1 ?side2 ?side3 A4.out).mono ?_); (case side1 => repeat (first | exact (Kd.V_reads' HO156.out).2.2 | (with_reducible refine Kd.C_alloc ?_ _) | (with_reducible refine Kd.C_drewN ?_ _) | (with_reducible refine Kd.C_drew ?_))); (case side2 => exact (Kd.V_reads' HO156.out).2.1); (case side3 => refine GW.below HG.out ?_; repeat (first | (with_reducible first | exact HB.out | apply below_alloc | apply pw_below_drewN | apply below_drew1 | refine below_set ?_ GE157.out) | exact HB.out)); rintro e w78 ⟨rfl, hb⟩; have n0_ := Aside0.mk (Kd.R_below (by (with_reducible repeat (first | apply Kd.R_alloc | apply Kd.R_drewN | apply Kd.R_drew)); exact HO153.out) hb); have n1_ := Aside0.mk (Kd.V_below (by (with_reducible repeat (first | apply Kd.V_alloc | apply Kd.V_drewN | apply Kd.V_drew)); exact HO156.out) hb); have n2_ := Aside0.mk (blk_below (g := gb157) (o := .cells #[.slice Ao74 t154.length co74] 27 (0, 0)) (by (with_reducible repeat (first | refine blk_drewN ?_ _ | refine blk_drew ?_ | refine blk_alloc ?_ _)); exact BK157.out) hb); have n3_ := Aside0.mk (below_step (by repeat (first | (with_reducible first | exact HB.out | apply below_alloc | apply pw_below_drewN | apply below_drew1 | refine below_set ?_ GE157.out) | exact HB.out)) hb); clear HO153; clear HO156; clear BK157; clear HB; have HO153 := n0_; have HO156 := n1_; have BK157 := n2_; have HB := n3_; clear n0_ n1_ n2_ n3_; (try clear hb); (try clear hb2); (try clear hk); (try clear hi)) | (go_at_call 18; (with_reducible refine (bitset_Range.calls k 2 5 t160 _ A6.out).mono ?_); rintro e w79 ⟨v161, rfl, ho0, hb⟩; have n0_ := Aside0.mk (Kd.R_below (by (with_reducible repeat (first | apply Kd.R_alloc | apply Kd.R_drewN | apply Kd.R_drew)); exact HO153.out) hb); have n1_ := Aside0.mk (Kd.V_below (by (with_reducible repeat (first | apply Kd.V_alloc | apply Kd.V_drewN | apply Kd.V_drew)); exact HO156.out) hb); have n2_ := Aside0.mk (Kd.V_lower (Kd.V_mono (ok' := fun k_ => some k_ ≠ (.slice Ao71 y151.length co71 : Value).ownBlock ∧ k_ ≠ gb157) ho0 (fun k_ hk_ => ⟨(Kd.fresh' (Kd.R_lt (by (with_reducible repeat (first | apply Kd.R_alloc | apply Kd.R_drewN | apply Kd.R_drew)); exact HO153.out)) k_ hk_), (Kd.freshB (g := gb157) (o := .cells #[.slice Ao74 t154.length co74] 27 (0, 0)) (by (with_reducible repeat (first | refine blk_drewN ?_ _ | refine blk_drew ?_ | refine blk_alloc ?_ _)); exact BK157.out) k_ hk_)⟩)) (below_size (by repeat (first | (with_reducible first | exact HB.out | apply below_alloc | apply pw_below_drewN | apply below_drew1 | refine below_set ?_ GE157.out) | exact HB.out)))); have n3_ := Aside0.mk (blk_below (g := gb157) (o := .cells #[.slice Ao74 t154.length co74] 27 (0, 0)) (by (with_reducible repeat (first | refine blk_drewN ?_ _ | refine blk_drew ?_ | refine blk_alloc ?_ _)); exact BK157.out) hb); have n4_ := Aside0.mk (below_step (by repeat (first | (with_reducible first | exact HB.out | apply below_alloc | apply pw_below_drewN | apply below_drew1 | refine below_set ?_ GE157.out) | exact HB.out)) hb); clear HO153; clear HO156; clear BK157; clear HB; have HO153 := n0_; have HO156 := n1_; have HO162 := n2_; have BK157 := n3_; have HB := n4_; clear n0_ n1_ n2_ n3_ n4_; (try clear hb); (try clear hb2); (try clear hk); (try clear hi); (try clear ho0); obtain ⟨Ao80, co80, eo80⟩ := Kd.V_slice HO162.out; subst eo80) | (go_at_call 20; (with_reducible refine (bitset_Set_String.calls _ _ t160 t163 _ ?side1 ?side2 ?side3 A7.out).mono ?_); (case side1 => repeat (first | exact (Kd.V_reads' HO162.out).2.2 | (with_reducible refine Kd.C_alloc ?_ _) | (with_reducible refine Kd.C_drewN ?_ _) | (with_reducible refine Kd.C_drew ?_))); (case side2 => exact (Kd.V_reads' HO162.out).2.1); (case side3 => refine GW.below HG.out ?_; repeat (first | (with_reducible first | exact HB.out | apply below_alloc | apply pw_below_drewN | apply below_drew1 | refine below_set ?_ GE157.out) | exact HB.out)); rintro e w81 ⟨rfl, hb⟩; have n0_ := Aside0.mk (Kd.R_below (by (with_reducible repeat (first | apply Kd.R_alloc | apply Kd.R_drewN | apply Kd.R_drew)); exact HO153.out) hb); have n1_ := Aside0.mk (Kd.V_below (by (with_reducible repeat (first | apply Kd.V_alloc | apply Kd.V_drewN | apply Kd.V_drew)); exact HO156.out) hb); have n2_ := Aside0.mk (Kd.V_below (by (with_reducible repeat (first | apply Kd.V_alloc | apply Kd.V_drewN | apply Kd.V_drew)); exact HO162.out) hb); have n3_ := Aside0.mk (blk_below (g := gb157) (o := .cells #[.slice Ao74 t154.length co74] 27 (0, 0)) (by (with_reducible repeat (first | refine blk_drewN ?_ _ | refine blk_drew ?_ | refine blk_alloc ?_ _)); exact BK157.out) hb); have n4_ := Aside0.mk (below_step (by repeat (first | (with_reducible first | exact HB.out | apply below_alloc | apply pw_below_drewN | apply below_drew1 | refine below_set ?_ GE157.out) | exact HB.out)) hb); clear HO153; clear HO156; clear HO162; clear BK157; clear HB; have HO153 := n0_; have HO156 := n1_; have HO162 := n2_; have BK157 := n3_; have HB := n4_; clear n0_ n1_ n2_ n3_ n4_; (try clear hb); (try clear hb2); (try clear hk); (try clear hi)))
        go_ret
        exact ⟨by first | rfl | (simp [errW_none, errW_some] <;> rfl) | (simp [*, errW_none, errW_some] <;> rfl), by repeat (first | (with_reducible first | exact HB.out | apply below_alloc | apply pw_below_drewN | apply below_drew1 | refine below_set ?_ GE157.out) | exact HB.out)⟩
    · rw [if_neg c5] at H
      have c5b0 : (t159.toList == ([123, 49, 32, 51, 32, 53, 125] : List UInt8)) = false := beq_eq_false_iff_ne.mpr c5
      have c5b1 : (t159.toList != ([123, 49, 32, 51, 32, 53, 125] : List UInt8)) = true := bne_iff_ne.mpr c5
      obtain rfl := Option.some.inj H
      go_enter Tryd.func11, Tryd.ntmps11
      go_wp2_with (first | ((with_reducible refine gate_dst (N := 2) rfl ?_); refine Kd.R_lit (Kd.int .i64) _ 3 ?hg (N := 2) ?hd (xs := ([5, 1, 3, 1] : List Int)) (inner := [.int .i64 5, .int .i64 1, .int .i64 3, .int .i64 1]) (ok := fun _ => True) (okp := fun _ => True) ?hr ?hp (fun _ hk => hk) trivial (Below.refl _ _) (Nat.le_refl _) (by simp) ?_; (case hd => rfl); (case hg => rfl); (case hr => first | (go_simp; done) | (go_simp; rfl)); (case hp => exact (Reps.one (show Kd.M (Kd.int .i64) _ _ _ 5 [.int .i64 5] from rfl) (Reps.one (show Kd.M (Kd.int .i64) _ _ _ 1 [.int .i64 1] from rfl) (Reps.one (show Kd.M (Kd.int .i64) _ _ _ 3 [.int .i64 3] from rfl) (Reps.one (show Kd.M (Kd.int .i64) _ _ _ 1 [.int .i64 1] from rfl) (Reps.none _ _)))))); intro v152 w82 ho83 hb hg_ hnew_; clear hg_ hnew_; (first | rw [← Ny151.out] at ho83 | (simp only [Int.reduceToNat] at ho83; rw [← Ny151.out] at ho83)); have n0_ := Aside0.mk (Kd.R_lower ho83 (below_size (by repeat (first | (with_reducible first | exact HB.out | apply below_alloc | apply pw_below_drewN | apply below_drew1) | exact HB.out)))); have n1_ := Aside0.mk (below_step (by repeat (first | (with_reducible first | exact HB.out | apply below_alloc | apply pw_below_drewN | apply below_drew1) | exact HB.out)) hb); clear HB; have HO153 := n0_; have HB := n1_; clear n0_ n1_; clear hb ho83; obtain ⟨Ao84, co84, eo84⟩ := Kd.R_slice HO153.out; subst eo84) | ((with_reducible refine gate_callee (f := 13) rfl ?_); refine goesL_ (some 3) rfl rfl Tryd.func13 (by kernel_rfl) rfl #[.slice Ao84 y151.length co84] rfl (by (try simp only [List.map_toArray, List.map_cons, List.map_nil]); first | done | rfl | (simp only [List.length_drop, List.length_take]; rfl)) ?_; (with_reducible refine (bitset_Of.calls k _ _ y151 t154 _ ?side1 ?side2 A1.out).mono ?_); (case side1 => repeat (first | exact (Kd.R_reads' HO153.out).2.2 | (with_reducible refine Kd.C_alloc ?_ _) | (with_reducible refine Kd.C_drewN ?_ _) | (with_reducible refine Kd.C_drew ?_))); (case side2 => exact (Kd.R_reads' HO153.out).2.1); rintro e w85 ⟨v155, rfl, ho0, hb⟩; refine ⟨_, rfl, ?_⟩; have n0_ := Aside0.mk (Kd.R_below (by (with_reducible repeat (first | apply Kd.R_alloc | apply Kd.R_drewN | apply Kd.R_drew)); exact HO153.out) hb); have n1_ := Aside0.mk (Kd.V_lower (Kd.V_mono (ok' := fun k_ => some k_ ≠ (.slice Ao84 y151.length co84 : Value).ownBlock) ho0 (fun k_ hk_ => (Kd.fresh' (Kd.R_lt (by (with_reducible repeat (first | apply Kd.R_alloc | apply Kd.R_drewN | apply Kd.R_drew)); exact HO153.out)) k_ hk_))) (below_size (by repeat (first | (with_reducible first | exact HB.out | apply below_alloc | apply pw_below_drewN | apply below_drew1) | exact HB.out)))); have n2_ := Aside0.mk (below_step (by repeat (first | (with_reducible first | exact HB.out | apply below_alloc | apply pw_below_drewN | apply below_drew1) | exact HB.out)) hb); clear HO153; clear HB; have HO153 := n0_; have HO156 := n1_; have HB := n2_; clear n0_ n1_ n2_; (try clear hb); (try clear hb2); (try clear hk); (try clear hi); (try clear ho0)) | ((with_reducible refine gate_dst (N := 1) rfl ?_); refine box_event ?hg (N := 1) ?hd (cs := #[.slice none 0 0]) (t := 27) ?hr ?_; (case hd => rfl); (case hg => rfl); (case hr => first | (go_simp; done) | (go_simp; rfl)); intro gb157 hg w86 hbox hb; have n0_ := Aside0.mk (Kd.R_below (by (with_reducible repeat (first | apply Kd.R_alloc | apply Kd.R_drewN | apply Kd.R_drew)); exact HO153.out) hb); have n1_ := Aside0.mk (Kd.V_below (Kd.V_elderB (by (with_reducible repeat (first | apply Kd.V_alloc | apply Kd.V_drewN | apply Kd.V_drew)); exact HO156.out) gb157 (Nat.le_of_eq hg.symm)) hb); have n2_ := Aside0.mk (below_step (by repeat (first | (with_reducible first | exact HB.out | apply below_alloc | apply pw_below_drewN | apply below_drew1) | exact HB.out)) hb); have n3_ := Aside0.mk (hbox); have n4_ := Aside0.mk ((by rw [hg]; exact (below_size (by repeat (first | (with_reducible first | exact HB.out | apply below_alloc | apply pw_below_drewN | apply below_drew1) | exact HB.out))) : w.heap.size ≤ gb157)); have n5_ := Aside0.mk ((by rw [hg]; exact (below_size (by repeat (first | (with_reducible first | exact HB.out | apply below_alloc | apply pw_below_drewN | apply below_drew1) | exact HB.out))) : w.heap.size ≤ gb157)); clear HO153; clear HO156; clear HB; have HO153 := n0_; have HO156 := n1_; have HB := n2_; have BK157 := n3_; have GW157 := n4_; have GE157 := n5_; clear n0_ n1_ n2_ n3_ n4_ n5_; clear hb hbox hg; obtain ⟨Ao87, co87, eo87⟩ := Kd.V_slice HO156.out; subst eo87; have hcz88_0 : w86.cell? ⟨gb157, 0, none⟩ = some (.slice none 0 0) := (blk_cell BK157.out 0).trans rfl; have hfz88_0 := blk_frozen BK157.out 0) | ((with_reducible refine gate_callee (f := 36) rfl ?_); refine goesL_ (some 5) rfl rfl Tryd.func36 (by kernel_rfl) rfl #[.agg #[.slice Ao87 t154.length co87]] rfl (by (try simp only [List.map_toArray, List.map_cons, List.map_nil]); first | done | rfl | (simp only [List.length_drop, List.length_take]; rfl)) ?_; (with_reducible refine (bitset_Set_Len.calls k _ _ t154 t158 _ ?side1 ?side2 A2.out).mono ?_); (case side1 => refine (Kd.V_reads' (e := 56) (base := w.heap.size) (ok := fun k_ => (some k_ ≠ (.slice Ao84 y151.length co84 : Value).ownBlock ∧ k_ ≠ gb157)) (n := t154.length) (c := co87) ?_).2.2; exact (by (with_reducible repeat (first | apply Kd.V_alloc | apply Kd.V_drewN | apply Kd.V_drew)); exact (Kd.V_mono (Kd.V_far (p := ⟨gb157, 0, none⟩) (Kd.V_mono HO156.out (fun k_ hk => (⟨hk, hk.2⟩ : _ ∧ k_ ≠ gb157))) (fun _ hk => hk.2) (.slice Ao87 t154.length co87)) (fun _ h_ => h_.1)))); (case side2 => exact (Kd.V_reads' HO156.out).2.1); rintro e w89 ⟨rfl, hb⟩; refine ⟨_, rfl, ?_⟩; have n0_ := Aside0.mk (Kd.R_below (by (with_reducible repeat (first | apply Kd.R_alloc | apply Kd.R_drewN | apply Kd.R_drew)); exact (Kd.R_mono (Kd.R_far (p := ⟨gb157, 0, none⟩) (Kd.R_types HO153.out BK157.out (by decide)) (fun _ hk => hk.2) (.slice Ao87 t154.length co87)) (fun _ h_ => h_.1))) hb); have n1_ := Aside0.mk (Kd.V_below (by (with_reducible repeat (first | apply Kd.V_alloc | apply Kd.V_drewN | apply Kd.V_drew)); exact (Kd.V_mono (Kd.V_far (p := ⟨gb157, 0, none⟩) (Kd.V_mono HO156.out (fun k_ hk => (⟨hk, hk.2⟩ : _ ∧ k_ ≠ gb157))) (fun _ hk => hk.2) (.slice Ao87 t154.length co87)) (fun _ h_ => h_.1))) hb); have n2_ := Aside0.mk (blk_below (g := gb157) (o := .cells #[.slice Ao87 t154.length co87] 27 (0, 0)) (by (with_reducible repeat (first | refine blk_drewN ?_ _ | refine blk_drew ?_ | refine blk_alloc ?_ _)); refine blk_put (cs := #[.slice none 0 0]) ?_ 0 _ rfl; (with_reducible repeat (first | refine blk_drewN ?_ _ | refine blk_drew ?_ | refine blk_alloc ?_ _)); exact BK157.out) hb); have n3_ := Aside0.mk (below_step (by repeat (first | (with_reducible first | exact HB.out | apply below_alloc | apply pw_below_drewN | apply below_drew1 | refine below_set ?_ GE157.out) | exact HB.out)) hb); clear HO153; clear HO156; clear BK157; clear HB; have HO153 := n0_; have HO156 := n1_; have BK157 := n2_; have HB := n3_; clear n0_ n1_ n2_ n3_; (try clear hb); (try clear hb2); (try clear hk); (try clear hi); have hcz90_0 : w89.cell? ⟨gb157, 0, none⟩ = some (.slice Ao87 t154.length co87) := (blk_cell BK157.out 0).trans rfl; have hfz90_0 := blk_frozen BK157.out 0) | (go_at_call 20; (with_reducible refine (bitset_Set_String.calls _ _ t154 t159 _ ?side1 ?side2 ?side3 A4.out).mono ?_); (case side1 => repeat (first | exact (Kd.V_reads' HO156.out).2.2 | (with_reducible refine Kd.C_alloc ?_ _) | (with_reducible refine Kd.C_drewN ?_ _) | (with_reducible refine Kd.C_drew ?_))); (case side2 => exact (Kd.V_reads' HO156.out).2.1); (case side3 => refine GW.below HG.out ?_; repeat (first | (with_reducible first | exact HB.out | apply below_alloc | apply pw_below_drewN | apply below_drew1 | refine below_set ?_ GE157.out) | exact HB.out)); rintro e w91 ⟨rfl, hb⟩; have n0_ := Aside0.mk (Kd.R_below (by (with_reducible repeat (first | apply Kd.R_alloc | apply Kd.R_drewN | apply Kd.R_drew)); exact HO153.out) hb); have n1_ := Aside0.mk (Kd.V_below (by (with_reducible repeat (first | apply Kd.V_alloc | apply Kd.V_drewN | apply Kd.V_drew)); exact HO156.out) hb); have n2_ := Aside0.mk (blk_below (g := gb157) (o := .cells #[.slice Ao87 t154.length co87] 27 (0, 0)) (by (with_reducible repeat (first | refine blk_drewN ?_ _ | refine blk_drew ?_ | refine blk_alloc ?_ _)); exact BK157.out) hb); have n3_ := Aside0.mk (below_step (by repeat (first | (with_reducible first | exact HB.out | apply below_alloc | apply pw_below_drewN | apply below_drew1 | refine below_set ?_ GE157.out) | exact HB.out)) hb); clear HO153; clear HO156; clear BK157; clear HB; have HO153 := n0_; have HO156 := n1_; have BK157 := n2_; have HB := n3_; clear n0_ n1_ n2_ n3_; (try clear hb); (try clear hb2); (try clear hk); (try clear hi)))
      go_ret
      exact ⟨by first | rfl | (simp [errW_none, errW_some] <;> rfl) | (simp [*, errW_none, errW_some] <;> rfl), by repeat (first | (with_reducible first | exact HB.out | apply below_alloc | apply pw_below_drewN | apply below_drew1 | refine below_set ?_ GE157.out) | exact HB.out)⟩
  · rw [if_neg c3] at H
    have c3b0 : (t158 == 3) = false := beq_eq_false_iff_ne.mpr c3
    have c3b1 : (t158 != 3) = true := bne_iff_ne.mpr c3
    obtain rfl := Option.some.inj H
    go_enter Tryd.func11, Tryd.ntmps11
    go_wp2_with (first | ((with_reducible refine gate_dst (N := 2) rfl ?_); refine Kd.R_lit (Kd.int .i64) _ 3 ?hg (N := 2) ?hd (xs := ([5, 1, 3, 1] : List Int)) (inner := [.int .i64 5, .int .i64 1, .int .i64 3, .int .i64 1]) (ok := fun _ => True) (okp := fun _ => True) ?hr ?hp (fun _ hk => hk) trivial (Below.refl _ _) (Nat.le_refl _) (by simp) ?_; (case hd => rfl); (case hg => rfl); (case hr => first | (go_simp; done) | (go_simp; rfl)); (case hp => exact (Reps.one (show Kd.M (Kd.int .i64) _ _ _ 5 [.int .i64 5] from rfl) (Reps.one (show Kd.M (Kd.int .i64) _ _ _ 1 [.int .i64 1] from rfl) (Reps.one (show Kd.M (Kd.int .i64) _ _ _ 3 [.int .i64 3] from rfl) (Reps.one (show Kd.M (Kd.int .i64) _ _ _ 1 [.int .i64 1] from rfl) (Reps.none _ _)))))); intro v152 w92 ho93 hb hg_ hnew_; clear hg_ hnew_; (first | rw [← Ny151.out] at ho93 | (simp only [Int.reduceToNat] at ho93; rw [← Ny151.out] at ho93)); have n0_ := Aside0.mk (Kd.R_lower ho93 (below_size (by repeat (first | (with_reducible first | exact HB.out | apply below_alloc | apply pw_below_drewN | apply below_drew1) | exact HB.out)))); have n1_ := Aside0.mk (below_step (by repeat (first | (with_reducible first | exact HB.out | apply below_alloc | apply pw_below_drewN | apply below_drew1) | exact HB.out)) hb); clear HB; have HO153 := n0_; have HB := n1_; clear n0_ n1_; clear hb ho93; obtain ⟨Ao94, co94, eo94⟩ := Kd.R_slice HO153.out; subst eo94) | ((with_reducible refine gate_callee (f := 13) rfl ?_); refine goesL_ (some 3) rfl rfl Tryd.func13 (by kernel_rfl) rfl #[.slice Ao94 y151.length co94] rfl (by (try simp only [List.map_toArray, List.map_cons, List.map_nil]); first | done | rfl | (simp only [List.length_drop, List.length_take]; rfl)) ?_; (with_reducible refine (bitset_Of.calls k _ _ y151 t154 _ ?side1 ?side2 A1.out).mono ?_); (case side1 => repeat (first | exact (Kd.R_reads' HO153.out).2.2 | (with_reducible refine Kd.C_alloc ?_ _) | (with_reducible refine Kd.C_drewN ?_ _) | (with_reducible refine Kd.C_drew ?_))); (case side2 => exact (Kd.R_reads' HO153.out).2.1); rintro e w95 ⟨v155, rfl, ho0, hb⟩; refine ⟨_, rfl, ?_⟩; have n0_ := Aside0.mk (Kd.R_below (by (with_reducible repeat (first | apply Kd.R_alloc | apply Kd.R_drewN | apply Kd.R_drew)); exact HO153.out) hb); have n1_ := Aside0.mk (Kd.V_lower (Kd.V_mono (ok' := fun k_ => some k_ ≠ (.slice Ao94 y151.length co94 : Value).ownBlock) ho0 (fun k_ hk_ => (Kd.fresh' (Kd.R_lt (by (with_reducible repeat (first | apply Kd.R_alloc | apply Kd.R_drewN | apply Kd.R_drew)); exact HO153.out)) k_ hk_))) (below_size (by repeat (first | (with_reducible first | exact HB.out | apply below_alloc | apply pw_below_drewN | apply below_drew1) | exact HB.out)))); have n2_ := Aside0.mk (below_step (by repeat (first | (with_reducible first | exact HB.out | apply below_alloc | apply pw_below_drewN | apply below_drew1) | exact HB.out)) hb); clear HO153; clear HB; have HO153 := n0_; have HO156 := n1_; have HB := n2_; clear n0_ n1_ n2_; (try clear hb); (try clear hb2); (try clear hk); (try clear hi); (try clear ho0)) | ((with_reducible refine gate_dst (N := 1) rfl ?_); refine box_event ?hg (N := 1) ?hd (cs := #[.slice none 0 0]) (t := 27) ?hr ?_; (case hd => rfl); (case hg => rfl); (case hr => first | (go_simp; done) | (go_simp; rfl)); intro gb157 hg w96 hbox hb; have n0_ := Aside0.mk (Kd.R_below (by (with_reducible repeat (first | apply Kd.R_alloc | apply Kd.R_drewN | apply Kd.R_drew)); exact HO153.out) hb); have n1_ := Aside0.mk (Kd.V_below (Kd.V_elderB (by (with_reducible repeat (first | apply Kd.V_alloc | apply Kd.V_drewN | apply Kd.V_drew)); exact HO156.out) gb157 (Nat.le_of_eq hg.symm)) hb); have n2_ := Aside0.mk (below_step (by repeat (first | (with_reducible first | exact HB.out | apply below_alloc | apply pw_below_drewN | apply below_drew1) | exact HB.out)) hb); have n3_ := Aside0.mk (hbox); have n4_ := Aside0.mk ((by rw [hg]; exact (below_size (by repeat (first | (with_reducible first | exact HB.out | apply below_alloc | apply pw_below_drewN | apply below_drew1) | exact HB.out))) : w.heap.size ≤ gb157)); have n5_ := Aside0.mk ((by rw [hg]; exact (below_size (by repeat (first | (with_reducible first | exact HB.out | apply below_alloc | apply pw_below_drewN | apply below_drew1) | exact HB.out))) : w.heap.size ≤ gb157)); clear HO153; clear HO156; clear HB; have HO153 := n0_; have HO156 := n1_; have HB := n2_; have BK157 := n3_; have GW157 := n4_; have GE157 := n5_; clear n0_ n1_ n2_ n3_ n4_ n5_; clear hb hbox hg; obtain ⟨Ao97, co97, eo97⟩ := Kd.V_slice HO156.out; subst eo97; have hcz98_0 : w96.cell? ⟨gb157, 0, none⟩ = some (.slice none 0 0) := (blk_cell BK157.out 0).trans rfl; have hfz98_0 := blk_frozen BK157.out 0) | ((with_reducible refine gate_callee (f := 36) rfl ?_); refine goesL_ (some 5) rfl rfl Tryd.func36 (by kernel_rfl) rfl #[.agg #[.slice Ao97 t154.length co97]] rfl (by (try simp only [List.map_toArray, List.map_cons, List.map_nil]); first | done | rfl | (simp only [List.length_drop, List.length_take]; rfl)) ?_; (with_reducible refine (bitset_Set_Len.calls k _ _ t154 t158 _ ?side1 ?side2 A2.out).mono ?_); (case side1 => refine (Kd.V_reads' (e := 56) (base := w.heap.size) (ok := fun k_ => (some k_ ≠ (.slice Ao94 y151.length co94 : Value).ownBlock ∧ k_ ≠ gb157)) (n := t154.length) (c := co97) ?_).2.2; exact (by (with_reducible repeat (first | apply Kd.V_alloc | apply Kd.V_drewN | apply Kd.V_drew)); exact (Kd.V_mono (Kd.V_far (p := ⟨gb157, 0, none⟩) (Kd.V_mono HO156.out (fun k_ hk => (⟨hk, hk.2⟩ : _ ∧ k_ ≠ gb157))) (fun _ hk => hk.2) (.slice Ao97 t154.length co97)) (fun _ h_ => h_.1)))); (case side2 => exact (Kd.V_reads' HO156.out).2.1); rintro e w99 ⟨rfl, hb⟩; refine ⟨_, rfl, ?_⟩; have n0_ := Aside0.mk (Kd.R_below (by (with_reducible repeat (first | apply Kd.R_alloc | apply Kd.R_drewN | apply Kd.R_drew)); exact (Kd.R_mono (Kd.R_far (p := ⟨gb157, 0, none⟩) (Kd.R_types HO153.out BK157.out (by decide)) (fun _ hk => hk.2) (.slice Ao97 t154.length co97)) (fun _ h_ => h_.1))) hb); have n1_ := Aside0.mk (Kd.V_below (by (with_reducible repeat (first | apply Kd.V_alloc | apply Kd.V_drewN | apply Kd.V_drew)); exact (Kd.V_mono (Kd.V_far (p := ⟨gb157, 0, none⟩) (Kd.V_mono HO156.out (fun k_ hk => (⟨hk, hk.2⟩ : _ ∧ k_ ≠ gb157))) (fun _ hk => hk.2) (.slice Ao97 t154.length co97)) (fun _ h_ => h_.1))) hb); have n2_ := Aside0.mk (blk_below (g := gb157) (o := .cells #[.slice Ao97 t154.length co97] 27 (0, 0)) (by (with_reducible repeat (first | refine blk_drewN ?_ _ | refine blk_drew ?_ | refine blk_alloc ?_ _)); refine blk_put (cs := #[.slice none 0 0]) ?_ 0 _ rfl; (with_reducible repeat (first | refine blk_drewN ?_ _ | refine blk_drew ?_ | refine blk_alloc ?_ _)); exact BK157.out) hb); have n3_ := Aside0.mk (below_step (by repeat (first | (with_reducible first | exact HB.out | apply below_alloc | apply pw_below_drewN | apply below_drew1 | refine below_set ?_ GE157.out) | exact HB.out)) hb); clear HO153; clear HO156; clear BK157; clear HB; have HO153 := n0_; have HO156 := n1_; have BK157 := n2_; have HB := n3_; clear n0_ n1_ n2_ n3_; (try clear hb); (try clear hb2); (try clear hk); (try clear hi)))
    go_ret
    exact ⟨by first | rfl | (simp [errW_none, errW_some] <;> rfl) | (simp [*, errW_none, errW_some] <;> rfl), by repeat (first | (with_reducible first | exact HB.out | apply below_alloc | apply pw_below_drewN | apply below_drew1 | refine below_set ?_ GE157.out) | exact HB.out)⟩

end Go.Proofs.YtoobapkccogdhaaDoor.PX
/- The reference in plain words: lists in order. Collecting a set; comparing. -/
namespace Go.Proofs.YtoobapkccogdhaaDoor.PX
open Go.RowKit Go.Proofs.YtoobapkccogdhaaDoorW.PrintWords Go.Proofs.YtoobapkccogdhaaDoorW.PrintLast Go.Proofs.YtoobapkccogdhaaDoorW.PrintMore
set_option linter.unusedVariables false
theorem srt_len {l : List Int} (h : Srt l) : l.length ≤ 65536 := by
  have key : ∀ (l : List Int) (a : Int), l.Pairwise (· < ·) → (∀ x ∈ l, a ≤ x ∧ x ≤ 65535) → 0 ≤ a → a ≤ 65536 → (l.length : Int) ≤ 65536 - a := by
    intro l
    induction l with
    | nil => intro a _ _ _ _; simp; omega
    | cons x l ih =>
      intro a hp hx h0 h1
      have hp' := List.pairwise_cons.1 hp
      have hxa := hx x (by simp)
      have := ih (x + 1) hp'.2 (fun y hy => ⟨by have := hp'.1 y hy; omega, (hx y (by simp [hy])).2⟩) (by omega) (by omega)
      rw [List.length_cons]
      omega
  have := key l 0 h.1 h.2 (by omega) (by omega)
  omega
theorem srt_nil : Srt [] := ⟨List.Pairwise.nil, fun x hx => by cases hx⟩
theorem rvalid_eq (n : Int) : trickleref04_valid.f n = some (decide (0 ≤ n ∧ n ≤ 65535)) := by
  unfold trickleref04_valid.f
  by_cases h : n ≥ 0
  · rw [if_pos h]
    congr 1
    exact decide_eq_decide.2 ⟨fun k => ⟨h, k⟩, fun k => k.2⟩
  · rw [if_neg h, decide_eq_false (by omega)]
theorem rhas_loop (l : List Int) (n : Int) (hn : l.length ≤ 1000000) : ∀ d j, j + d = l.length → Ev (fun k => trickleref04_Has.l0 k n l (l.length : Int) (j : Int)) (decide (n ∈ l.drop j))
  | 0, j, h => by
    refine Ev.step (fun k => by rw [trickleref04_Has.l0]) (Ev.neg (by omega) (Ev.cast (Ev.now _) ?_))
    rw [List.drop_eq_nil_of_le (by omega)]
    simp
  | d + 1, j, h => by
    have hj : j < l.length := by omega
    refine Ev.step (fun k => by rw [trickleref04_Has.l0]) (Ev.pos (by omega) (Ev.pos (by omega) (Ev.pos (by omega) ?_)))
    rw [rd_nat _ _ hj, drop_cons _ _ hj]
    by_cases he : l[j] = n
    · refine Ev.pos he (Ev.cast (Ev.now _) ?_)
      rw [decide_eq_true]
      rw [he]; simp
    · refine Ev.neg he ?_
      rw [wrap_nat hj (by omega)]
      refine Ev.cast (rhas_loop l n hn d (j + 1) (by omega)) ?_
      apply decide_eq_decide.2
      rw [List.mem_cons]
      exact ⟨Or.inr, fun h => h.resolve_left (fun e => he e.symm)⟩
theorem rhas_ev (l : List Int) (n : Int) (hn : l.length ≤ 1000000) : Ev (fun k => trickleref04_Has.f k l n) (decide (n ∈ l)) := by
  have h := rhas_loop l n hn l.length 0 (by omega)
  rw [List.drop_zero] at h
  exact h
theorem put_srt {l : List Int} (hs : Srt l) (n : Int) (h0 : 0 ≤ n ∧ n ≤ 65535) (j : Nat) (h1 : ∀ x ∈ l.take j, x < n) (h2 : ∀ x ∈ l.drop j, n < x) :
    Srt (([] ++ l.take j ++ [n]) ++ l.drop j) ∧ ∀ x, x ∈ (([] ++ l.take j ++ [n]) ++ l.drop j) ↔ (x ∈ l ∨ x = n) := by
  have hmem : ∀ x, x ∈ (([] ++ l.take j ++ [n]) ++ l.drop j) ↔ (x ∈ l ∨ x = n) := by
    intro x
    have hx : x ∈ l ↔ x ∈ l.take j ∨ x ∈ l.drop j := by rw [← List.mem_append, List.take_append_drop]
    rw [hx, List.nil_append, List.mem_append, List.mem_append, List.mem_singleton]
    constructor
    · rintro ((h | h) | h)
      · exact Or.inl (Or.inl h)
      · exact Or.inr h
      · exact Or.inl (Or.inr h)
    · rintro ((h | h) | h)
      · exact Or.inl (Or.inl h)
      · exact Or.inr h
      · exact Or.inl (Or.inr h)
  refine ⟨⟨?_, fun x hx => ?_⟩, hmem⟩
  · rw [List.nil_append, List.append_assoc, List.pairwise_append]
    refine ⟨hs.1.sublist (List.take_sublist _ _), ?_, fun a ha b hb => ?_⟩
    · rw [List.singleton_append, List.pairwise_cons]
      exact ⟨h2, hs.1.sublist (List.drop_sublist _ _)⟩
    · rw [List.singleton_append, List.mem_cons] at hb
      rcases hb with hb | hb
      · rw [hb]; exact h1 a ha
      · have := h1 a ha
        have := h2 b hb
        omega
  · rcases (hmem x).1 hx with h | h
    · exact hs.2 x h
    · rw [h]; exact h0
theorem with_loop {l : List Int} (hs : Srt l) (n : Int) (h0 : 0 ≤ n ∧ n ≤ 65535) (hni : ¬ n ∈ l) : ∀ d j, j + d = l.length → (∀ x ∈ l.take j, x < n) →
    ∃ r, Ev (fun k => trickleref04_With.l0 k l n (j : Int)) r ∧ Srt r ∧ ∀ x, x ∈ r ↔ (x ∈ l ∨ x = n)
  | 0, j, h, hp => by
    have hl := srt_len hs
    have hd : l.drop j = [] := List.drop_eq_nil_of_le (by omega)
    obtain ⟨p1, p2⟩ := put_srt hs n h0 j hp (by rw [hd]; intro x hx; cases hx)
    refine ⟨_, ?_, p1, p2⟩
    refine Ev.step (fun k => by rw [trickleref04_With.l0]) (Ev.neg (by omega) (Ev.someb ?_))
    refine Ev.pos (by omega) (Ev.pos (by omega) (Ev.someb ?_))
    rw [Int.toNat_natCast]
    refine Ev.pos (by rw [List.length_take]; simp; omega) (Ev.someb (Ev.pos (by rw [List.nil_append, List.length_take]; omega) (Ev.someb (Ev.someb ?_))))
    refine Ev.pos (by rw [List.nil_append, List.length_append, List.length_take, List.length_drop, List.length_singleton]; omega) (Ev.now _)
  | d + 1, j, h, hp => by
    have hl := srt_len hs
    have hj : j < l.length := by omega
    by_cases hlt : l[j] < n
    · obtain ⟨r, r1, r2⟩ := with_loop hs n h0 hni d (j + 1) (by omega) (fun x hx => by
        rw [take_snoc' _ _ hj, List.mem_append, List.mem_singleton] at hx
        rcases hx with hx | hx
        · exact hp x hx
        · rw [hx]; exact hlt)
      refine ⟨r, ?_, r2⟩
      refine Ev.step (fun k => by rw [trickleref04_With.l0]) (Ev.pos (by omega) (Ev.pos (by omega) ?_))
      rw [rd_nat _ _ hj]
      refine Ev.pos hlt ?_
      rw [wrap_nat hj (by omega)]
      exact r1
    · have hge : n < l[j] := by
        have : l[j] ≠ n := fun e => hni (e ▸ List.getElem_mem hj)
        omega
      obtain ⟨p1, p2⟩ := put_srt hs n h0 j hp (by
        rw [drop_cons _ _ hj]
        intro x hx
        rcases List.mem_cons.1 hx with hx | hx
        · rw [hx]; exact hge
        · have hpd : (l.drop j).Pairwise (· < ·) := hs.1.sublist (List.drop_sublist _ _)
          rw [drop_cons _ _ hj] at hpd
          have := (List.pairwise_cons.1 hpd).1 x hx
          omega)
      refine ⟨_, ?_, p1, p2⟩
      refine Ev.step (fun k => by rw [trickleref04_With.l0]) (Ev.pos (by omega) (Ev.pos (by omega) ?_))
      rw [rd_nat _ _ hj]
      refine Ev.neg hlt (Ev.someb (Ev.pos (by omega) (Ev.someb ?_)))
      rw [Int.toNat_natCast]
      refine Ev.pos (by rw [List.length_take]; simp; omega) (Ev.someb (Ev.pos (by rw [List.nil_append, List.length_take]; omega) (Ev.someb (Ev.someb ?_))))
      refine Ev.pos (by rw [List.nil_append, List.length_append, List.length_take, List.length_drop, List.length_singleton]; omega) (Ev.now _)
theorem rwith_ev {l : List Int} (hs : Srt l) (n : Int) : ∃ r, Ev (fun k => trickleref04_With.f k l n) r ∧ Srt r ∧ ∀ x, x ∈ r ↔ (x ∈ l ∨ (x = n ∧ 0 ≤ n ∧ n ≤ 65535)) := by
  have hl := srt_len hs
  by_cases hv : 0 ≤ n ∧ n ≤ 65535
  · by_cases hm : n ∈ l
    · refine ⟨l, Ev.congr (fun k => by rw [trickleref04_With.f]) (Ev.const (rvalid_eq n) (Ev.pos (decide_eq_true hv) (Ev.bind (rhas_ev l n (by omega)) ?_))), hs, fun x => ⟨Or.inl, fun h => ?_⟩⟩
      · exact Ev.step (fun k => by rw [trickleref04_With.j0]) (Ev.pos (decide_eq_true hm) (Ev.now _))
      · rcases h with h | h
        · exact h
        · rw [h.1]; exact hm
    · obtain ⟨r, r1, r2, r3⟩ := with_loop hs n hv hm l.length 0 (by omega) (fun x hx => by rw [List.take_zero] at hx; cases hx)
      refine ⟨r, Ev.congr (fun k => by rw [trickleref04_With.f]) (Ev.const (rvalid_eq n) (Ev.pos (decide_eq_true hv) (Ev.bind (rhas_ev l n (by omega)) ?_))), r2, fun x => ?_⟩
      · refine Ev.step (f := fun k => if decide (n ∈ l) = true then some l else trickleref04_With.l0 k l n ((0 : Nat) : Int)) (fun k => by rw [trickleref04_With.j0]; rfl) ?_
        exact Ev.neg (by rw [decide_eq_false hm]; decide) r1
      · rw [r3]
        exact ⟨fun h => h.imp id (fun e => ⟨e, hv⟩), fun h => h.imp id (fun e => e.1)⟩
  · refine ⟨l, Ev.congr (fun k => by rw [trickleref04_With.f]) (Ev.const (rvalid_eq n) ?_), hs, fun x => ⟨Or.inl, fun h => h.resolve_right (fun e => hv e.2)⟩⟩
    refine Ev.neg (by rw [decide_eq_false hv]; decide) ?_
    exact Ev.step (fun k => by rw [trickleref04_With.j0]) (Ev.pos rfl (Ev.now _))
theorem rof_loop (l : List Int) (hn : l.length ≤ 1000000) : ∀ d j, j + d = l.length → ∀ x : List Int, Srt x →
    ∃ r, Ev (fun k => trickleref04_Of.l0 k x l (l.length : Int) (j : Int)) r ∧ Srt r ∧ ∀ y, y ∈ r ↔ (y ∈ x ∨ (y ∈ l.drop j ∧ 0 ≤ y ∧ y ≤ 65535))
  | 0, j, h, x, hx => by
    refine ⟨x, Ev.step (fun k => by rw [trickleref04_Of.l0]) (Ev.neg (by omega) (Ev.now _)), hx, fun y => ?_⟩
    rw [List.drop_eq_nil_of_le (by omega)]
    simp
  | d + 1, j, h, x, hx => by
    have hj : j < l.length := by omega
    obtain ⟨s, s1, s2, s3⟩ := rwith_ev hx l[j]
    obtain ⟨r, r1, r2, r3⟩ := rof_loop l hn d (j + 1) (by omega) s s2
    refine ⟨r, ?_, r2, fun y => ?_⟩
    · refine Ev.step (fun k => by rw [trickleref04_Of.l0]) (Ev.pos (by omega) (Ev.pos (by omega) (Ev.pos (by omega) ?_)))
      rw [rd_nat _ _ hj]
      refine Ev.bind s1 ?_
      rw [wrap_nat hj (by omega)]
      exact r1
    · rw [r3, s3, drop_cons _ _ hj, List.mem_cons]
      constructor
      · rintro ((h | ⟨h, h'⟩) | ⟨h, h'⟩)
        · exact Or.inl h
        · exact Or.inr ⟨Or.inl h, by omega, by omega⟩
        · exact Or.inr ⟨Or.inr h, h'⟩
      · rintro (h | ⟨h | h, h'⟩)
        · exact Or.inl (Or.inl h)
        · exact Or.inl (Or.inr ⟨h, by omega, by omega⟩)
        · exact Or.inr ⟨h, h'⟩
theorem rof_ev (l : List Int) (hn : l.length ≤ 1000000) : ∃ r, Ev (fun k => trickleref04_Of.f k l) r ∧ Srt r ∧ ∀ x, x ∈ r ↔ (x ∈ l ∧ 0 ≤ x ∧ x ≤ 65535) := by
  obtain ⟨r, h1, h2, h3⟩ := rof_loop l hn l.length 0 (by omega) [] srt_nil
  refine ⟨r, h1, h2, fun x => ?_⟩
  rw [h3, List.drop_zero]
  exact ⟨fun h => h.resolve_left (fun e => by cases e), Or.inr⟩
theorem req_loop (a b : List Int) (hl : a.length = b.length) (hn : a.length ≤ 1000000) : ∀ d j, j + d = a.length → Ev (fun k => trickleref04_Equal.l0 k a b (a.length : Int) (j : Int)) (decide (a.drop j = b.drop j))
  | 0, j, h => by
    refine Ev.step (fun k => by rw [trickleref04_Equal.l0]) (Ev.neg (by omega) (Ev.cast (Ev.now _) ?_))
    rw [List.drop_eq_nil_of_le (by omega), List.drop_eq_nil_of_le (by omega)]
    rfl
  | d + 1, j, h => by
    have hj : j < a.length := by omega
    have hj2 : j < b.length := by omega
    refine Ev.step (fun k => by rw [trickleref04_Equal.l0]) (Ev.pos (by omega) (Ev.pos (by omega) (Ev.pos (by omega) (Ev.pos (by omega) ?_))))
    rw [rd_nat _ _ hj, rd_nat _ _ hj2, drop_cons _ _ hj, drop_cons _ _ hj2]
    by_cases he : a[j] = b[j]
    · refine Ev.pos he ?_
      rw [wrap_nat hj (by omega)]
      refine Ev.cast (req_loop a b hl hn d (j + 1) (by omega)) ?_
      rw [he]
      exact decide_eq_decide.2 ⟨fun h => by rw [h], fun h => by injection h⟩
    · refine Ev.neg he (Ev.cast (Ev.now _) ?_)
      rw [decide_eq_false]
      intro h
      injection h with h1 h2
      exact he h1
theorem requal_ev (a b : List Int) (hn : a.length ≤ 1000000) : Ev (fun k => trickleref04_Equal.f k a b) (decide (a = b)) := by
  refine Ev.congr (fun k => by rw [trickleref04_Equal.f]) ?_
  by_cases hl : a.length = b.length
  · refine Ev.pos (by omega) (Ev.cast (req_loop a b hl (by omega) a.length 0 (by omega)) ?_)
    rw [List.drop_zero, List.drop_zero]
  · refine Ev.neg (by omega) (Ev.cast (Ev.now _) ?_)
    rw [decide_eq_false (fun h => hl (by rw [h]))]
theorem okB_good {ws : List Int} (h : Good ws) : okB ws = true := by
  unfold okB
  rw [List.all_eq_true]
  intro x hx
  have := h.ok x hx
  rw [Bool.and_eq_true, decide_eq_true_iff, decide_eq_true_iff]
  exact this
theorem small_eq (l : List Int) : trickleref04_Small.f l = some (decide (l.length ≤ 60)) := by
  unfold trickleref04_Small.f
  congr 1
  exact decide_eq_decide.2 (by omega)
end Go.Proofs.YtoobapkccogdhaaDoor.PX
/- The chapter's examples. -/
namespace Go.Proofs.YtoobapkccogdhaaDoor.PX
open Go.RowKit Go.Proofs.YtoobapkccogdhaaDoorW.PrintWords Go.Proofs.YtoobapkccogdhaaDoorW.PrintLast Go.Proofs.YtoobapkccogdhaaDoorW.PrintMore
theorem awake_ev : Ev (fun k => tricklelaw04_awake.f k) true := Ev.of (k := 40) (fun k => tricklelaw04_awake.mono k) (by kernel_rfl)
end Go.Proofs.YtoobapkccogdhaaDoor.PX
/- BitsetIterates: the closure that collects and stops. -/
namespace Go.Proofs.YtoobapkccogdhaaDoor.PX
open Go.RowKit Go.Shelf Go.Proofs.YtoobapkccogdhaaDoorW.PrintWords Go.Proofs.YtoobapkccogdhaaDoorW.PrintMore
attribute [local go_sem] Oper.semAt_some
set_option linter.unusedVariables false
/-- How many elements are taken. -/
def stopN (s : Int) : Nat := (Int.tmod s 20 + 1).toNat
theorem stopN_eq {s : Int} (h0 : 0 ≤ s) (h1 : s ≤ 255) : wrap64 (Int.tmod (wrap64 s) 20 + 1) = (stopN s : Int) ∧ 1 ≤ stopN s ∧ stopN s ≤ 20 := by
  have e1 : wrap64 s = s := by unfold wrap64; omega
  have e2 : Int.tmod s 20 = s % 20 := Int.tmod_eq_emod_of_nonneg h0
  unfold stopN
  rw [e1, e2]
  refine ⟨?_, ?_, ?_⟩
  · unfold wrap64; omega
  · omega
  · omega
set_option maxHeartbeats 2000000 in
set_option maxRecDepth 100000 in
theorem iter1_calls (w0 : World) (B q : Nat) (hB : w0.heap.size ≤ B) (s : Int) (hs0 : 0 ≤ s) (hs1 : s ≤ 255) (hq : w0.cell? ⟨q, 0, none⟩ = some (.int .u8 s)) (x : Int) (pre : List Int) (v : Value) (W : World) (hv : W.heap[B]? = some (.cells #[v] 22 (0, 0))) (hR : Kd.R (Kd.int .i64) 3 W w0.heap.size (fun k_ => w0.heap.size ≤ k_) v pre) (hb : Below w0.heap.size w0 W) (hl : pre.length < stopN s) :
    Calls Tryd.prog 23 #[.int .i64 x, .pointer (some ⟨B, 0, none⟩), .pointer (some ⟨q, 0, none⟩)] W fun e W' => e = .returned (.bool (decide ((pre ++ [x]).length < stopN s))) ∧ (∃ v', W'.heap[B]? = some (.cells #[v'] 22 (0, 0)) ∧ Kd.R (Kd.int .i64) 3 W' w0.heap.size (fun k_ => w0.heap.size ≤ k_) v' (pre ++ [x]) ∧ Below w0.heap.size w0 W') ∧ Below w0.heap.size W W' := by
  obtain ⟨hn, hn1, hn2⟩ := stopN_eq hs0 hs1
  have HN := Aside0.mk hn
  have HV := Aside0.mk hv
  have HR := Aside0.mk hR
  have HB := Aside0.mk hb
  have HS : Aside0 (w0.heap.size ≤ W.heap.size) := ⟨below_size hb⟩
  have HL : Aside0 (pre.length < 20) := ⟨by omega⟩
  have HG := Aside0.mk hB
  have HQ := Aside0.mk hq
  have NQ : Aside0 (q < w0.heap.size) := ⟨World.block_lt_of_cell? w0 _ hq⟩
  obtain ⟨A, c, rfl⟩ := Kd.R_slice hR
  have k0 : W.cell? ⟨B, 0, none⟩ = some (.slice A pre.length c) := by rw [blk_cell HV.out 0]; rfl
  clear hv hR hb hl hB hs0 hs1 hq hn hn1 hn2
  go_enter Tryd.func23, Tryd.ntmps23
  go_wp2_with ((with_reducible refine gate_builtin (b := .append) (xs := #[.tmp 5, .tmp 7]) rfl ?_); at_builtin; refine Kd.R_append (Kd.int .i64) (w0 := W) w0.heap.size rfl (.tmp 5) (.tmp 7) 22 3 (.int .i64 0) 8 rfl Tryd.underlying22 info3 rfl (by decide) (by omega) (.slice A pre.length c) pre x [.int .i64 x] (fun k_ => (w0.heap.size ≤ k_)) (fun _ => False) rfl rfl rfl (fun _ hk => hk.elim) (fun k_ hk => Nat.le_trans HS.out hk) HR.out (Below.refl _ _) HS.out ?aL ?_)
  case aL => have := HL.out; omega
  intro pv1 w1 ho hb1 hg1 hat1
  have HK1 : Aside0 (w1.heap[B]? = some (.cells #[.slice A pre.length c] 22 (0, 0))) := ⟨blk_grown HV.out hg1 (Kd.R_ne HR.out HV.out (by decide))⟩
  have HP1 := Aside0.mk ho
  have HB1 := Aside0.mk hb1
  clear ho hb1 hg1 hat1 HV HR
  obtain ⟨A1, c1, hpe⟩ := Kd.R_slice HP1.out
  subst hpe
  have d0 : w1.cell? ⟨B, 0, none⟩ = some (.slice A pre.length c) := by rw [blk_cell HK1.out 0]; rfl
  have f0 : w1.frozen? ⟨B, 0, none⟩ = false := blk_frozen HK1.out 0
  obtain ⟨pl, hpl⟩ : ∃ pl, pl = pre ++ [x] := ⟨_, rfl⟩
  rw [← hpl] at HP1 ⊢
  have HPL := Aside0.mk hpl
  have q1 : (w1.setCell ⟨B, 0, none⟩ (.slice A1 pl.length c1)).cell? ⟨q, 0, none⟩ = some (.int .u8 s) :=
    (((HB.out.trans HB1.out).setCell (p := ⟨B, 0, none⟩) HG.out _).cell (p := ⟨q, 0, none⟩) NQ.out).trans HQ.out
  have b1 : (w1.setCell ⟨B, 0, none⟩ (.slice A1 pl.length c1)).cell? ⟨B, 0, none⟩ = some (.slice A1 pl.length c1) := by rw [blk_cell (blk_set HK1.out 0 _) 0]; rfl
  clear hpl k0
  go_wp2
  go_ret
  refine ⟨?_, ⟨.slice A1 pl.length c1, blk_set HK1.out 0 _, (by rw [← HPL.out]; exact Kd.R_set HP1.out HK1.out (by decide) 0 _), (HB.out.trans HB1.out).setCell (p := ⟨B, 0, none⟩) HG.out _⟩, HB1.out.setCell (p := ⟨B, 0, none⟩) HG.out _⟩
  have hn := HN.out
  have hp := HPL.out
  rw [hn, hp]
  simp
  omega
end Go.Proofs.YtoobapkccogdhaaDoor.PX
/- BitsetIterates, walked by hand. -/
namespace Go.Proofs.YtoobapkccogdhaaDoor.PX
open Go.RowKit Go.Shelf Go.Proofs.YtoobapkccogdhaaDoorW.PrintWords Go.Proofs.YtoobapkccogdhaaDoorW.PrintMore
attribute [local go_sem] Oper.semAt_some
attribute [local go_sem] min_two
set_option linter.unusedVariables false
set_option maxHeartbeats 4000000 in
set_option maxRecDepth 100000 in
theorem iterates_walk (k : Nat) (A0 : Option Addr) (c0 : Nat) (l0 : List Int) (s : Int) (w : World) (hr0 : Kd.C (Kd.int .i64) w A0 l0.length l0) (hc0 : l0.length ≤ c0) (hG : GW w) (hs0 : 0 ≤ s) (hs1 : s ≤ 255)
    (hA : tricklelaw04_awake.f k = some true) (hS : trickleref04_Small.f l0 = some true) (ws want : List Int) (hO : bitset_Of.f k l0 = some ws) (hW : trickleref04_Of.f k l0 = some want)
    (hok : okW ws) (hlen : ws.length ≤ 100000) (hel : elF 0 ws = want) (hwl : want.length < 99999)
    (n : Nat) (hn : n = min want.length (stopN s)) (hE : trickleref04_Equal.f k (want.take n) (want.take n) = some true) :
    Calls Tryd.prog 6 #[.slice A0 l0.length c0, .int .u8 s] w fun e w' => e = .returned (.bool true) ∧ Below w.heap.size w w' := by
  obtain ⟨hst, hn1, hn2⟩ := stopN_eq hs0 hs1
  have hmn : Builtin.min2 (.int .i64 (want.length : Int)) (.int .i64 (stopN s : Int)) = pure (.int .i64 (n : Int)) := by
    rw [min2_int, show (if (stopN s : Int) < (want.length : Int) then (stopN s : Int) else (want.length : Int)) = (n : Int) by omega]
  have HG := Aside0.mk hG
  have HR0 := Aside0.mk hr0
  have HEL := Aside0.mk hel
  have HNN := Aside0.mk hn
  have HWL := Aside0.mk hwl
  have HOK := Aside0.mk hok
  have HLEN := Aside0.mk hlen
  have HS0 := Aside0.mk hs0
  have HS1 := Aside0.mk hs1
  have HN1 := Aside0.mk hn1
  have HN2 := Aside0.mk hn2
  clear hG hr0 hel hn hwl hok hlen hs0 hs1 hn1 hn2
  go_enter Tryd.func6, Tryd.ntmps6
  go_wp2_with (first
    | (go_at_call 11; refine (tricklelaw04_awake.calls k true _ (HG.out.below (below_alloc (Below.refl _ _) _)) hA).mono ?_; rintro e w1 ⟨rfl, hb1⟩; have HB1 := Aside0.mk (below_step (below_alloc (Below.refl _ _) _) hb1); have q1 : w1.heap[w.heap.size]? = some (.cells #[.int .u8 s] 5 (0, 0)) := (blk_below (blk_new w _) hb1); clear hb1)
    | (go_at_call 12; refine (trickleref04_Small.calls _ _ l0 true _ (Kd.C_below HR0.out HB1.out) hc0 hS).mono ?_; rintro e w2x ⟨rfl, ⟨nd, rfl⟩⟩; have HB2 := Aside0.mk (pw_below_drewN HB1.out nd); have q2 := blk_drewN q1 nd; clear HB1 q1; generalize w1.drewN nd = w2 at HB2 q2 ⊢)
    | (go_at_call 14; refine (trickleref04_Of.calls k _ _ l0 want _ (Kd.C_below HR0.out HB2.out) hc0 hW).mono ?_; rintro e w3 ⟨v3, rfl, hV3, hb3⟩; obtain ⟨Aw, cw, rfl⟩ := Kd.V_slice hV3; have HV3 := Aside0.mk hV3; have HB3 := Aside0.mk (below_step HB2.out hb3); have q3 := blk_below q2 hb3; have q3c : w3.cell? ⟨w.heap.size, 0, none⟩ = some (.int .u8 s) := (blk_cell q3 0).trans rfl; clear hb3 hV3 HB2 q2)
    | (go_at_call 13; refine (bitset_Of.calls k _ _ l0 ws _ (Kd.C_below HR0.out HB3.out) hc0 hO).mono ?_; rintro e w4 ⟨v4, rfl, hV4, hb4⟩; obtain ⟨As, cs, rfl⟩ := Kd.V_slice hV4; have HV4 := Aside0.mk hV4; have HV34 := Aside0.mk (Kd.V_below HV3.out hb4); have HB4 := Aside0.mk (below_step HB3.out hb4); have q4 := blk_below q3 hb4; clear hb4 hV4 HB3 q3)
    | (go_at_call 22; refine (callsIn_wide.1 (all_in _ _ _ _ 3)).mono ?_; rintro e w5 ⟨rfl, rfl⟩))
  have HB5 := Aside0.mk (below_alloc HB4.out (.cells #[.slice As ws.length cs] 27))
  have hBs : (w4.alloc (.cells #[.slice As ws.length cs] 27)).cell? ⟨w4.heap.size, 0, none⟩ = some (.slice As ws.length cs) := (blk_cell (blk_new w4 _) 0).trans rfl
  have hqs : (w4.alloc (.cells #[.slice As ws.length cs] 27)).cell? ⟨w.heap.size, 0, none⟩ = some (.int .u8 s) := (blk_cell (blk_alloc q4 _) 0).trans rfl
  have hCs := (Kd.V_reads' (Kd.V_alloc HV4.out (.cells #[.slice As ws.length cs] 27))).2.2
  obtain ⟨-, hcw, hCw⟩ := Kd.V_reads' (Kd.V_alloc HV34.out (.cells #[.slice As ws.length cs] 27))
  generalize w4.heap.size = Bs at *
  generalize (w4.alloc (.cells #[.slice As ws.length cs] 27)) = w5 at *
  have HBS := Aside0.mk hBs
  have HQS := Aside0.mk hqs
  have HCS := Aside0.mk hCs
  have HCW := Aside0.mk hCw
  have HCWL := Aside0.mk hcw
  have HST := Aside0.mk hst
  have HE := Aside0.mk hE
  clear hBs hqs hCs hCw hcw HV3 HV4 HV34 HB4 q4 q3c hc0 hA hS hO hW hE hst hmn HR0
  go_loopw [26] (fun v26 wr => ∃ i : Nat, v26 = .int .i64 (i : Int) ∧ Aside0 (i ≤ 2) ∧ Aside0 (Below w5.heap.size w5 wr)) (fun v26 _ => 2 - (intOf v26).toNat)
  case atStart => exact ⟨0, rfl, ⟨by omega⟩, ⟨Below.refl _ _⟩⟩
  case round =>
    obtain ⟨i, rfl, HI, HBR⟩ := hrel
    by_cases hlt : i < 2
    · have hwl : (want.take n).length = n := by rw [List.length_take]; have := HNN.out; omega
      have hHIT : Calls Tryd.prog 44 #[.func (.func 23) #[] #[.pointer (some ⟨wr.heap.size, 0, none⟩), .pointer (some ⟨w.heap.size, 0, none⟩)], .pointer (some ⟨Bs, 0, none⟩)] (wr.alloc (.cells #[.slice none 0 0] 22)) fun e W' =>
          (∃ v, e = .returned v) ∧ ∃ A c, W'.cell? ⟨wr.heap.size, 0, none⟩ = some (.slice A n c) ∧ n ≤ c ∧ Kd.C (Kd.int .i64) W' A n (want.take n) ∧ Below wr.heap.size wr W' := by
        let J : Prop → List Int → World → Prop := fun p pre W => (∃ v, W.heap[wr.heap.size]? = some (.cells #[v] 22 (0, 0)) ∧ Kd.R (Kd.int .i64) 3 W wr.heap.size (fun k_ => wr.heap.size ≤ k_) v pre ∧ Below wr.heap.size wr W) ∧ p
        have hq : wr.cell? ⟨w.heap.size, 0, none⟩ = some (.int .u8 s) := (HBR.out.cell (p := ⟨w.heap.size, 0, none⟩) (World.block_lt_of_cell? w5 _ HQS.out)).trans HQS.out
        have hY : ∀ pre x W, (fun pre W => J (pre.length < stopN s) pre W) pre W → (pre ++ [x]) <+: elF 0 ws → Calls Tryd.prog 23 #[.int .i64 x, .pointer (some ⟨wr.heap.size, 0, none⟩), .pointer (some ⟨w.heap.size, 0, none⟩)] W fun e W' =>
            (e = .returned (.bool true) ∧ (fun pre W => J (pre.length < stopN s) pre W) (pre ++ [x]) W' ∧ Below wr.heap.size W W') ∨ (e = .returned (.bool false) ∧ (fun pre W => J (pre.length = stopN s) pre W) (pre ++ [x]) W') := by
          rintro pre x W ⟨⟨v, hv, hR, hb⟩, hl⟩ hp
          refine (iter1_calls wr wr.heap.size w.heap.size (Nat.le_refl _) s HS0.out HS1.out hq x pre v W hv hR hb hl).mono ?_
          rintro e W' ⟨he, h1, h2⟩
          by_cases hd : (pre ++ [x]).length < stopN s
          · rw [decide_eq_true hd] at he
            exact .inl ⟨he, ⟨h1, hd⟩, h2⟩
          · rw [decide_eq_false hd] at he
            refine .inr ⟨he, h1, ?_⟩
            rw [List.length_append, List.length_singleton] at hd ⊢
            omega
        have hbl : Below wr.heap.size wr (wr.alloc (.cells #[.slice none 0 0] 22)) := below_alloc (Below.refl _ _) _
        have hlt5 := World.block_lt_of_cell? w5 _ HBS.out
        have hit := iter_23 3 (by omega) wr.heap.size w.heap.size Bs As cs ws wr (HG.out.below (HB5.out.trans (HBR.out.mono (below_size HB5.out)))) (Kd.C_below HCS.out HBR.out) HOK.out HLEN.out (fun pre W => J (pre.length < stopN s) pre W) (fun pre W => J (pre.length = stopN s) pre W) hY
          (wr.alloc (.cells #[.slice none 0 0] 22)) hbl ((hbl.cell (p := ⟨Bs, 0, none⟩) (Nat.lt_of_lt_of_le hlt5 (below_size HBR.out))).trans ((HBR.out.cell (p := ⟨Bs, 0, none⟩) hlt5).trans HBS.out))
          ⟨⟨_, blk_new wr _, Kd.R_nil _ _ _ _ _, hbl⟩, by have := HN1.out; simp; omega⟩
        refine (callsIn_wide.1 hit).mono ?_
        rintro e W' ⟨he, h⟩
        refine ⟨he, ?_⟩
        have fin : ∀ pre, (∃ v, W'.heap[wr.heap.size]? = some (.cells #[v] 22 (0, 0)) ∧ Kd.R (Kd.int .i64) 3 W' wr.heap.size (fun k_ => wr.heap.size ≤ k_) v pre ∧ Below wr.heap.size wr W') → pre = want.take n → ∃ A c, W'.cell? ⟨wr.heap.size, 0, none⟩ = some (.slice A n c) ∧ n ≤ c ∧ Kd.C (Kd.int .i64) W' A n (want.take n) ∧ Below wr.heap.size wr W' := by
          rintro pre ⟨v, hv, hR, hb⟩ rfl
          obtain ⟨A, c, hve, hle, hC⟩ := Kd.R_reads hR
          subst hve
          rw [hwl] at hv hle hC
          exact ⟨A, c, (blk_cell hv 0).trans rfl, hle, hC, hb⟩
        rcases h with ⟨ys, rfl, h1, h2⟩ | ⟨pre, hp, h1, h2⟩
        · refine fin _ h1 ?_
          rw [HEL.out] at h2 ⊢
          rw [List.take_of_length_le]
          have := HNN.out; omega
        · refine fin _ h1 ?_
          rw [HEL.out] at hp
          have hle := hp.length_le
          have hnn := HNN.out
          rw [show n = pre.length by omega]
          exact List.prefix_iff_eq_take.1 hp
      have HIT := Aside0.mk hHIT
      clear hHIT
      go_wp2_with (go_at_call 44; refine HIT.out.mono ?_; rintro e w6 ⟨⟨v6, rfl⟩, A6, c6, h61, h62, h63, h64⟩)
      have HC : Aside0 (Calls Tryd.prog 24 #[.slice A6 n c6, .slice Aw n cw] w6.drew fun e w' => e = .returned (.bool true) ∧ Drawn0 w6.drew w') := ⟨by
        have hC2 : Kd.C (Kd.int .i64) w6.drew Aw (want.take n).length (want.take n) := Kd.C_drew (Kd.C_take (Kd.C_below HCW.out (HBR.out.trans (h64.mono (below_size HBR.out)))) (by have := HNN.out; omega))
        have hC1 : Kd.C (Kd.int .i64) w6.drew A6 (want.take n).length (want.take n) := by rw [hwl]; exact Kd.C_drew h63
        have := trickleref04_Equal.calls k A6 c6 (want.take n) Aw cw (want.take n) true w6.drew hC1 (by rw [hwl]; exact h62) hC2 (by rw [hwl]; have := HNN.out; have := HCWL.out; omega) HE.out
        rw [hwl] at this
        exact this⟩
      have k6 : w6.drew.cell? ⟨wr.heap.size, 0, none⟩ = some (.slice A6 n c6) := h61
      obtain ⟨i022, hi022, _, hsz22, _⟩ := info_parts info3
      have hcut := cut_to (P := Tryd.prog) 22 3 .i64 Tryd.underlying22 hi022 Aw want.length cw (n : Int) (by omega) (by have := HNN.out; omega) HCWL.out
      rw [Int.toNat_natCast] at hcut
      have HB6 : Aside0 (Below w5.heap.size w5 w6.drew) := ⟨below_drew (HBR.out.trans (h64.mono (below_size HBR.out)))⟩
      clear h61 h62 h63 h64 HIT hwl
      refine wp_region_any (by kernel_rfl) ?_
      change wpAny _ _ _ _ _ _ _ (World.drew _)
      generalize w6.drew = w6 at HC k6 HB6 ⊢
      refine wpAny_ready (rs := [0, 1, 2]) (by kernel_rfl) (by simp) ?_
      refine AllReady.cons rfl (fun K hK => ?_) ?_
      · go_simp
        refine hK _ _ ?_
        clear hK K
        refine wpAny_ready (rs := [1, 2]) (by kernel_rfl) (by simp) ?_
        refine AllReady.cons rfl (fun K hK => ?_) ?_
        · go_simp
          refine hK _ _ ?_
          clear hK K
          refine wpAny_ready (rs := [2]) (by kernel_rfl) (by simp) ?_
          refine AllReady.cons rfl (fun K hK => ?_) ?_
          · go_simp
            refine hK _ _ ?_
            clear hK K
            refine wpAny_ready (rs := [3]) (by kernel_rfl) (by simp) ?_
            refine AllReady.cons rfl (fun K hK => ?_) ?_
            · go_simp
              refine hK _ _ ?_
              clear hK K
              refine wpAny_ready (rs := [4]) (by kernel_rfl) (by simp) ?_
              refine AllReady.cons rfl (fun K hK => ?_) ?_
              · go_simp
                go_at_call 24
                refine HC.out.mono ?_
                rintro e w7 ⟨rfl, nd7, rfl⟩
                refine hK _ _ ?_
                clear hK K
                refine wpAny_ready (rs := [5]) (by kernel_rfl) (by simp) ?_
                refine AllReady.cons rfl (fun K hK => ?_) ?_
                · go_simp
                  refine hK _ _ ?_
                  clear hK K
                  refine wpAny_done (by kernel_rfl) ?_ _
                  have HB7 : Aside0 (Below w5.heap.size w5 (w6.drewN nd7)) := ⟨pw_below_drewN HB6.out nd7⟩
                  generalize w6.drewN nd7 = w7 at HB7 ⊢
                  clear k6 HB6 HC
                  go_wp2
                  go_roundw
                  case rel => exact ⟨i + 1, by go_num, ⟨by omega⟩, HB7⟩
                  case measure => simp [intOf]; omega
                exact AllReady.nil
              exact AllReady.nil
            exact AllReady.nil
          exact AllReady.nil
        refine AllReady.cons rfl (fun K hK => ?_) ?_
        · go_simp
          refine hK _ _ ?_
          clear hK K
          refine wpAny_ready (rs := [1]) (by kernel_rfl) (by simp) ?_
          refine AllReady.cons rfl (fun K hK => ?_) ?_
          · go_simp
            refine hK _ _ ?_
            clear hK K
            refine wpAny_ready (rs := [3]) (by kernel_rfl) (by simp) ?_
            refine AllReady.cons rfl (fun K hK => ?_) ?_
            · go_simp
              refine hK _ _ ?_
              clear hK K
              refine wpAny_ready (rs := [4]) (by kernel_rfl) (by simp) ?_
              refine AllReady.cons rfl (fun K hK => ?_) ?_
              · go_simp
                go_at_call 24
                refine HC.out.mono ?_
                rintro e w7 ⟨rfl, nd7, rfl⟩
                refine hK _ _ ?_
                clear hK K
                refine wpAny_ready (rs := [5]) (by kernel_rfl) (by simp) ?_
                refine AllReady.cons rfl (fun K hK => ?_) ?_
                · go_simp
                  refine hK _ _ ?_
                  clear hK K
                  refine wpAny_done (by kernel_rfl) ?_ _
                  have HB7 : Aside0 (Below w5.heap.size w5 (w6.drewN nd7)) := ⟨pw_below_drewN HB6.out nd7⟩
                  generalize w6.drewN nd7 = w7 at HB7 ⊢
                  clear k6 HB6 HC
                  go_wp2
                  go_roundw
                  case rel => exact ⟨i + 1, by go_num, ⟨by omega⟩, HB7⟩
                  case measure => simp [intOf]; omega
                exact AllReady.nil
              exact AllReady.nil
            exact AllReady.nil
          exact AllReady.nil
        exact AllReady.nil
      refine AllReady.cons rfl (fun K hK => ?_) ?_
      · go_simp
        refine hK _ _ ?_
        clear hK K
        refine wpAny_ready (rs := [0, 2]) (by kernel_rfl) (by simp) ?_
        refine AllReady.cons rfl (fun K hK => ?_) ?_
        · go_simp
          refine hK _ _ ?_
          clear hK K
          refine wpAny_ready (rs := [2]) (by kernel_rfl) (by simp) ?_
          refine AllReady.cons rfl (fun K hK => ?_) ?_
          · go_simp
            refine hK _ _ ?_
            clear hK K
            refine wpAny_ready (rs := [3]) (by kernel_rfl) (by simp) ?_
            refine AllReady.cons rfl (fun K hK => ?_) ?_
            · go_simp
              refine hK _ _ ?_
              clear hK K
              refine wpAny_ready (rs := [4]) (by kernel_rfl) (by simp) ?_
              refine AllReady.cons rfl (fun K hK => ?_) ?_
              · go_simp
                go_at_call 24
                refine HC.out.mono ?_
                rintro e w7 ⟨rfl, nd7, rfl⟩
                refine hK _ _ ?_
                clear hK K
                refine wpAny_ready (rs := [5]) (by kernel_rfl) (by simp) ?_
                refine AllReady.cons rfl (fun K hK => ?_) ?_
                · go_simp
                  refine hK _ _ ?_
                  clear hK K
                  refine wpAny_done (by kernel_rfl) ?_ _
                  have HB7 : Aside0 (Below w5.heap.size w5 (w6.drewN nd7)) := ⟨pw_below_drewN HB6.out nd7⟩
                  generalize w6.drewN nd7 = w7 at HB7 ⊢
                  clear k6 HB6 HC
                  go_wp2
                  go_roundw
                  case rel => exact ⟨i + 1, by go_num, ⟨by omega⟩, HB7⟩
                  case measure => simp [intOf]; omega
                exact AllReady.nil
              exact AllReady.nil
            exact AllReady.nil
          exact AllReady.nil
        refine AllReady.cons rfl (fun K hK => ?_) ?_
        · go_simp
          refine hK _ _ ?_
          clear hK K
          refine wpAny_ready (rs := [0, 3]) (by kernel_rfl) (by simp) ?_
          refine AllReady.cons rfl (fun K hK => ?_) ?_
          · go_simp
            refine hK _ _ ?_
            clear hK K
            refine wpAny_ready (rs := [3]) (by kernel_rfl) (by simp) ?_
            refine AllReady.cons rfl (fun K hK => ?_) ?_
            · go_simp
              refine hK _ _ ?_
              clear hK K
              refine wpAny_ready (rs := [4]) (by kernel_rfl) (by simp) ?_
              refine AllReady.cons rfl (fun K hK => ?_) ?_
              · go_simp
                go_at_call 24
                refine HC.out.mono ?_
                rintro e w7 ⟨rfl, nd7, rfl⟩
                refine hK _ _ ?_
                clear hK K
                refine wpAny_ready (rs := [5]) (by kernel_rfl) (by simp) ?_
                refine AllReady.cons rfl (fun K hK => ?_) ?_
                · go_simp
                  refine hK _ _ ?_
                  clear hK K
                  refine wpAny_done (by kernel_rfl) ?_ _
                  have HB7 : Aside0 (Below w5.heap.size w5 (w6.drewN nd7)) := ⟨pw_below_drewN HB6.out nd7⟩
                  generalize w6.drewN nd7 = w7 at HB7 ⊢
                  clear k6 HB6 HC
                  go_wp2
                  go_roundw
                  case rel => exact ⟨i + 1, by go_num, ⟨by omega⟩, HB7⟩
                  case measure => simp [intOf]; omega
                exact AllReady.nil
              exact AllReady.nil
            exact AllReady.nil
          refine AllReady.cons rfl (fun K hK => ?_) ?_
          · go_simp
            refine hK _ _ ?_
            clear hK K
            refine wpAny_ready (rs := [0]) (by kernel_rfl) (by simp) ?_
            refine AllReady.cons rfl (fun K hK => ?_) ?_
            · go_simp
              refine hK _ _ ?_
              clear hK K
              refine wpAny_ready (rs := [4]) (by kernel_rfl) (by simp) ?_
              refine AllReady.cons rfl (fun K hK => ?_) ?_
              · go_simp
                go_at_call 24
                refine HC.out.mono ?_
                rintro e w7 ⟨rfl, nd7, rfl⟩
                refine hK _ _ ?_
                clear hK K
                refine wpAny_ready (rs := [5]) (by kernel_rfl) (by simp) ?_
                refine AllReady.cons rfl (fun K hK => ?_) ?_
                · go_simp
                  refine hK _ _ ?_
                  clear hK K
                  refine wpAny_done (by kernel_rfl) ?_ _
                  have HB7 : Aside0 (Below w5.heap.size w5 (w6.drewN nd7)) := ⟨pw_below_drewN HB6.out nd7⟩
                  generalize w6.drewN nd7 = w7 at HB7 ⊢
                  clear k6 HB6 HC
                  go_wp2
                  go_roundw
                  case rel => exact ⟨i + 1, by go_num, ⟨by omega⟩, HB7⟩
                  case measure => simp [intOf]; omega
                exact AllReady.nil
              exact AllReady.nil
            exact AllReady.nil
          exact AllReady.nil
        exact AllReady.nil
      refine AllReady.cons rfl (fun K hK => ?_) ?_
      · go_simp
        refine hK _ _ ?_
        clear hK K
        refine wpAny_ready (rs := [0, 1]) (by kernel_rfl) (by simp) ?_
        refine AllReady.cons rfl (fun K hK => ?_) ?_
        · go_simp
          refine hK _ _ ?_
          clear hK K
          refine wpAny_ready (rs := [1]) (by kernel_rfl) (by simp) ?_
          refine AllReady.cons rfl (fun K hK => ?_) ?_
          · go_simp
            refine hK _ _ ?_
            clear hK K
            refine wpAny_ready (rs := [3]) (by kernel_rfl) (by simp) ?_
            refine AllReady.cons rfl (fun K hK => ?_) ?_
            · go_simp
              refine hK _ _ ?_
              clear hK K
              refine wpAny_ready (rs := [4]) (by kernel_rfl) (by simp) ?_
              refine AllReady.cons rfl (fun K hK => ?_) ?_
              · go_simp
                go_at_call 24
                refine HC.out.mono ?_
                rintro e w7 ⟨rfl, nd7, rfl⟩
                refine hK _ _ ?_
                clear hK K
                refine wpAny_ready (rs := [5]) (by kernel_rfl) (by simp) ?_
                refine AllReady.cons rfl (fun K hK => ?_) ?_
                · go_simp
                  refine hK _ _ ?_
                  clear hK K
                  refine wpAny_done (by kernel_rfl) ?_ _
                  have HB7 : Aside0 (Below w5.heap.size w5 (w6.drewN nd7)) := ⟨pw_below_drewN HB6.out nd7⟩
                  generalize w6.drewN nd7 = w7 at HB7 ⊢
                  clear k6 HB6 HC
                  go_wp2
                  go_roundw
                  case rel => exact ⟨i + 1, by go_num, ⟨by omega⟩, HB7⟩
                  case measure => simp [intOf]; omega
                exact AllReady.nil
              exact AllReady.nil
            exact AllReady.nil
          exact AllReady.nil
        refine AllReady.cons rfl (fun K hK => ?_) ?_
        · go_simp
          refine hK _ _ ?_
          clear hK K
          refine wpAny_ready (rs := [0, 3]) (by kernel_rfl) (by simp) ?_
          refine AllReady.cons rfl (fun K hK => ?_) ?_
          · go_simp
            refine hK _ _ ?_
            clear hK K
            refine wpAny_ready (rs := [3]) (by kernel_rfl) (by simp) ?_
            refine AllReady.cons rfl (fun K hK => ?_) ?_
            · go_simp
              refine hK _ _ ?_
              clear hK K
              refine wpAny_ready (rs := [4]) (by kernel_rfl) (by simp) ?_
              refine AllReady.cons rfl (fun K hK => ?_) ?_
              · go_simp
                go_at_call 24
                refine HC.out.mono ?_
                rintro e w7 ⟨rfl, nd7, rfl⟩
                refine hK _ _ ?_
                clear hK K
                refine wpAny_ready (rs := [5]) (by kernel_rfl) (by simp) ?_
                refine AllReady.cons rfl (fun K hK => ?_) ?_
                · go_simp
                  refine hK _ _ ?_
                  clear hK K
                  refine wpAny_done (by kernel_rfl) ?_ _
                  have HB7 : Aside0 (Below w5.heap.size w5 (w6.drewN nd7)) := ⟨pw_below_drewN HB6.out nd7⟩
                  generalize w6.drewN nd7 = w7 at HB7 ⊢
                  clear k6 HB6 HC
                  go_wp2
                  go_roundw
                  case rel => exact ⟨i + 1, by go_num, ⟨by omega⟩, HB7⟩
                  case measure => simp [intOf]; omega
                exact AllReady.nil
              exact AllReady.nil
            exact AllReady.nil
          refine AllReady.cons rfl (fun K hK => ?_) ?_
          · go_simp
            refine hK _ _ ?_
            clear hK K
            refine wpAny_ready (rs := [0]) (by kernel_rfl) (by simp) ?_
            refine AllReady.cons rfl (fun K hK => ?_) ?_
            · go_simp
              refine hK _ _ ?_
              clear hK K
              refine wpAny_ready (rs := [4]) (by kernel_rfl) (by simp) ?_
              refine AllReady.cons rfl (fun K hK => ?_) ?_
              · go_simp
                go_at_call 24
                refine HC.out.mono ?_
                rintro e w7 ⟨rfl, nd7, rfl⟩
                refine hK _ _ ?_
                clear hK K
                refine wpAny_ready (rs := [5]) (by kernel_rfl) (by simp) ?_
                refine AllReady.cons rfl (fun K hK => ?_) ?_
                · go_simp
                  refine hK _ _ ?_
                  clear hK K
                  refine wpAny_done (by kernel_rfl) ?_ _
                  have HB7 : Aside0 (Below w5.heap.size w5 (w6.drewN nd7)) := ⟨pw_below_drewN HB6.out nd7⟩
                  generalize w6.drewN nd7 = w7 at HB7 ⊢
                  clear k6 HB6 HC
                  go_wp2
                  go_roundw
                  case rel => exact ⟨i + 1, by go_num, ⟨by omega⟩, HB7⟩
                  case measure => simp [intOf]; omega
                exact AllReady.nil
              exact AllReady.nil
            exact AllReady.nil
          exact AllReady.nil
        exact AllReady.nil
      exact AllReady.nil
    · obtain rfl : i = 2 := by have := HI.out; omega
      go_wp2
      go_ret
      exact ⟨rfl, HB5.out.trans (HBR.out.mono (below_size HB5.out))⟩
end Go.Proofs.YtoobapkccogdhaaDoor.PX
