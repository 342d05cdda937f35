/- Parts of the proof, merged in build order: PXx21, PXx22. -/
import Derived.Test.YtfhnpphceeoeeaaDoorV1
-- Written by a program of this session (wip/xprint.py, over the kit's print tool). Lean checks it.
namespace Go.Proofs.YtfhnpphceeoeeaaDoor.PX
open Go.RowKit Go.Proofs.YtfhnpphceeoeeaaDoorW.PrintWords Go.Proofs.YtfhnpphceeoeeaaDoorW.PrintLast Go.Proofs.YtfhnpphceeoeeaaDoorW.PrintMore
attribute [local go_sem] max2_int min2_int max_two min_two max_three min_three max_four min_four   -- for this text's walks alone
set_option linter.unusedVariables false
set_option linter.unusedSimpArgs false

/-! ### crc16_Check: function 51 -/
def crc16_Check.f (k : Nat) (l0 : List Int) : Option (List Int × Int) := if (l0.length : Int) < 2 then (some (([] : List Int), 3)) else (if 0 ≤ (wrap64 ((l0.length : Int) - 2)) then (if (wrap64 ((l0.length : Int) - 2)) ≤ (l0.length : Int) then ((crc16_Sum.f k (l0.take ((wrap64 ((l0.length : Int) - 2)) : Int).toNat)).bind fun t268 => (if 0 < ((l0.drop ((wrap64 ((l0.length : Int) - 2)) : Int).toNat).length : Int) then (if 1 < ((l0.drop ((wrap64 ((l0.length : Int) - 2)) : Int).toNat).length : Int) then (if t268 = (Go.bits .or .u16 (IntKind.u16.wrap ((IntKind.u16.wrap (rd (l0.drop ((wrap64 ((l0.length : Int) - 2)) : Int).toNat) 0)) * 256)) (IntKind.u16.wrap (rd (l0.drop ((wrap64 ((l0.length : Int) - 2)) : Int).toNat) 1))) then ((slices_Clone_byte.f (l0.take ((wrap64 ((l0.length : Int) - 2)) : Int).toNat)).bind fun t271 => (some (t271, 0))) else (some (([] : List Int), 4))) else (none)) else (none))) else (none)) else (none))
set_option maxHeartbeats 8000000 in
set_option maxRecDepth 100000 in
theorem crc16_Check.calls (k : Nat) (A0 : Option Addr) (c0 : Nat) (l0 : List Int) (r1 : List Int) (r2 : Int) (w : World) (hr0 : Kd.C (Kd.int .u8) w A0 l0.length l0) (hc0 : l0.length ≤ c0) (h : crc16_Check.f k l0 = some (r1, r2)) :
    Calls Tryd.prog 51 #[.slice A0 l0.length c0] w fun e w' => ∃ v0_ : Value, e = .returned (.tuple #[v0_, .int .i64 r2]) ∧ Kd.R (Kd.int .u8) 5 w' w.heap.size (fun _ => True) v0_ r1 ∧ Below w.heap.size w w' := by
  have HR0 := Aside0.mk hr0
  have HC0 := Aside0.mk hc0
  clear hr0 hc0
  have HB := Aside0.mk (Below.refl w.heap.size w)
  have H : (if (l0.length : Int) < 2 then (some (([] : List Int), 3)) else (if 0 ≤ (wrap64 ((l0.length : Int) - 2)) then (if (wrap64 ((l0.length : Int) - 2)) ≤ (l0.length : Int) then ((crc16_Sum.f k (l0.take ((wrap64 ((l0.length : Int) - 2)) : Int).toNat)).bind fun t268 => (if 0 < ((l0.drop ((wrap64 ((l0.length : Int) - 2)) : Int).toNat).length : Int) then (if 1 < ((l0.drop ((wrap64 ((l0.length : Int) - 2)) : Int).toNat).length : Int) then (if t268 = (Go.bits .or .u16 (IntKind.u16.wrap ((IntKind.u16.wrap (rd (l0.drop ((wrap64 ((l0.length : Int) - 2)) : Int).toNat) 0)) * 256)) (IntKind.u16.wrap (rd (l0.drop ((wrap64 ((l0.length : Int) - 2)) : Int).toNat) 1))) then ((slices_Clone_byte.f (l0.take ((wrap64 ((l0.length : Int) - 2)) : Int).toNat)).bind fun t271 => (some (t271, 0))) else (some (([] : List Int), 4))) else (none)) else (none))) else (none)) else (none))) = some (r1, r2) := h
  clear h
  by_cases c2 : (l0.length : Int) < 2
  · rw [if_pos c2] at H
    have c2b0 : decide ((l0.length : Int) < 2) = true := decide_eq_true c2
    have c2b1 : decide (l0.length < 2) = true := decide_eq_true (by omega)
    clear c2
    simp only [Option.some.injEq, Prod.mk.injEq] at H
    obtain ⟨rfl, rfl⟩ := H
    go_enter Tryd.func51, Tryd.ntmps51
    go_wp2
    repeat (go_quiet (fail); try go_wp2)
    go_ret2
    exact ⟨_, by first | rfl | (simp [errW_none, errW_some] <;> rfl) | (simp [*, errW_none, errW_some] <;> rfl), by first | exact Kd.R_nil _ _ _ _ _ | exact Kd.N_nil _ _ _ _ _ | exact Kd.V_nil _ _ _ _ _ | exact Kd.Q_nil _ _ _ _ _ | exact Kd.S_nil _ _ _ _ _, by repeat (first | (with_reducible first | exact HB.out | apply below_alloc | apply pw_below_drewN | apply below_drew1) | exact HB.out)⟩
  · rw [if_neg c2] at H
    have c2b0 : decide ((l0.length : Int) < 2) = false := decide_eq_false c2
    have c2b1 : decide (l0.length < 2) = false := decide_eq_false (by omega)
    clear c2
    obtain ⟨ji3, hji3⟩ : ∃ j_ : Int, (wrap64 ((l0.length : Int) - 2)) = j_ := ⟨_, rfl⟩
    replace H : (if 0 ≤ (ji3) then (if (ji3) ≤ (l0.length : Int) then ((crc16_Sum.f k (l0.take ((ji3) : Int).toNat)).bind fun t268 => (if 0 < ((l0.drop ((ji3) : Int).toNat).length : Int) then (if 1 < ((l0.drop ((ji3) : Int).toNat).length : Int) then (if t268 = (Go.bits .or .u16 (IntKind.u16.wrap ((IntKind.u16.wrap (rd (l0.drop ((ji3) : Int).toNat) 0)) * 256)) (IntKind.u16.wrap (rd (l0.drop ((ji3) : Int).toNat) 1))) then ((slices_Clone_byte.f (l0.take ((ji3) : Int).toNat)).bind fun t271 => (some (t271, 0))) else (some (([] : List Int), 4))) else (none)) else (none))) else (none)) else (none)) = some (r1, r2) := by first | (rw [hji3] at H; exact H) | (simp only [hji3] at H ⊢; exact H)
    have hji3w : (IntKind.i64.wrap ((l0.length : Int) - 2)) = ji3 := (i64_w _).trans hji3
    by_cases c4 : 0 ≤ (ji3)
    · rw [if_pos c4] at H
      have c4b0 := eq_true c4
      have c4b1 : decide (0 ≤ (ji3)) = true := decide_eq_true c4
      clear c4
      by_cases c5 : (ji3) ≤ (l0.length : Int)
      · rw [if_pos c5] at H
        have c5b0 := eq_true c5
        have c5b1 : decide ((ji3) ≤ (l0.length : Int)) = true := decide_eq_true c5
        clear c5
        have c6b0 := eq_true (of_decide_eq_true (by first | (with_reducible assumption) | assumption) : 0 ≤ (ji3))
        have c7b0 := eq_true (of_decide_eq_true (by first | (with_reducible assumption) | assumption) : (ji3) ≤ (l0.length : Int))
        replace H := Option.bind_eq_some_iff.mp H
        obtain ⟨t268, A80, H⟩ := H
        replace H : (if 0 < ((l0.drop ((ji3) : Int).toNat).length : Int) then (if 1 < ((l0.drop ((ji3) : Int).toNat).length : Int) then (if t268 = (Go.bits .or .u16 (IntKind.u16.wrap ((IntKind.u16.wrap (rd (l0.drop ((ji3) : Int).toNat) 0)) * 256)) (IntKind.u16.wrap (rd (l0.drop ((ji3) : Int).toNat) 1))) then ((slices_Clone_byte.f (l0.take ((ji3) : Int).toNat)).bind fun t271 => (some (t271, 0))) else (some (([] : List Int), 4))) else (none)) else (none)) = some (r1, r2) := H
        have A8 := Aside0.mk A80
        clear A80
        by_cases c9 : 0 < ((l0.drop ((ji3) : Int).toNat).length : Int)
        · rw [if_pos c9] at H
          have c9b0 : decide (0 < ((l0.drop ((ji3) : Int).toNat).length : Int)) = true := decide_eq_true c9
          have c9b1 : decide (0 < (l0.drop ((ji3) : Int).toNat).length) = true := decide_eq_true (by omega)
          clear c9
          by_cases c10 : 1 < ((l0.drop ((ji3) : Int).toNat).length : Int)
          · rw [if_pos c10] at H
            have c10b0 : decide (1 < ((l0.drop ((ji3) : Int).toNat).length : Int)) = true := decide_eq_true c10
            have c10b1 : decide (1 < (l0.drop ((ji3) : Int).toNat).length) = true := decide_eq_true (by omega)
            clear c10
            by_cases c11 : t268 = (Go.bits .or .u16 (IntKind.u16.wrap ((IntKind.u16.wrap (rd (l0.drop ((ji3) : Int).toNat) 0)) * 256)) (IntKind.u16.wrap (rd (l0.drop ((ji3) : Int).toNat) 1)))
            · rw [if_pos c11] at H
              have c11b0 : (t268 == (Go.bits .or .u16 (IntKind.u16.wrap ((IntKind.u16.wrap (rd (l0.drop ((ji3) : Int).toNat) 0)) * 256)) (IntKind.u16.wrap (rd (l0.drop ((ji3) : Int).toNat) 1)))) = true := beq_iff_eq.mpr c11
              have c11b1 : (t268 != (Go.bits .or .u16 (IntKind.u16.wrap ((IntKind.u16.wrap (rd (l0.drop ((ji3) : Int).toNat) 0)) * 256)) (IntKind.u16.wrap (rd (l0.drop ((ji3) : Int).toNat) 1)))) = false := bne_eq_false_iff_eq.mpr c11
              clear c11
              replace H := Option.bind_eq_some_iff.mp H
              obtain ⟨t271, A120, H⟩ := H
              replace H : (some (t271, 0)) = some (r1, r2) := H
              have A12 := Aside0.mk A120
              clear A120
              simp only [Option.some.injEq, Prod.mk.injEq] at H
              obtain ⟨rfl, rfl⟩ := H
              obtain ⟨i013, hi013, _, hsz13, _⟩ := info_parts info5
              obtain ⟨hcut13, hA13, hC13⟩ := print_take_of (P := Tryd.prog) (Value.int .u8) 0 24 5 .i64 Tryd.underlying24 hi013 hsz13 A0 c0 l0 (ji3) (of_decide_eq_true (by first | (with_reducible assumption) | assumption)) (of_decide_eq_true (by first | (with_reducible assumption) | assumption)) HC0.out
              have HR266 := Aside0.mk (Kd.C_of_reads (h1 := fun _ => rfl) (hA13 _ (Kd.reads_of_C HR0.out)))
              have HC266 := Aside0.mk hC13
              clear hA13 hC13 hi013 hsz13
              obtain ⟨i014, hi014, _, hsz14, _⟩ := info_parts info5
              obtain ⟨A14, hcut14, hA14, hC14⟩ := print_drop_of (P := Tryd.prog) (Value.int .u8) 0 24 5 .i64 Tryd.underlying24 hi014 hsz14 A0 c0 l0 (ji3) (of_decide_eq_true (by first | (with_reducible assumption) | assumption)) (of_decide_eq_true (by first | (with_reducible assumption) | assumption)) HC0.out
              have HR267 := Aside0.mk (Kd.C_of_reads (h1 := fun _ => rfl) (hA14 _ (Kd.reads_of_C HR0.out)))
              have HC267 := Aside0.mk hC14
              clear hA14 hC14 hi014 hsz14
              have p269 : 0 ≤ (0 : Int) := (by omega)
              have q269 : 0 < ((l0.drop ((ji3) : Int).toNat).length : Int) := of_decide_eq_true (by first | (with_reducible assumption) | assumption)
              obtain ⟨ad269, e269, hx269_0⟩ := Kd.at_int HR267.out 0 p269 q269
              cases e269
              have qi269 : (0 < (l0.drop ((ji3) : Int).toNat).length) = True := eq_true (by omega)
              (try rw [show ((0 : Int)).toNat = 0 from rfl] at hx269_0)
              (try rw [Addr.add_zero'] at hx269_0)
              replace p269 := eq_true p269
              replace q269 := eq_true q269
              have p270 : 0 ≤ (1 : Int) := (by omega)
              have q270 : 1 < ((l0.drop ((ji3) : Int).toNat).length : Int) := of_decide_eq_true (by first | (with_reducible assumption) | assumption)
              obtain ⟨ad270, e270, hx270_0⟩ := Kd.at_int HR267.out 1 p270 q270
              obtain rfl : ad269 = ad270 := (by injection e270)
              (try simp only [show (1 : Int).toNat = 1 from rfl, Nat.reduceMul, Nat.reduceEqDiff, Go.Addr.add, ↓reduceIte] at hx270_0)
              have qi270 : (1 < (l0.drop ((ji3) : Int).toNat).length) = True := eq_true (by omega)
              (try rw [show ((1 : Int)).toNat = 1 from rfl] at hx270_0)
              replace p270 := eq_true p270
              replace q270 := eq_true q270
              have HJL := Aside0.mk (show ((ji3) : Int).toNat ≤ l0.length by have h_ := of_eq_true c5b0; omega)
              have qa0 := qi269
              have qa1 := qi270
              rw [List.length_drop] at qa0 qa1
              have qb0 := eq_true (show ((ji3) : Int).toNat < l0.length by have h_ := of_eq_true qa0; omega)
              have qb1 := eq_true (show 1 + ((ji3) : Int).toNat < l0.length by have h_ := of_eq_true qa1; omega)
              have qb2 := eq_true (show ((ji3) : Int).toNat + 1 < l0.length by have h_ := of_eq_true qa1; omega)
              have qc0 := eq_true (show (0 : Int) < ((l0.length - ((ji3) : Int).toNat : Nat) : Int) by have h_ := of_eq_true qa0; omega)
              have qc1 := eq_true (show (1 : Int) < ((l0.length - ((ji3) : Int).toNat : Nat) : Int) by have h_ := of_eq_true qa1; omega)
              go_enter Tryd.func51, Tryd.ntmps51
              go_wp2_with (first | (go_at_call 62; (with_reducible refine (crc16_Sum.calls k _ _ (l0.take ((ji3) : Int).toNat) t268 _ ?side1 ?side2 A8.out).mono ?_); (case side1 => repeat (first | exact HR266.out | (with_reducible refine Kd.C_alloc ?_ _) | (with_reducible refine Kd.C_drewN ?_ _) | (with_reducible refine Kd.C_drew ?_))); (case side2 => exact HC266.out); rintro e w' ⟨rfl, ⟨nd, rfl⟩⟩; (try first | exact ⟨rfl, _, World.drewN_drewN _ _ _⟩ | exact ⟨rfl, _, Eq.trans (World.drewN_drewN _ _ _) (congrArg (World.drewN _) (Nat.add_assoc _ _ _))⟩); have p269 : 0 ≤ (0 : Int) := (by omega); have q269 : 0 < ((l0.drop ((ji3) : Int).toNat).length : Int) := of_decide_eq_true (by first | (with_reducible assumption) | assumption); obtain ⟨ad269, e269, hx269_0⟩ := Kd.at_int HR267.out 0 p269 q269; cases e269; have qi269 : (0 < (l0.drop ((ji3) : Int).toNat).length) = True := eq_true (by omega); (try rw [show ((0 : Int)).toNat = 0 from rfl] at hx269_0); (try rw [Addr.add_zero'] at hx269_0); replace p269 := eq_true p269; replace q269 := eq_true q269; have p270 : 0 ≤ (1 : Int) := (by omega); have q270 : 1 < ((l0.drop ((ji3) : Int).toNat).length : Int) := of_decide_eq_true (by first | (with_reducible assumption) | assumption); obtain ⟨ad270, e270, hx270_0⟩ := Kd.at_int HR267.out 1 p270 q270; obtain rfl : ad269 = ad270 := (by injection e270); (try simp only [show (1 : Int).toNat = 1 from rfl, Nat.reduceMul, Nat.reduceEqDiff, Go.Addr.add, ↓reduceIte] at hx270_0); have qi270 : (1 < (l0.drop ((ji3) : Int).toNat).length) = True := eq_true (by omega); (try rw [show ((1 : Int)).toNat = 1 from rfl] at hx270_0); replace p270 := eq_true p270; replace q270 := eq_true q270) | (go_at_call 63; (with_reducible refine (slices_Clone_byte.calls _ _ (l0.take ((ji3) : Int).toNat) t271 _ ?side1 ?side2 A12.out).mono ?_); (case side1 => repeat (first | exact HR266.out | (with_reducible refine Kd.C_alloc ?_ _) | (with_reducible refine Kd.C_drewN ?_ _) | (with_reducible refine Kd.C_drew ?_))); (case side2 => exact HC266.out); rintro e w15 ⟨v272, rfl, ho0, hb⟩; have n0_ := Aside0.mk (Kd.R_lower ho0 (below_size (by repeat (first | (with_reducible first | exact HB.out | apply below_alloc | apply pw_below_drewN | apply below_drew1) | exact HB.out)))); have n1_ := Aside0.mk (below_step (by repeat (first | (with_reducible first | exact HB.out | apply below_alloc | apply pw_below_drewN | apply below_drew1) | exact HB.out)) hb); clear HB; have HO273 := n0_; have HB := n1_; clear n0_ n1_; (try clear hb); (try clear hb2); (try clear hk); (try clear hi); (try clear ho0)))
              go_quiet (fail)
              go_wp2
              go_quiet ((go_at_call 62; (try refine calls_of_args (args' := #[.slice A0 (l0.take ((ji3) : Int).toNat).length c0]) (by rw [List.length_take, Nat.min_eq_left HJL.out]) ?_); (with_reducible refine (crc16_Sum.calls k _ _ (l0.take ((ji3) : Int).toNat) t268 _ ?side1 ?side2 A8.out).mono ?_); (case side1 => repeat (first | exact HR266.out | (with_reducible refine Kd.C_alloc ?_ _) | (with_reducible refine Kd.C_drewN ?_ _) | (with_reducible refine Kd.C_drew ?_))); (case side2 => exact HC266.out); rintro e w' ⟨rfl, ⟨nd, rfl⟩⟩; (try first | exact ⟨rfl, _, World.drewN_drewN _ _ _⟩ | exact ⟨rfl, _, Eq.trans (World.drewN_drewN _ _ _) (congrArg (World.drewN _) (Nat.add_assoc _ _ _))⟩)))
              try go_wp2_with (first | (go_at_call 62; (try refine calls_of_args (args' := #[.slice A0 (l0.take ((ji3) : Int).toNat).length c0]) (by rw [List.length_take, Nat.min_eq_left HJL.out]) ?_); (with_reducible refine (crc16_Sum.calls k _ _ (l0.take ((ji3) : Int).toNat) t268 _ ?side1 ?side2 A8.out).mono ?_); (case side1 => repeat (first | exact HR266.out | (with_reducible refine Kd.C_alloc ?_ _) | (with_reducible refine Kd.C_drewN ?_ _) | (with_reducible refine Kd.C_drew ?_))); (case side2 => exact HC266.out); rintro e w' ⟨rfl, ⟨nd, rfl⟩⟩; (try first | exact ⟨rfl, _, World.drewN_drewN _ _ _⟩ | exact ⟨rfl, _, Eq.trans (World.drewN_drewN _ _ _) (congrArg (World.drewN _) (Nat.add_assoc _ _ _))⟩)) | (go_at_call 63; (try refine calls_of_args (args' := #[.slice A0 (l0.take ((ji3) : Int).toNat).length c0]) (by rw [List.length_take, Nat.min_eq_left HJL.out]) ?_); (with_reducible refine (slices_Clone_byte.calls _ _ (l0.take ((ji3) : Int).toNat) t271 _ ?side1 ?side2 A12.out).mono ?_); (case side1 => repeat (first | exact HR266.out | (with_reducible refine Kd.C_alloc ?_ _) | (with_reducible refine Kd.C_drewN ?_ _) | (with_reducible refine Kd.C_drew ?_))); (case side2 => exact HC266.out); rintro e w15 ⟨v272, rfl, ho0, hb⟩; have n0_ := Aside0.mk (Kd.R_lower ho0 (below_size (by repeat (first | (with_reducible first | exact HB.out | apply below_alloc | apply pw_below_drewN | apply below_drew1) | exact HB.out)))); have n1_ := Aside0.mk (below_step (by repeat (first | (with_reducible first | exact HB.out | apply below_alloc | apply pw_below_drewN | apply below_drew1) | exact HB.out)) hb); clear HB; have HO273 := n0_; have HB := n1_; clear n0_ n1_; (try clear hb); (try clear hb2); (try clear hk); (try clear hi); (try clear ho0)))
              go_ret2
              exact ⟨_, by first | rfl | (simp [errW_none, errW_some] <;> rfl) | (simp only [← hji3]; first | rfl | (simp [errW_none, errW_some] <;> rfl)) | (simp [*, errW_none, errW_some] <;> rfl), by (with_reducible repeat (first | apply Kd.R_alloc | apply Kd.R_drewN | apply Kd.R_drew)); exact HO273.out, by repeat (first | (with_reducible first | exact HB.out | apply below_alloc | apply pw_below_drewN | apply below_drew1) | exact HB.out)⟩
            · rw [if_neg c11] at H
              have c11b0 : (t268 == (Go.bits .or .u16 (IntKind.u16.wrap ((IntKind.u16.wrap (rd (l0.drop ((ji3) : Int).toNat) 0)) * 256)) (IntKind.u16.wrap (rd (l0.drop ((ji3) : Int).toNat) 1)))) = false := beq_eq_false_iff_ne.mpr c11
              have c11b1 : (t268 != (Go.bits .or .u16 (IntKind.u16.wrap ((IntKind.u16.wrap (rd (l0.drop ((ji3) : Int).toNat) 0)) * 256)) (IntKind.u16.wrap (rd (l0.drop ((ji3) : Int).toNat) 1)))) = true := bne_iff_ne.mpr c11
              simp only [Option.some.injEq, Prod.mk.injEq] at H
              obtain ⟨rfl, rfl⟩ := H
              obtain ⟨i016, hi016, _, hsz16, _⟩ := info_parts info5
              obtain ⟨hcut16, hA16, hC16⟩ := print_take_of (P := Tryd.prog) (Value.int .u8) 0 24 5 .i64 Tryd.underlying24 hi016 hsz16 A0 c0 l0 (ji3) (of_decide_eq_true (by first | (with_reducible assumption) | assumption)) (of_decide_eq_true (by first | (with_reducible assumption) | assumption)) HC0.out
              have HR266 := Aside0.mk (Kd.C_of_reads (h1 := fun _ => rfl) (hA16 _ (Kd.reads_of_C HR0.out)))
              have HC266 := Aside0.mk hC16
              clear hA16 hC16 hi016 hsz16
              obtain ⟨i017, hi017, _, hsz17, _⟩ := info_parts info5
              obtain ⟨A17, hcut17, hA17, hC17⟩ := print_drop_of (P := Tryd.prog) (Value.int .u8) 0 24 5 .i64 Tryd.underlying24 hi017 hsz17 A0 c0 l0 (ji3) (of_decide_eq_true (by first | (with_reducible assumption) | assumption)) (of_decide_eq_true (by first | (with_reducible assumption) | assumption)) HC0.out
              have HR267 := Aside0.mk (Kd.C_of_reads (h1 := fun _ => rfl) (hA17 _ (Kd.reads_of_C HR0.out)))
              have HC267 := Aside0.mk hC17
              clear hA17 hC17 hi017 hsz17
              have p269 : 0 ≤ (0 : Int) := (by omega)
              have q269 : 0 < ((l0.drop ((ji3) : Int).toNat).length : Int) := of_decide_eq_true (by first | (with_reducible assumption) | assumption)
              obtain ⟨ad269, e269, hx269_0⟩ := Kd.at_int HR267.out 0 p269 q269
              cases e269
              have qi269 : (0 < (l0.drop ((ji3) : Int).toNat).length) = True := eq_true (by omega)
              (try rw [show ((0 : Int)).toNat = 0 from rfl] at hx269_0)
              (try rw [Addr.add_zero'] at hx269_0)
              replace p269 := eq_true p269
              replace q269 := eq_true q269
              have p270 : 0 ≤ (1 : Int) := (by omega)
              have q270 : 1 < ((l0.drop ((ji3) : Int).toNat).length : Int) := of_decide_eq_true (by first | (with_reducible assumption) | assumption)
              obtain ⟨ad270, e270, hx270_0⟩ := Kd.at_int HR267.out 1 p270 q270
              obtain rfl : ad269 = ad270 := (by injection e270)
              (try simp only [show (1 : Int).toNat = 1 from rfl, Nat.reduceMul, Nat.reduceEqDiff, Go.Addr.add, ↓reduceIte] at hx270_0)
              have qi270 : (1 < (l0.drop ((ji3) : Int).toNat).length) = True := eq_true (by omega)
              (try rw [show ((1 : Int)).toNat = 1 from rfl] at hx270_0)
              replace p270 := eq_true p270
              replace q270 := eq_true q270
              have HJL := Aside0.mk (show ((ji3) : Int).toNat ≤ l0.length by have h_ := of_eq_true c5b0; omega)
              have qa0 := qi269
              have qa1 := qi270
              rw [List.length_drop] at qa0 qa1
              have qb0 := eq_true (show ((ji3) : Int).toNat < l0.length by have h_ := of_eq_true qa0; omega)
              have qb1 := eq_true (show 1 + ((ji3) : Int).toNat < l0.length by have h_ := of_eq_true qa1; omega)
              have qb2 := eq_true (show ((ji3) : Int).toNat + 1 < l0.length by have h_ := of_eq_true qa1; omega)
              have qc0 := eq_true (show (0 : Int) < ((l0.length - ((ji3) : Int).toNat : Nat) : Int) by have h_ := of_eq_true qa0; omega)
              have qc1 := eq_true (show (1 : Int) < ((l0.length - ((ji3) : Int).toNat : Nat) : Int) by have h_ := of_eq_true qa1; omega)
              go_enter Tryd.func51, Tryd.ntmps51
              go_wp2_with (first | (go_at_call 62; (with_reducible refine (crc16_Sum.calls k _ _ (l0.take ((ji3) : Int).toNat) t268 _ ?side1 ?side2 A8.out).mono ?_); (case side1 => repeat (first | exact HR266.out | (with_reducible refine Kd.C_alloc ?_ _) | (with_reducible refine Kd.C_drewN ?_ _) | (with_reducible refine Kd.C_drew ?_))); (case side2 => exact HC266.out); rintro e w' ⟨rfl, ⟨nd, rfl⟩⟩; (try first | exact ⟨rfl, _, World.drewN_drewN _ _ _⟩ | exact ⟨rfl, _, Eq.trans (World.drewN_drewN _ _ _) (congrArg (World.drewN _) (Nat.add_assoc _ _ _))⟩); have p269 : 0 ≤ (0 : Int) := (by omega); have q269 : 0 < ((l0.drop ((ji3) : Int).toNat).length : Int) := of_decide_eq_true (by first | (with_reducible assumption) | assumption); obtain ⟨ad269, e269, hx269_0⟩ := Kd.at_int HR267.out 0 p269 q269; cases e269; have qi269 : (0 < (l0.drop ((ji3) : Int).toNat).length) = True := eq_true (by omega); (try rw [show ((0 : Int)).toNat = 0 from rfl] at hx269_0); (try rw [Addr.add_zero'] at hx269_0); replace p269 := eq_true p269; replace q269 := eq_true q269; have p270 : 0 ≤ (1 : Int) := (by omega); have q270 : 1 < ((l0.drop ((ji3) : Int).toNat).length : Int) := of_decide_eq_true (by first | (with_reducible assumption) | assumption); obtain ⟨ad270, e270, hx270_0⟩ := Kd.at_int HR267.out 1 p270 q270; obtain rfl : ad269 = ad270 := (by injection e270); (try simp only [show (1 : Int).toNat = 1 from rfl, Nat.reduceMul, Nat.reduceEqDiff, Go.Addr.add, ↓reduceIte] at hx270_0); have qi270 : (1 < (l0.drop ((ji3) : Int).toNat).length) = True := eq_true (by omega); (try rw [show ((1 : Int)).toNat = 1 from rfl] at hx270_0); replace p270 := eq_true p270; replace q270 := eq_true q270))
              go_quiet (fail)
              go_wp2
              go_quiet ((go_at_call 62; (try refine calls_of_args (args' := #[.slice A0 (l0.take ((ji3) : Int).toNat).length c0]) (by rw [List.length_take, Nat.min_eq_left HJL.out]) ?_); (with_reducible refine (crc16_Sum.calls k _ _ (l0.take ((ji3) : Int).toNat) t268 _ ?side1 ?side2 A8.out).mono ?_); (case side1 => repeat (first | exact HR266.out | (with_reducible refine Kd.C_alloc ?_ _) | (with_reducible refine Kd.C_drewN ?_ _) | (with_reducible refine Kd.C_drew ?_))); (case side2 => exact HC266.out); rintro e w' ⟨rfl, ⟨nd, rfl⟩⟩; (try first | exact ⟨rfl, _, World.drewN_drewN _ _ _⟩ | exact ⟨rfl, _, Eq.trans (World.drewN_drewN _ _ _) (congrArg (World.drewN _) (Nat.add_assoc _ _ _))⟩)))
              try go_wp2_with (first | (go_at_call 62; (try refine calls_of_args (args' := #[.slice A0 (l0.take ((ji3) : Int).toNat).length c0]) (by rw [List.length_take, Nat.min_eq_left HJL.out]) ?_); (with_reducible refine (crc16_Sum.calls k _ _ (l0.take ((ji3) : Int).toNat) t268 _ ?side1 ?side2 A8.out).mono ?_); (case side1 => repeat (first | exact HR266.out | (with_reducible refine Kd.C_alloc ?_ _) | (with_reducible refine Kd.C_drewN ?_ _) | (with_reducible refine Kd.C_drew ?_))); (case side2 => exact HC266.out); rintro e w' ⟨rfl, ⟨nd, rfl⟩⟩; (try first | exact ⟨rfl, _, World.drewN_drewN _ _ _⟩ | exact ⟨rfl, _, Eq.trans (World.drewN_drewN _ _ _) (congrArg (World.drewN _) (Nat.add_assoc _ _ _))⟩)))
              go_ret2
              exact ⟨_, by first | rfl | (simp [errW_none, errW_some] <;> rfl) | (simp only [← hji3]; first | rfl | (simp [errW_none, errW_some] <;> rfl)) | (simp [*, errW_none, errW_some] <;> rfl), by first | exact Kd.R_nil _ _ _ _ _ | exact Kd.N_nil _ _ _ _ _ | exact Kd.V_nil _ _ _ _ _ | exact Kd.Q_nil _ _ _ _ _ | exact Kd.S_nil _ _ _ _ _, by repeat (first | (with_reducible first | exact HB.out | apply below_alloc | apply pw_below_drewN | apply below_drew1) | exact HB.out)⟩
          · rw [if_neg c10] at H
            exact absurd H (by simp)
        · rw [if_neg c9] at H
          exact absurd H (by simp)
      · rw [if_neg c5] at H
        exact absurd H (by simp)
    · rw [if_neg c4] at H
      exact absurd H (by simp)

end Go.Proofs.YtfhnpphceeoeeaaDoor.PX
-- Written by a program of this session (wip/xprint.py, over the kit's print tool). Lean checks it.
namespace Go.Proofs.YtfhnpphceeoeeaaDoor.PX
open Go.RowKit Go.Proofs.YtfhnpphceeoeeaaDoorW.PrintWords Go.Proofs.YtfhnpphceeoeeaaDoorW.PrintLast Go.Proofs.YtfhnpphceeoeeaaDoorW.PrintMore
attribute [local go_sem] max2_int min2_int max_two min_two max_three min_three max_four min_four   -- for this text's walks alone
set_option linter.unusedVariables false
set_option linter.unusedSimpArgs false

/-! ### frame_value: function 52 -/
def frame_value.l0 : Nat → List Int → Int → Int → Option (Int)
  | 0, _, _, _ => none
  | k + 1, x0, x3, x4 => if x4 ≥ 0 then (if 0 ≤ x4 then (if x4 < (x0.length : Int) then (frame_value.l0 k x0 (Go.bits .or .i64 (wrap64 (x3 * 256)) (wrap64 (rd x0 x4))) (wrap64 (x4 - 1))) else (none)) else (none)) else (some x3)
def frame_value.f (k : Nat) (l0 : List Int) : Option (Int) := frame_value.l0 k l0 0 (wrap64 ((l0.length : Int) - 1))
set_option maxHeartbeats 8000000 in
set_option maxRecDepth 100000 in
theorem frame_value.calls (k : Nat) (A0 : Option Addr) (c0 : Nat) (l0 : List Int) (r : Int) (w : World) (hr0 : Kd.C (Kd.int .u8) w A0 l0.length l0) (hc0 : l0.length ≤ c0) (h : frame_value.f k l0 = some r) :
    Calls Tryd.prog 52 #[.slice A0 l0.length c0] w fun e w' => e = .returned (.int .i64 r) ∧ Drawn0 w w' := by
  have HR0 := Aside0.mk hr0
  have HC0 := Aside0.mk hc0
  clear hr0 hc0
  have H : (frame_value.l0 k l0 0 (wrap64 ((l0.length : Int) - 1))) = some r := h
  clear h
  have H' := Aside0.mk H
  clear H
  go_enter Tryd.func52, Tryd.ntmps52
  go_wp2
  go_loopg [3, 4] k (fun kq v3 v4 w' => ∃ (x3_1 : Int) (x4_1 : Int), v3 = .int .i64 x3_1 ∧ v4 = .int .i64 x4_1 ∧ Aside0 (frame_value.l0 kq l0 x3_1 x4_1 = some r) ∧ Aside0 (kq ≤ k) ∧ Drawn0 w w')
  case atStart => exact ⟨(0), (wrap64 ((l0.length : Int) - 1)), (by first | rfl | (simp; done) | (simp [*]; done)), (by first | rfl | (simp; done) | (simp [*]; done)), H', ⟨Nat.le_refl _⟩, by repeat (first | exact Drawn0.refl _ | apply Drawn0.step)⟩
  case round =>
    clear H'
    obtain ⟨x3_1, x4_1, rfl, rfl, HA, HK1, ⟨m1, rfl⟩⟩ := hrel
    cases gk with
    | zero => exact absurd HA.out (by simp [frame_value.l0])
    | succ k1 =>
      have H := HA.out
      clear HA
      simp only [frame_value.l0] at H
      by_cases c2 : x4_1 ≥ 0
      · rw [if_pos c2] at H
        have c2b0 : decide (0 ≤ x4_1) = true := decide_eq_true c2
        clear c2
        by_cases c3 : 0 ≤ x4_1
        · rw [if_pos c3] at H
          have c3b0 : decide (0 ≤ x4_1) = true := decide_eq_true c3
          clear c3
          by_cases c4 : x4_1 < (l0.length : Int)
          · rw [if_pos c4] at H
            have c4b0 : decide (x4_1 < (l0.length : Int)) = true := decide_eq_true c4
            clear c4
            have H' := Aside0.mk H
            clear H
            have p274 : 0 ≤ (x4_1 : Int) := of_decide_eq_true (by first | (with_reducible assumption) | assumption)
            have q274 : x4_1 < (l0.length : Int) := of_decide_eq_true (by first | (with_reducible assumption) | assumption)
            obtain ⟨ad274, e274, hx274_0⟩ := Kd.at_int HR0.out x4_1 p274 q274
            cases e274
            replace p274 := eq_true p274
            replace q274 := eq_true q274
            go_wp2
            go_roundg k1
            case measure => have := HK1.out; omega
            case rel => exact ⟨(Go.bits .or .i64 (wrap64 (x3_1 * 256)) (wrap64 (rd l0 x4_1))), (wrap64 (x4_1 - 1)), (by first | rfl | (simp; done) | (simp [*]; done)), (by first | rfl | (simp; done) | (simp [*]; done)), H', ⟨by have := HK1.out; omega⟩, by repeat (first | exact Drawn0.refl _ | apply Drawn0.step)⟩
          · rw [if_neg c4] at H
            exact absurd H (by simp)
        · rw [if_neg c3] at H
          exact absurd H (by simp)
      · rw [if_neg c2] at H
        have c2b0 : decide (0 ≤ x4_1) = false := decide_eq_false c2
        clear c2
        obtain rfl := Option.some.inj H
        go_wp2
        go_ret
        exact ⟨by first | rfl | (simp; done) | (simp [*]; done), by repeat (first | exact Drawn0.refl _ | apply Drawn0.step)⟩

end Go.Proofs.YtfhnpphceeoeeaaDoor.PX
