/- Parts of the proof, merged in build order: PXx13, Lx4, PXx25, Lx5, PXx1, PXx31. -/
import Derived.Test.YtmpbkemicfmbaaaDoorY1
import Derived.Test.YtmpbkemicfmbaaaDoorY4
-- Written by a program of this session (wip/xprint.py, over the kit's print tool). Lean checks it.
namespace Go.Proofs.YtmpbkemicfmbaaaDoor.PX
open Go.RowKit Go.Proofs.YtmpbkemicfmbaaaDoorW.PrintWords Go.Proofs.YtmpbkemicfmbaaaDoorW.PrintLast Go.Proofs.YtmpbkemicfmbaaaDoorW.PrintMore
attribute [local go_sem] max2_int min2_int max_two min_two max_three min_three max_four min_four   -- for this text's walks alone
set_option linter.unusedVariables false
set_option linter.unusedSimpArgs false

/-! ### tricklelaw15_wakes: function 10 -/
def tricklelaw15_wakes.f (k : Nat)  : Option (Bool) := (lexer_Scan.f k (⟨#[120, 49, 32, 61, 32, 97, 60, 61, 45, 51, 59, 47, 47, 32, 101, 110, 100]⟩ : ByteArray)).bind fun t151 => (if (t151.length : Int) = 8 then (if 0 < (t151.length : Int) then (if ((rd_T37 t151 0).f1).toList = ([120, 49] : List UInt8) then (if 3 < (t151.length : Int) then (if ((rd_T37 t151 3).f1).toList = ([60, 61] : List UInt8) then (if 5 < (t151.length : Int) then (if ((rd_T37 t151 5).f2) = 3 then (if ((rd_T37 t151 5).f3) = 9 then (if 7 < (t151.length : Int) then (if ((rd_T37 t151 7).f0) = 0 then (if ((rd_T37 t151 7).f3) = 17 then ((lexer_Join.f k t151).bind fun t160 => (some (t160.toList == ([120, 49, 61, 97, 60, 61, 45, 51, 59] : List UInt8)))) else (some false)) else (some false)) else (none)) else (some false)) else (some false)) else (none)) else (some false)) else (none)) else (some false)) else (none)) else (some false))
theorem tricklelaw15_wakes.mono : ∀ k, LeO (tricklelaw15_wakes.f k ) (tricklelaw15_wakes.f (k + 1) ) := by
  intro  k
  unfold tricklelaw15_wakes.f
  repeat' first
      | (with_reducible exact lexer_Join.mono _ _)
      | (with_reducible exact lexer_Scan.mono _ _)
      | (with_reducible exact LeO.refl _)
      | (with_reducible exact LeO.none _)
      | (with_reducible refine LeO.ite ?_ ?_)
      | (with_reducible refine LeO.bind ?_ (fun _ => ?_))
      | exact lexer_Join.mono _ _
      | exact lexer_Scan.mono _ _
      | exact LeO.none _
      | refine LeO.ite ?_ ?_
      | refine LeO.bind ?_ (fun _ => ?_)
set_option maxHeartbeats 8000000 in
set_option maxRecDepth 100000 in
theorem tricklelaw15_wakes.calls (k : Nat)  (r : Bool) (w : World) (hG : GW w) (h : tricklelaw15_wakes.f k  = some r) :
    Calls Tryd.prog 10 #[] w fun e w' => e = .returned (.bool r) ∧ Below w.heap.size w w' := by
  have HG := Aside0.mk hG
  clear hG
  have HB := Aside0.mk (Below.refl w.heap.size w)
  have H : ((lexer_Scan.f k (⟨#[120, 49, 32, 61, 32, 97, 60, 61, 45, 51, 59, 47, 47, 32, 101, 110, 100]⟩ : ByteArray)).bind fun t151 => (if (t151.length : Int) = 8 then (if 0 < (t151.length : Int) then (if ((rd_T37 t151 0).f1).toList = ([120, 49] : List UInt8) then (if 3 < (t151.length : Int) then (if ((rd_T37 t151 3).f1).toList = ([60, 61] : List UInt8) then (if 5 < (t151.length : Int) then (if ((rd_T37 t151 5).f2) = 3 then (if ((rd_T37 t151 5).f3) = 9 then (if 7 < (t151.length : Int) then (if ((rd_T37 t151 7).f0) = 0 then (if ((rd_T37 t151 7).f3) = 17 then ((lexer_Join.f k t151).bind fun t160 => (some (t160.toList == ([120, 49, 61, 97, 60, 61, 45, 51, 59] : List UInt8)))) else (some false)) else (some false)) else (none)) else (some false)) else (some false)) else (none)) else (some false)) else (none)) else (some false)) else (none)) else (some false))) = some r := h
  clear h
  replace H := Option.bind_eq_some_iff.mp H
  obtain ⟨t151, A10, H⟩ := H
  replace H : (if (t151.length : Int) = 8 then (if 0 < (t151.length : Int) then (if ((rd_T37 t151 0).f1).toList = ([120, 49] : List UInt8) then (if 3 < (t151.length : Int) then (if ((rd_T37 t151 3).f1).toList = ([60, 61] : List UInt8) then (if 5 < (t151.length : Int) then (if ((rd_T37 t151 5).f2) = 3 then (if ((rd_T37 t151 5).f3) = 9 then (if 7 < (t151.length : Int) then (if ((rd_T37 t151 7).f0) = 0 then (if ((rd_T37 t151 7).f3) = 17 then ((lexer_Join.f k t151).bind fun t160 => (some (t160.toList == ([120, 49, 61, 97, 60, 61, 45, 51, 59] : List UInt8)))) else (some false)) else (some false)) else (none)) else (some false)) else (some false)) else (none)) else (some false)) else (none)) else (some false)) else (none)) else (some false)) = some r := H
  have A1 := Aside0.mk A10
  clear A10
  by_cases c2 : (t151.length : Int) = 8
  · rw [if_pos c2] at H
    have c2b0 : ((t151.length : Int) == 8) = true := beq_iff_eq.mpr c2
    have c2b1 : ((t151.length : Int) != 8) = false := bne_eq_false_iff_eq.mpr c2
    clear c2
    by_cases c3 : 0 < (t151.length : Int)
    · rw [if_pos c3] at H
      have c3b0 : decide (0 < (t151.length : Int)) = true := decide_eq_true c3
      have c3b1 : decide (0 < t151.length) = true := decide_eq_true (by omega)
      clear c3
      by_cases c4 : ((rd_T37 t151 0).f1).toList = ([120, 49] : List UInt8)
      · rw [if_pos c4] at H
        have c4b0 : (((rd_T37 t151 0).f1).toList == ([120, 49] : List UInt8)) = true := beq_iff_eq.mpr c4
        have c4b1 : (((rd_T37 t151 0).f1).toList != ([120, 49] : List UInt8)) = false := bne_eq_false_iff_eq.mpr c4
        clear c4
        by_cases c5 : 3 < (t151.length : Int)
        · rw [if_pos c5] at H
          have c5b0 : decide (3 < (t151.length : Int)) = true := decide_eq_true c5
          have c5b1 : decide (3 < t151.length) = true := decide_eq_true (by omega)
          clear c5
          by_cases c6 : ((rd_T37 t151 3).f1).toList = ([60, 61] : List UInt8)
          · rw [if_pos c6] at H
            have c6b0 : (((rd_T37 t151 3).f1).toList == ([60, 61] : List UInt8)) = true := beq_iff_eq.mpr c6
            have c6b1 : (((rd_T37 t151 3).f1).toList != ([60, 61] : List UInt8)) = false := bne_eq_false_iff_eq.mpr c6
            clear c6
            by_cases c7 : 5 < (t151.length : Int)
            · rw [if_pos c7] at H
              have c7b0 : decide (5 < (t151.length : Int)) = true := decide_eq_true c7
              have c7b1 : decide (5 < t151.length) = true := decide_eq_true (by omega)
              clear c7
              by_cases c8 : ((rd_T37 t151 5).f2) = 3
              · rw [if_pos c8] at H
                have c8b0 : (((rd_T37 t151 5).f2) == 3) = true := beq_iff_eq.mpr c8
                have c8b1 : (((rd_T37 t151 5).f2) != 3) = false := bne_eq_false_iff_eq.mpr c8
                clear c8
                by_cases c9 : ((rd_T37 t151 5).f3) = 9
                · rw [if_pos c9] at H
                  have c9b0 : (((rd_T37 t151 5).f3) == 9) = true := beq_iff_eq.mpr c9
                  have c9b1 : (((rd_T37 t151 5).f3) != 9) = false := bne_eq_false_iff_eq.mpr c9
                  clear c9
                  by_cases c10 : 7 < (t151.length : Int)
                  · rw [if_pos c10] at H
                    have c10b0 : decide (7 < (t151.length : Int)) = true := decide_eq_true c10
                    have c10b1 : decide (7 < t151.length) = true := decide_eq_true (by omega)
                    clear c10
                    by_cases c11 : ((rd_T37 t151 7).f0) = 0
                    · rw [if_pos c11] at H
                      have c11b0 : (((rd_T37 t151 7).f0) == 0) = true := beq_iff_eq.mpr c11
                      have c11b1 : (((rd_T37 t151 7).f0) != 0) = false := bne_eq_false_iff_eq.mpr c11
                      clear c11
                      by_cases c12 : ((rd_T37 t151 7).f3) = 17
                      · rw [if_pos c12] at H
                        have c12b0 : (((rd_T37 t151 7).f3) == 17) = true := beq_iff_eq.mpr c12
                        have c12b1 : (((rd_T37 t151 7).f3) != 17) = false := bne_eq_false_iff_eq.mpr c12
                        clear c12
                        replace H := Option.bind_eq_some_iff.mp H
                        obtain ⟨t160, A130, H⟩ := H
                        replace H : (some (t160.toList == ([120, 49, 61, 97, 60, 61, 45, 51, 59] : List UInt8))) = some r := H
                        have A13 := Aside0.mk A130
                        clear A130
                        obtain rfl := Option.some.inj H
                        go_enter Tryd.func10, Tryd.ntmps10
                        go_wp2_with (first | ((with_reducible refine gate_callee (f := 13) rfl ?_); refine goesL_ (some 2) rfl rfl Tryd.func13 (by kernel_rfl) rfl #[.string (⟨#[120, 49, 32, 61, 32, 97, 60, 61, 45, 51, 59, 47, 47, 32, 101, 110, 100]⟩ : ByteArray)] rfl (by (try simp only [List.map_toArray, List.map_cons, List.map_nil]); first | done | rfl | (simp only [List.length_drop, List.length_take]; rfl)) ?_; (with_reducible refine (lexer_Scan.calls k (⟨#[120, 49, 32, 61, 32, 97, 60, 61, 45, 51, 59, 47, 47, 32, 101, 110, 100]⟩ : ByteArray) t151 _ ?side1 A1.out).mono ?_); (case side1 => refine GW.below HG.out ?_; repeat (first | (with_reducible first | exact HB.out | apply below_alloc | apply pw_below_drewN | apply below_drew1) | exact HB.out)); rintro e w14 ⟨v152, rfl, ho0, hb⟩; refine ⟨_, rfl, ?_⟩; have n0_ := Aside0.mk (Kd.R_lower ho0 (below_size (by repeat (first | (with_reducible first | exact HB.out | apply below_alloc | apply pw_below_drewN | apply below_drew1) | exact HB.out)))); have n1_ := Aside0.mk (below_step (by repeat (first | (with_reducible first | exact HB.out | apply below_alloc | apply pw_below_drewN | apply below_drew1) | exact HB.out)) hb); clear HB; have HO153 := n0_; have HB := n1_; clear n0_ n1_; (try clear hb); (try clear hb2); (try clear hk); (try clear hi); (try clear ho0); obtain ⟨Ao15, co15, eo15⟩ := Kd.R_slice HO153.out; subst eo15; have p154 : 0 ≤ (0 : Int) := (by omega); have q154 : 0 < (t151.length : Int) := of_decide_eq_true (by first | (with_reducible assumption) | assumption); obtain ⟨ad154, e154, hx154_0, hx154_1, hx154_2, hx154_3⟩ := at_T37 (Kd.R_reads' HO153.out).2.2 0 p154 q154; cases e154; have qi154 : (0 < t151.length) = True := eq_true (by omega); (try rw [show ((0 : Int)).toNat = 0 from rfl] at hx154_0); (try rw [show 0 * 4 = 0 from rfl] at hx154_0); (try rw [Addr.add_zero'] at hx154_0); (try rw [show ((0 : Int)).toNat = 0 from rfl] at hx154_1); (try rw [show 0 * 4 = 0 from rfl] at hx154_1); (try rw [Addr.add_zero'] at hx154_1); (try rw [show ((0 : Int)).toNat = 0 from rfl] at hx154_2); (try rw [show 0 * 4 = 0 from rfl] at hx154_2); (try rw [Addr.add_zero'] at hx154_2); (try rw [show ((0 : Int)).toNat = 0 from rfl] at hx154_3); (try rw [show 0 * 4 = 0 from rfl] at hx154_3); (try rw [Addr.add_zero'] at hx154_3); replace p154 := eq_true p154; replace q154 := eq_true q154; have p155 : 0 ≤ (3 : Int) := (by omega); have q155 : 3 < (t151.length : Int) := of_decide_eq_true (by first | (with_reducible assumption) | assumption); obtain ⟨ad155, e155, hx155_0, hx155_1, hx155_2, hx155_3⟩ := at_T37 (Kd.R_reads' HO153.out).2.2 3 p155 q155; obtain rfl : ad154 = ad155 := (by injection e155); (try simp only [show (3 : Int).toNat = 3 from rfl, Nat.reduceMul, Nat.reduceEqDiff, Go.Addr.add, ↓reduceIte] at hx155_0); (try simp only [show (3 : Int).toNat = 3 from rfl, Nat.reduceMul, Nat.reduceEqDiff, Go.Addr.add, ↓reduceIte] at hx155_1); (try simp only [show (3 : Int).toNat = 3 from rfl, Nat.reduceMul, Nat.reduceEqDiff, Go.Addr.add, ↓reduceIte] at hx155_2); (try simp only [show (3 : Int).toNat = 3 from rfl, Nat.reduceMul, Nat.reduceEqDiff, Go.Addr.add, ↓reduceIte] at hx155_3); have qi155 : (3 < t151.length) = True := eq_true (by omega); (try rw [show ((3 : Int)).toNat = 3 from rfl] at hx155_0); (try rw [show 3 * 4 = 12 from rfl] at hx155_0); (try rw [show ((3 : Int)).toNat = 3 from rfl] at hx155_1); (try rw [show 3 * 4 = 12 from rfl] at hx155_1); (try rw [show ((3 : Int)).toNat = 3 from rfl] at hx155_2); (try rw [show 3 * 4 = 12 from rfl] at hx155_2); (try rw [show ((3 : Int)).toNat = 3 from rfl] at hx155_3); (try rw [show 3 * 4 = 12 from rfl] at hx155_3); replace p155 := eq_true p155; replace q155 := eq_true q155; have p156 : 0 ≤ (5 : Int) := (by omega); have q156 : 5 < (t151.length : Int) := of_decide_eq_true (by first | (with_reducible assumption) | assumption); obtain ⟨ad156, e156, hx156_0, hx156_1, hx156_2, hx156_3⟩ := at_T37 (Kd.R_reads' HO153.out).2.2 5 p156 q156; obtain rfl : ad154 = ad156 := (by injection e156); (try simp only [show (5 : Int).toNat = 5 from rfl, Nat.reduceMul, Nat.reduceEqDiff, Go.Addr.add, ↓reduceIte] at hx156_0); (try simp only [show (5 : Int).toNat = 5 from rfl, Nat.reduceMul, Nat.reduceEqDiff, Go.Addr.add, ↓reduceIte] at hx156_1); (try simp only [show (5 : Int).toNat = 5 from rfl, Nat.reduceMul, Nat.reduceEqDiff, Go.Addr.add, ↓reduceIte] at hx156_2); (try simp only [show (5 : Int).toNat = 5 from rfl, Nat.reduceMul, Nat.reduceEqDiff, Go.Addr.add, ↓reduceIte] at hx156_3); have qi156 : (5 < t151.length) = True := eq_true (by omega); (try rw [show ((5 : Int)).toNat = 5 from rfl] at hx156_0); (try rw [show 5 * 4 = 20 from rfl] at hx156_0); (try rw [show ((5 : Int)).toNat = 5 from rfl] at hx156_1); (try rw [show 5 * 4 = 20 from rfl] at hx156_1); (try rw [show ((5 : Int)).toNat = 5 from rfl] at hx156_2); (try rw [show 5 * 4 = 20 from rfl] at hx156_2); (try rw [show ((5 : Int)).toNat = 5 from rfl] at hx156_3); (try rw [show 5 * 4 = 20 from rfl] at hx156_3); replace p156 := eq_true p156; replace q156 := eq_true q156; have p157 : 0 ≤ (5 : Int) := (by omega); have q157 : 5 < (t151.length : Int) := of_decide_eq_true (by first | (with_reducible assumption) | assumption); obtain ⟨ad157, e157, hx157_0, hx157_1, hx157_2, hx157_3⟩ := at_T37 (Kd.R_reads' HO153.out).2.2 5 p157 q157; obtain rfl : ad154 = ad157 := (by injection e157); (try simp only [show (5 : Int).toNat = 5 from rfl, Nat.reduceMul, Nat.reduceEqDiff, Go.Addr.add, ↓reduceIte] at hx157_0); (try simp only [show (5 : Int).toNat = 5 from rfl, Nat.reduceMul, Nat.reduceEqDiff, Go.Addr.add, ↓reduceIte] at hx157_1); (try simp only [show (5 : Int).toNat = 5 from rfl, Nat.reduceMul, Nat.reduceEqDiff, Go.Addr.add, ↓reduceIte] at hx157_2); (try simp only [show (5 : Int).toNat = 5 from rfl, Nat.reduceMul, Nat.reduceEqDiff, Go.Addr.add, ↓reduceIte] at hx157_3); have qi157 : (5 < t151.length) = True := eq_true (by omega); (try rw [show ((5 : Int)).toNat = 5 from rfl] at hx157_0); (try rw [show 5 * 4 = 20 from rfl] at hx157_0); (try rw [show ((5 : Int)).toNat = 5 from rfl] at hx157_1); (try rw [show 5 * 4 = 20 from rfl] at hx157_1); (try rw [show ((5 : Int)).toNat = 5 from rfl] at hx157_2); (try rw [show 5 * 4 = 20 from rfl] at hx157_2); (try rw [show ((5 : Int)).toNat = 5 from rfl] at hx157_3); (try rw [show 5 * 4 = 20 from rfl] at hx157_3); replace p157 := eq_true p157; replace q157 := eq_true q157; have p158 : 0 ≤ (7 : Int) := (by omega); have q158 : 7 < (t151.length : Int) := of_decide_eq_true (by first | (with_reducible assumption) | assumption); obtain ⟨ad158, e158, hx158_0, hx158_1, hx158_2, hx158_3⟩ := at_T37 (Kd.R_reads' HO153.out).2.2 7 p158 q158; obtain rfl : ad154 = ad158 := (by injection e158); (try simp only [show (7 : Int).toNat = 7 from rfl, Nat.reduceMul, Nat.reduceEqDiff, Go.Addr.add, ↓reduceIte] at hx158_0); (try simp only [show (7 : Int).toNat = 7 from rfl, Nat.reduceMul, Nat.reduceEqDiff, Go.Addr.add, ↓reduceIte] at hx158_1); (try simp only [show (7 : Int).toNat = 7 from rfl, Nat.reduceMul, Nat.reduceEqDiff, Go.Addr.add, ↓reduceIte] at hx158_2); (try simp only [show (7 : Int).toNat = 7 from rfl, Nat.reduceMul, Nat.reduceEqDiff, Go.Addr.add, ↓reduceIte] at hx158_3); have qi158 : (7 < t151.length) = True := eq_true (by omega); (try rw [show ((7 : Int)).toNat = 7 from rfl] at hx158_0); (try rw [show 7 * 4 = 28 from rfl] at hx158_0); (try rw [show ((7 : Int)).toNat = 7 from rfl] at hx158_1); (try rw [show 7 * 4 = 28 from rfl] at hx158_1); (try rw [show ((7 : Int)).toNat = 7 from rfl] at hx158_2); (try rw [show 7 * 4 = 28 from rfl] at hx158_2); (try rw [show ((7 : Int)).toNat = 7 from rfl] at hx158_3); (try rw [show 7 * 4 = 28 from rfl] at hx158_3); replace p158 := eq_true p158; replace q158 := eq_true q158; have p159 : 0 ≤ (7 : Int) := (by omega); have q159 : 7 < (t151.length : Int) := of_decide_eq_true (by first | (with_reducible assumption) | assumption); obtain ⟨ad159, e159, hx159_0, hx159_1, hx159_2, hx159_3⟩ := at_T37 (Kd.R_reads' HO153.out).2.2 7 p159 q159; obtain rfl : ad154 = ad159 := (by injection e159); (try simp only [show (7 : Int).toNat = 7 from rfl, Nat.reduceMul, Nat.reduceEqDiff, Go.Addr.add, ↓reduceIte] at hx159_0); (try simp only [show (7 : Int).toNat = 7 from rfl, Nat.reduceMul, Nat.reduceEqDiff, Go.Addr.add, ↓reduceIte] at hx159_1); (try simp only [show (7 : Int).toNat = 7 from rfl, Nat.reduceMul, Nat.reduceEqDiff, Go.Addr.add, ↓reduceIte] at hx159_2); (try simp only [show (7 : Int).toNat = 7 from rfl, Nat.reduceMul, Nat.reduceEqDiff, Go.Addr.add, ↓reduceIte] at hx159_3); have qi159 : (7 < t151.length) = True := eq_true (by omega); (try rw [show ((7 : Int)).toNat = 7 from rfl] at hx159_0); (try rw [show 7 * 4 = 28 from rfl] at hx159_0); (try rw [show ((7 : Int)).toNat = 7 from rfl] at hx159_1); (try rw [show 7 * 4 = 28 from rfl] at hx159_1); (try rw [show ((7 : Int)).toNat = 7 from rfl] at hx159_2); (try rw [show 7 * 4 = 28 from rfl] at hx159_2); (try rw [show ((7 : Int)).toNat = 7 from rfl] at hx159_3); (try rw [show 7 * 4 = 28 from rfl] at hx159_3); replace p159 := eq_true p159; replace q159 := eq_true q159) | (go_at_call 15; (with_reducible refine (lexer_Join.calls k _ _ t151 t160 _ ?side1 ?side2 ?side3 A13.out).mono ?_); (case side1 => repeat (first | exact (Kd.R_reads' HO153.out).2.2 | (with_reducible refine Kd.C_alloc ?_ _) | (with_reducible refine Kd.C_drewN ?_ _) | (with_reducible refine Kd.C_drew ?_))); (case side2 => exact (Kd.R_reads' HO153.out).2.1); (case side3 => refine GW.below HG.out ?_; repeat (first | (with_reducible first | exact HB.out | apply below_alloc | apply pw_below_drewN | apply below_drew1) | exact HB.out)); rintro e w16 ⟨rfl, hb⟩; have n0_ := Aside0.mk (Kd.R_below (by (with_reducible repeat (first | apply Kd.R_alloc | apply Kd.R_drewN | apply Kd.R_drew)); exact HO153.out) hb); have n1_ := Aside0.mk (below_step (by repeat (first | (with_reducible first | exact HB.out | apply below_alloc | apply pw_below_drewN | apply below_drew1) | exact HB.out)) hb); clear HO153; clear HB; have HO153 := n0_; have HB := n1_; clear n0_ n1_; (try clear hb); (try clear hb2); (try clear hk); (try clear hi)))
                        go_ret
                        exact ⟨by first | rfl | (simp [errW_none, errW_some] <;> rfl) | (simp [*, errW_none, errW_some] <;> rfl), by repeat (first | (with_reducible first | exact HB.out | apply below_alloc | apply pw_below_drewN | apply below_drew1) | exact HB.out)⟩
                      · rw [if_neg c12] at H
                        have c12b0 : (((rd_T37 t151 7).f3) == 17) = false := beq_eq_false_iff_ne.mpr c12
                        have c12b1 : (((rd_T37 t151 7).f3) != 17) = true := bne_iff_ne.mpr c12
                        obtain rfl := Option.some.inj H
                        go_enter Tryd.func10, Tryd.ntmps10
                        go_wp2_with (first | ((with_reducible refine gate_callee (f := 13) rfl ?_); refine goesL_ (some 2) rfl rfl Tryd.func13 (by kernel_rfl) rfl #[.string (⟨#[120, 49, 32, 61, 32, 97, 60, 61, 45, 51, 59, 47, 47, 32, 101, 110, 100]⟩ : ByteArray)] rfl (by (try simp only [List.map_toArray, List.map_cons, List.map_nil]); first | done | rfl | (simp only [List.length_drop, List.length_take]; rfl)) ?_; (with_reducible refine (lexer_Scan.calls k (⟨#[120, 49, 32, 61, 32, 97, 60, 61, 45, 51, 59, 47, 47, 32, 101, 110, 100]⟩ : ByteArray) t151 _ ?side1 A1.out).mono ?_); (case side1 => refine GW.below HG.out ?_; repeat (first | (with_reducible first | exact HB.out | apply below_alloc | apply pw_below_drewN | apply below_drew1) | exact HB.out)); rintro e w17 ⟨v152, rfl, ho0, hb⟩; refine ⟨_, rfl, ?_⟩; have n0_ := Aside0.mk (Kd.R_lower ho0 (below_size (by repeat (first | (with_reducible first | exact HB.out | apply below_alloc | apply pw_below_drewN | apply below_drew1) | exact HB.out)))); have n1_ := Aside0.mk (below_step (by repeat (first | (with_reducible first | exact HB.out | apply below_alloc | apply pw_below_drewN | apply below_drew1) | exact HB.out)) hb); clear HB; have HO153 := n0_; have HB := n1_; clear n0_ n1_; (try clear hb); (try clear hb2); (try clear hk); (try clear hi); (try clear ho0); obtain ⟨Ao18, co18, eo18⟩ := Kd.R_slice HO153.out; subst eo18; have p154 : 0 ≤ (0 : Int) := (by omega); have q154 : 0 < (t151.length : Int) := of_decide_eq_true (by first | (with_reducible assumption) | assumption); obtain ⟨ad154, e154, hx154_0, hx154_1, hx154_2, hx154_3⟩ := at_T37 (Kd.R_reads' HO153.out).2.2 0 p154 q154; cases e154; have qi154 : (0 < t151.length) = True := eq_true (by omega); (try rw [show ((0 : Int)).toNat = 0 from rfl] at hx154_0); (try rw [show 0 * 4 = 0 from rfl] at hx154_0); (try rw [Addr.add_zero'] at hx154_0); (try rw [show ((0 : Int)).toNat = 0 from rfl] at hx154_1); (try rw [show 0 * 4 = 0 from rfl] at hx154_1); (try rw [Addr.add_zero'] at hx154_1); (try rw [show ((0 : Int)).toNat = 0 from rfl] at hx154_2); (try rw [show 0 * 4 = 0 from rfl] at hx154_2); (try rw [Addr.add_zero'] at hx154_2); (try rw [show ((0 : Int)).toNat = 0 from rfl] at hx154_3); (try rw [show 0 * 4 = 0 from rfl] at hx154_3); (try rw [Addr.add_zero'] at hx154_3); replace p154 := eq_true p154; replace q154 := eq_true q154; have p155 : 0 ≤ (3 : Int) := (by omega); have q155 : 3 < (t151.length : Int) := of_decide_eq_true (by first | (with_reducible assumption) | assumption); obtain ⟨ad155, e155, hx155_0, hx155_1, hx155_2, hx155_3⟩ := at_T37 (Kd.R_reads' HO153.out).2.2 3 p155 q155; obtain rfl : ad154 = ad155 := (by injection e155); (try simp only [show (3 : Int).toNat = 3 from rfl, Nat.reduceMul, Nat.reduceEqDiff, Go.Addr.add, ↓reduceIte] at hx155_0); (try simp only [show (3 : Int).toNat = 3 from rfl, Nat.reduceMul, Nat.reduceEqDiff, Go.Addr.add, ↓reduceIte] at hx155_1); (try simp only [show (3 : Int).toNat = 3 from rfl, Nat.reduceMul, Nat.reduceEqDiff, Go.Addr.add, ↓reduceIte] at hx155_2); (try simp only [show (3 : Int).toNat = 3 from rfl, Nat.reduceMul, Nat.reduceEqDiff, Go.Addr.add, ↓reduceIte] at hx155_3); have qi155 : (3 < t151.length) = True := eq_true (by omega); (try rw [show ((3 : Int)).toNat = 3 from rfl] at hx155_0); (try rw [show 3 * 4 = 12 from rfl] at hx155_0); (try rw [show ((3 : Int)).toNat = 3 from rfl] at hx155_1); (try rw [show 3 * 4 = 12 from rfl] at hx155_1); (try rw [show ((3 : Int)).toNat = 3 from rfl] at hx155_2); (try rw [show 3 * 4 = 12 from rfl] at hx155_2); (try rw [show ((3 : Int)).toNat = 3 from rfl] at hx155_3); (try rw [show 3 * 4 = 12 from rfl] at hx155_3); replace p155 := eq_true p155; replace q155 := eq_true q155; have p156 : 0 ≤ (5 : Int) := (by omega); have q156 : 5 < (t151.length : Int) := of_decide_eq_true (by first | (with_reducible assumption) | assumption); obtain ⟨ad156, e156, hx156_0, hx156_1, hx156_2, hx156_3⟩ := at_T37 (Kd.R_reads' HO153.out).2.2 5 p156 q156; obtain rfl : ad154 = ad156 := (by injection e156); (try simp only [show (5 : Int).toNat = 5 from rfl, Nat.reduceMul, Nat.reduceEqDiff, Go.Addr.add, ↓reduceIte] at hx156_0); (try simp only [show (5 : Int).toNat = 5 from rfl, Nat.reduceMul, Nat.reduceEqDiff, Go.Addr.add, ↓reduceIte] at hx156_1); (try simp only [show (5 : Int).toNat = 5 from rfl, Nat.reduceMul, Nat.reduceEqDiff, Go.Addr.add, ↓reduceIte] at hx156_2); (try simp only [show (5 : Int).toNat = 5 from rfl, Nat.reduceMul, Nat.reduceEqDiff, Go.Addr.add, ↓reduceIte] at hx156_3); have qi156 : (5 < t151.length) = True := eq_true (by omega); (try rw [show ((5 : Int)).toNat = 5 from rfl] at hx156_0); (try rw [show 5 * 4 = 20 from rfl] at hx156_0); (try rw [show ((5 : Int)).toNat = 5 from rfl] at hx156_1); (try rw [show 5 * 4 = 20 from rfl] at hx156_1); (try rw [show ((5 : Int)).toNat = 5 from rfl] at hx156_2); (try rw [show 5 * 4 = 20 from rfl] at hx156_2); (try rw [show ((5 : Int)).toNat = 5 from rfl] at hx156_3); (try rw [show 5 * 4 = 20 from rfl] at hx156_3); replace p156 := eq_true p156; replace q156 := eq_true q156; have p157 : 0 ≤ (5 : Int) := (by omega); have q157 : 5 < (t151.length : Int) := of_decide_eq_true (by first | (with_reducible assumption) | assumption); obtain ⟨ad157, e157, hx157_0, hx157_1, hx157_2, hx157_3⟩ := at_T37 (Kd.R_reads' HO153.out).2.2 5 p157 q157; obtain rfl : ad154 = ad157 := (by injection e157); (try simp only [show (5 : Int).toNat = 5 from rfl, Nat.reduceMul, Nat.reduceEqDiff, Go.Addr.add, ↓reduceIte] at hx157_0); (try simp only [show (5 : Int).toNat = 5 from rfl, Nat.reduceMul, Nat.reduceEqDiff, Go.Addr.add, ↓reduceIte] at hx157_1); (try simp only [show (5 : Int).toNat = 5 from rfl, Nat.reduceMul, Nat.reduceEqDiff, Go.Addr.add, ↓reduceIte] at hx157_2); (try simp only [show (5 : Int).toNat = 5 from rfl, Nat.reduceMul, Nat.reduceEqDiff, Go.Addr.add, ↓reduceIte] at hx157_3); have qi157 : (5 < t151.length) = True := eq_true (by omega); (try rw [show ((5 : Int)).toNat = 5 from rfl] at hx157_0); (try rw [show 5 * 4 = 20 from rfl] at hx157_0); (try rw [show ((5 : Int)).toNat = 5 from rfl] at hx157_1); (try rw [show 5 * 4 = 20 from rfl] at hx157_1); (try rw [show ((5 : Int)).toNat = 5 from rfl] at hx157_2); (try rw [show 5 * 4 = 20 from rfl] at hx157_2); (try rw [show ((5 : Int)).toNat = 5 from rfl] at hx157_3); (try rw [show 5 * 4 = 20 from rfl] at hx157_3); replace p157 := eq_true p157; replace q157 := eq_true q157; have p158 : 0 ≤ (7 : Int) := (by omega); have q158 : 7 < (t151.length : Int) := of_decide_eq_true (by first | (with_reducible assumption) | assumption); obtain ⟨ad158, e158, hx158_0, hx158_1, hx158_2, hx158_3⟩ := at_T37 (Kd.R_reads' HO153.out).2.2 7 p158 q158; obtain rfl : ad154 = ad158 := (by injection e158); (try simp only [show (7 : Int).toNat = 7 from rfl, Nat.reduceMul, Nat.reduceEqDiff, Go.Addr.add, ↓reduceIte] at hx158_0); (try simp only [show (7 : Int).toNat = 7 from rfl, Nat.reduceMul, Nat.reduceEqDiff, Go.Addr.add, ↓reduceIte] at hx158_1); (try simp only [show (7 : Int).toNat = 7 from rfl, Nat.reduceMul, Nat.reduceEqDiff, Go.Addr.add, ↓reduceIte] at hx158_2); (try simp only [show (7 : Int).toNat = 7 from rfl, Nat.reduceMul, Nat.reduceEqDiff, Go.Addr.add, ↓reduceIte] at hx158_3); have qi158 : (7 < t151.length) = True := eq_true (by omega); (try rw [show ((7 : Int)).toNat = 7 from rfl] at hx158_0); (try rw [show 7 * 4 = 28 from rfl] at hx158_0); (try rw [show ((7 : Int)).toNat = 7 from rfl] at hx158_1); (try rw [show 7 * 4 = 28 from rfl] at hx158_1); (try rw [show ((7 : Int)).toNat = 7 from rfl] at hx158_2); (try rw [show 7 * 4 = 28 from rfl] at hx158_2); (try rw [show ((7 : Int)).toNat = 7 from rfl] at hx158_3); (try rw [show 7 * 4 = 28 from rfl] at hx158_3); replace p158 := eq_true p158; replace q158 := eq_true q158; have p159 : 0 ≤ (7 : Int) := (by omega); have q159 : 7 < (t151.length : Int) := of_decide_eq_true (by first | (with_reducible assumption) | assumption); obtain ⟨ad159, e159, hx159_0, hx159_1, hx159_2, hx159_3⟩ := at_T37 (Kd.R_reads' HO153.out).2.2 7 p159 q159; obtain rfl : ad154 = ad159 := (by injection e159); (try simp only [show (7 : Int).toNat = 7 from rfl, Nat.reduceMul, Nat.reduceEqDiff, Go.Addr.add, ↓reduceIte] at hx159_0); (try simp only [show (7 : Int).toNat = 7 from rfl, Nat.reduceMul, Nat.reduceEqDiff, Go.Addr.add, ↓reduceIte] at hx159_1); (try simp only [show (7 : Int).toNat = 7 from rfl, Nat.reduceMul, Nat.reduceEqDiff, Go.Addr.add, ↓reduceIte] at hx159_2); (try simp only [show (7 : Int).toNat = 7 from rfl, Nat.reduceMul, Nat.reduceEqDiff, Go.Addr.add, ↓reduceIte] at hx159_3); have qi159 : (7 < t151.length) = True := eq_true (by omega); (try rw [show ((7 : Int)).toNat = 7 from rfl] at hx159_0); (try rw [show 7 * 4 = 28 from rfl] at hx159_0); (try rw [show ((7 : Int)).toNat = 7 from rfl] at hx159_1); (try rw [show 7 * 4 = 28 from rfl] at hx159_1); (try rw [show ((7 : Int)).toNat = 7 from rfl] at hx159_2); (try rw [show 7 * 4 = 28 from rfl] at hx159_2); (try rw [show ((7 : Int)).toNat = 7 from rfl] at hx159_3); (try rw [show 7 * 4 = 28 from rfl] at hx159_3); replace p159 := eq_true p159; replace q159 := eq_true q159))
                        go_ret
                        exact ⟨by first | rfl | (simp [errW_none, errW_some] <;> rfl) | (simp [*, errW_none, errW_some] <;> rfl), by repeat (first | (with_reducible first | exact HB.out | apply below_alloc | apply pw_below_drewN | apply below_drew1) | exact HB.out)⟩
                    · rw [if_neg c11] at H
                      have c11b0 : (((rd_T37 t151 7).f0) == 0) = false := beq_eq_false_iff_ne.mpr c11
                      have c11b1 : (((rd_T37 t151 7).f0) != 0) = true := bne_iff_ne.mpr c11
                      obtain rfl := Option.some.inj H
                      go_enter Tryd.func10, Tryd.ntmps10
                      go_wp2_with (first | ((with_reducible refine gate_callee (f := 13) rfl ?_); refine goesL_ (some 2) rfl rfl Tryd.func13 (by kernel_rfl) rfl #[.string (⟨#[120, 49, 32, 61, 32, 97, 60, 61, 45, 51, 59, 47, 47, 32, 101, 110, 100]⟩ : ByteArray)] rfl (by (try simp only [List.map_toArray, List.map_cons, List.map_nil]); first | done | rfl | (simp only [List.length_drop, List.length_take]; rfl)) ?_; (with_reducible refine (lexer_Scan.calls k (⟨#[120, 49, 32, 61, 32, 97, 60, 61, 45, 51, 59, 47, 47, 32, 101, 110, 100]⟩ : ByteArray) t151 _ ?side1 A1.out).mono ?_); (case side1 => refine GW.below HG.out ?_; repeat (first | (with_reducible first | exact HB.out | apply below_alloc | apply pw_below_drewN | apply below_drew1) | exact HB.out)); rintro e w19 ⟨v152, rfl, ho0, hb⟩; refine ⟨_, rfl, ?_⟩; have n0_ := Aside0.mk (Kd.R_lower ho0 (below_size (by repeat (first | (with_reducible first | exact HB.out | apply below_alloc | apply pw_below_drewN | apply below_drew1) | exact HB.out)))); have n1_ := Aside0.mk (below_step (by repeat (first | (with_reducible first | exact HB.out | apply below_alloc | apply pw_below_drewN | apply below_drew1) | exact HB.out)) hb); clear HB; have HO153 := n0_; have HB := n1_; clear n0_ n1_; (try clear hb); (try clear hb2); (try clear hk); (try clear hi); (try clear ho0); obtain ⟨Ao20, co20, eo20⟩ := Kd.R_slice HO153.out; subst eo20; have p154 : 0 ≤ (0 : Int) := (by omega); have q154 : 0 < (t151.length : Int) := of_decide_eq_true (by first | (with_reducible assumption) | assumption); obtain ⟨ad154, e154, hx154_0, hx154_1, hx154_2, hx154_3⟩ := at_T37 (Kd.R_reads' HO153.out).2.2 0 p154 q154; cases e154; have qi154 : (0 < t151.length) = True := eq_true (by omega); (try rw [show ((0 : Int)).toNat = 0 from rfl] at hx154_0); (try rw [show 0 * 4 = 0 from rfl] at hx154_0); (try rw [Addr.add_zero'] at hx154_0); (try rw [show ((0 : Int)).toNat = 0 from rfl] at hx154_1); (try rw [show 0 * 4 = 0 from rfl] at hx154_1); (try rw [Addr.add_zero'] at hx154_1); (try rw [show ((0 : Int)).toNat = 0 from rfl] at hx154_2); (try rw [show 0 * 4 = 0 from rfl] at hx154_2); (try rw [Addr.add_zero'] at hx154_2); (try rw [show ((0 : Int)).toNat = 0 from rfl] at hx154_3); (try rw [show 0 * 4 = 0 from rfl] at hx154_3); (try rw [Addr.add_zero'] at hx154_3); replace p154 := eq_true p154; replace q154 := eq_true q154; have p155 : 0 ≤ (3 : Int) := (by omega); have q155 : 3 < (t151.length : Int) := of_decide_eq_true (by first | (with_reducible assumption) | assumption); obtain ⟨ad155, e155, hx155_0, hx155_1, hx155_2, hx155_3⟩ := at_T37 (Kd.R_reads' HO153.out).2.2 3 p155 q155; obtain rfl : ad154 = ad155 := (by injection e155); (try simp only [show (3 : Int).toNat = 3 from rfl, Nat.reduceMul, Nat.reduceEqDiff, Go.Addr.add, ↓reduceIte] at hx155_0); (try simp only [show (3 : Int).toNat = 3 from rfl, Nat.reduceMul, Nat.reduceEqDiff, Go.Addr.add, ↓reduceIte] at hx155_1); (try simp only [show (3 : Int).toNat = 3 from rfl, Nat.reduceMul, Nat.reduceEqDiff, Go.Addr.add, ↓reduceIte] at hx155_2); (try simp only [show (3 : Int).toNat = 3 from rfl, Nat.reduceMul, Nat.reduceEqDiff, Go.Addr.add, ↓reduceIte] at hx155_3); have qi155 : (3 < t151.length) = True := eq_true (by omega); (try rw [show ((3 : Int)).toNat = 3 from rfl] at hx155_0); (try rw [show 3 * 4 = 12 from rfl] at hx155_0); (try rw [show ((3 : Int)).toNat = 3 from rfl] at hx155_1); (try rw [show 3 * 4 = 12 from rfl] at hx155_1); (try rw [show ((3 : Int)).toNat = 3 from rfl] at hx155_2); (try rw [show 3 * 4 = 12 from rfl] at hx155_2); (try rw [show ((3 : Int)).toNat = 3 from rfl] at hx155_3); (try rw [show 3 * 4 = 12 from rfl] at hx155_3); replace p155 := eq_true p155; replace q155 := eq_true q155; have p156 : 0 ≤ (5 : Int) := (by omega); have q156 : 5 < (t151.length : Int) := of_decide_eq_true (by first | (with_reducible assumption) | assumption); obtain ⟨ad156, e156, hx156_0, hx156_1, hx156_2, hx156_3⟩ := at_T37 (Kd.R_reads' HO153.out).2.2 5 p156 q156; obtain rfl : ad154 = ad156 := (by injection e156); (try simp only [show (5 : Int).toNat = 5 from rfl, Nat.reduceMul, Nat.reduceEqDiff, Go.Addr.add, ↓reduceIte] at hx156_0); (try simp only [show (5 : Int).toNat = 5 from rfl, Nat.reduceMul, Nat.reduceEqDiff, Go.Addr.add, ↓reduceIte] at hx156_1); (try simp only [show (5 : Int).toNat = 5 from rfl, Nat.reduceMul, Nat.reduceEqDiff, Go.Addr.add, ↓reduceIte] at hx156_2); (try simp only [show (5 : Int).toNat = 5 from rfl, Nat.reduceMul, Nat.reduceEqDiff, Go.Addr.add, ↓reduceIte] at hx156_3); have qi156 : (5 < t151.length) = True := eq_true (by omega); (try rw [show ((5 : Int)).toNat = 5 from rfl] at hx156_0); (try rw [show 5 * 4 = 20 from rfl] at hx156_0); (try rw [show ((5 : Int)).toNat = 5 from rfl] at hx156_1); (try rw [show 5 * 4 = 20 from rfl] at hx156_1); (try rw [show ((5 : Int)).toNat = 5 from rfl] at hx156_2); (try rw [show 5 * 4 = 20 from rfl] at hx156_2); (try rw [show ((5 : Int)).toNat = 5 from rfl] at hx156_3); (try rw [show 5 * 4 = 20 from rfl] at hx156_3); replace p156 := eq_true p156; replace q156 := eq_true q156; have p157 : 0 ≤ (5 : Int) := (by omega); have q157 : 5 < (t151.length : Int) := of_decide_eq_true (by first | (with_reducible assumption) | assumption); obtain ⟨ad157, e157, hx157_0, hx157_1, hx157_2, hx157_3⟩ := at_T37 (Kd.R_reads' HO153.out).2.2 5 p157 q157; obtain rfl : ad154 = ad157 := (by injection e157); (try simp only [show (5 : Int).toNat = 5 from rfl, Nat.reduceMul, Nat.reduceEqDiff, Go.Addr.add, ↓reduceIte] at hx157_0); (try simp only [show (5 : Int).toNat = 5 from rfl, Nat.reduceMul, Nat.reduceEqDiff, Go.Addr.add, ↓reduceIte] at hx157_1); (try simp only [show (5 : Int).toNat = 5 from rfl, Nat.reduceMul, Nat.reduceEqDiff, Go.Addr.add, ↓reduceIte] at hx157_2); (try simp only [show (5 : Int).toNat = 5 from rfl, Nat.reduceMul, Nat.reduceEqDiff, Go.Addr.add, ↓reduceIte] at hx157_3); have qi157 : (5 < t151.length) = True := eq_true (by omega); (try rw [show ((5 : Int)).toNat = 5 from rfl] at hx157_0); (try rw [show 5 * 4 = 20 from rfl] at hx157_0); (try rw [show ((5 : Int)).toNat = 5 from rfl] at hx157_1); (try rw [show 5 * 4 = 20 from rfl] at hx157_1); (try rw [show ((5 : Int)).toNat = 5 from rfl] at hx157_2); (try rw [show 5 * 4 = 20 from rfl] at hx157_2); (try rw [show ((5 : Int)).toNat = 5 from rfl] at hx157_3); (try rw [show 5 * 4 = 20 from rfl] at hx157_3); replace p157 := eq_true p157; replace q157 := eq_true q157; have p158 : 0 ≤ (7 : Int) := (by omega); have q158 : 7 < (t151.length : Int) := of_decide_eq_true (by first | (with_reducible assumption) | assumption); obtain ⟨ad158, e158, hx158_0, hx158_1, hx158_2, hx158_3⟩ := at_T37 (Kd.R_reads' HO153.out).2.2 7 p158 q158; obtain rfl : ad154 = ad158 := (by injection e158); (try simp only [show (7 : Int).toNat = 7 from rfl, Nat.reduceMul, Nat.reduceEqDiff, Go.Addr.add, ↓reduceIte] at hx158_0); (try simp only [show (7 : Int).toNat = 7 from rfl, Nat.reduceMul, Nat.reduceEqDiff, Go.Addr.add, ↓reduceIte] at hx158_1); (try simp only [show (7 : Int).toNat = 7 from rfl, Nat.reduceMul, Nat.reduceEqDiff, Go.Addr.add, ↓reduceIte] at hx158_2); (try simp only [show (7 : Int).toNat = 7 from rfl, Nat.reduceMul, Nat.reduceEqDiff, Go.Addr.add, ↓reduceIte] at hx158_3); have qi158 : (7 < t151.length) = True := eq_true (by omega); (try rw [show ((7 : Int)).toNat = 7 from rfl] at hx158_0); (try rw [show 7 * 4 = 28 from rfl] at hx158_0); (try rw [show ((7 : Int)).toNat = 7 from rfl] at hx158_1); (try rw [show 7 * 4 = 28 from rfl] at hx158_1); (try rw [show ((7 : Int)).toNat = 7 from rfl] at hx158_2); (try rw [show 7 * 4 = 28 from rfl] at hx158_2); (try rw [show ((7 : Int)).toNat = 7 from rfl] at hx158_3); (try rw [show 7 * 4 = 28 from rfl] at hx158_3); replace p158 := eq_true p158; replace q158 := eq_true q158))
                      go_ret
                      exact ⟨by first | rfl | (simp [errW_none, errW_some] <;> rfl) | (simp [*, errW_none, errW_some] <;> rfl), by repeat (first | (with_reducible first | exact HB.out | apply below_alloc | apply pw_below_drewN | apply below_drew1) | exact HB.out)⟩
                  · rw [if_neg c10] at H
                    exact absurd H (by simp)
                · rw [if_neg c9] at H
                  have c9b0 : (((rd_T37 t151 5).f3) == 9) = false := beq_eq_false_iff_ne.mpr c9
                  have c9b1 : (((rd_T37 t151 5).f3) != 9) = true := bne_iff_ne.mpr c9
                  obtain rfl := Option.some.inj H
                  go_enter Tryd.func10, Tryd.ntmps10
                  go_wp2_with (first | ((with_reducible refine gate_callee (f := 13) rfl ?_); refine goesL_ (some 2) rfl rfl Tryd.func13 (by kernel_rfl) rfl #[.string (⟨#[120, 49, 32, 61, 32, 97, 60, 61, 45, 51, 59, 47, 47, 32, 101, 110, 100]⟩ : ByteArray)] rfl (by (try simp only [List.map_toArray, List.map_cons, List.map_nil]); first | done | rfl | (simp only [List.length_drop, List.length_take]; rfl)) ?_; (with_reducible refine (lexer_Scan.calls k (⟨#[120, 49, 32, 61, 32, 97, 60, 61, 45, 51, 59, 47, 47, 32, 101, 110, 100]⟩ : ByteArray) t151 _ ?side1 A1.out).mono ?_); (case side1 => refine GW.below HG.out ?_; repeat (first | (with_reducible first | exact HB.out | apply below_alloc | apply pw_below_drewN | apply below_drew1) | exact HB.out)); rintro e w21 ⟨v152, rfl, ho0, hb⟩; refine ⟨_, rfl, ?_⟩; have n0_ := Aside0.mk (Kd.R_lower ho0 (below_size (by repeat (first | (with_reducible first | exact HB.out | apply below_alloc | apply pw_below_drewN | apply below_drew1) | exact HB.out)))); have n1_ := Aside0.mk (below_step (by repeat (first | (with_reducible first | exact HB.out | apply below_alloc | apply pw_below_drewN | apply below_drew1) | exact HB.out)) hb); clear HB; have HO153 := n0_; have HB := n1_; clear n0_ n1_; (try clear hb); (try clear hb2); (try clear hk); (try clear hi); (try clear ho0); obtain ⟨Ao22, co22, eo22⟩ := Kd.R_slice HO153.out; subst eo22; have p154 : 0 ≤ (0 : Int) := (by omega); have q154 : 0 < (t151.length : Int) := of_decide_eq_true (by first | (with_reducible assumption) | assumption); obtain ⟨ad154, e154, hx154_0, hx154_1, hx154_2, hx154_3⟩ := at_T37 (Kd.R_reads' HO153.out).2.2 0 p154 q154; cases e154; have qi154 : (0 < t151.length) = True := eq_true (by omega); (try rw [show ((0 : Int)).toNat = 0 from rfl] at hx154_0); (try rw [show 0 * 4 = 0 from rfl] at hx154_0); (try rw [Addr.add_zero'] at hx154_0); (try rw [show ((0 : Int)).toNat = 0 from rfl] at hx154_1); (try rw [show 0 * 4 = 0 from rfl] at hx154_1); (try rw [Addr.add_zero'] at hx154_1); (try rw [show ((0 : Int)).toNat = 0 from rfl] at hx154_2); (try rw [show 0 * 4 = 0 from rfl] at hx154_2); (try rw [Addr.add_zero'] at hx154_2); (try rw [show ((0 : Int)).toNat = 0 from rfl] at hx154_3); (try rw [show 0 * 4 = 0 from rfl] at hx154_3); (try rw [Addr.add_zero'] at hx154_3); replace p154 := eq_true p154; replace q154 := eq_true q154; have p155 : 0 ≤ (3 : Int) := (by omega); have q155 : 3 < (t151.length : Int) := of_decide_eq_true (by first | (with_reducible assumption) | assumption); obtain ⟨ad155, e155, hx155_0, hx155_1, hx155_2, hx155_3⟩ := at_T37 (Kd.R_reads' HO153.out).2.2 3 p155 q155; obtain rfl : ad154 = ad155 := (by injection e155); (try simp only [show (3 : Int).toNat = 3 from rfl, Nat.reduceMul, Nat.reduceEqDiff, Go.Addr.add, ↓reduceIte] at hx155_0); (try simp only [show (3 : Int).toNat = 3 from rfl, Nat.reduceMul, Nat.reduceEqDiff, Go.Addr.add, ↓reduceIte] at hx155_1); (try simp only [show (3 : Int).toNat = 3 from rfl, Nat.reduceMul, Nat.reduceEqDiff, Go.Addr.add, ↓reduceIte] at hx155_2); (try simp only [show (3 : Int).toNat = 3 from rfl, Nat.reduceMul, Nat.reduceEqDiff, Go.Addr.add, ↓reduceIte] at hx155_3); have qi155 : (3 < t151.length) = True := eq_true (by omega); (try rw [show ((3 : Int)).toNat = 3 from rfl] at hx155_0); (try rw [show 3 * 4 = 12 from rfl] at hx155_0); (try rw [show ((3 : Int)).toNat = 3 from rfl] at hx155_1); (try rw [show 3 * 4 = 12 from rfl] at hx155_1); (try rw [show ((3 : Int)).toNat = 3 from rfl] at hx155_2); (try rw [show 3 * 4 = 12 from rfl] at hx155_2); (try rw [show ((3 : Int)).toNat = 3 from rfl] at hx155_3); (try rw [show 3 * 4 = 12 from rfl] at hx155_3); replace p155 := eq_true p155; replace q155 := eq_true q155; have p156 : 0 ≤ (5 : Int) := (by omega); have q156 : 5 < (t151.length : Int) := of_decide_eq_true (by first | (with_reducible assumption) | assumption); obtain ⟨ad156, e156, hx156_0, hx156_1, hx156_2, hx156_3⟩ := at_T37 (Kd.R_reads' HO153.out).2.2 5 p156 q156; obtain rfl : ad154 = ad156 := (by injection e156); (try simp only [show (5 : Int).toNat = 5 from rfl, Nat.reduceMul, Nat.reduceEqDiff, Go.Addr.add, ↓reduceIte] at hx156_0); (try simp only [show (5 : Int).toNat = 5 from rfl, Nat.reduceMul, Nat.reduceEqDiff, Go.Addr.add, ↓reduceIte] at hx156_1); (try simp only [show (5 : Int).toNat = 5 from rfl, Nat.reduceMul, Nat.reduceEqDiff, Go.Addr.add, ↓reduceIte] at hx156_2); (try simp only [show (5 : Int).toNat = 5 from rfl, Nat.reduceMul, Nat.reduceEqDiff, Go.Addr.add, ↓reduceIte] at hx156_3); have qi156 : (5 < t151.length) = True := eq_true (by omega); (try rw [show ((5 : Int)).toNat = 5 from rfl] at hx156_0); (try rw [show 5 * 4 = 20 from rfl] at hx156_0); (try rw [show ((5 : Int)).toNat = 5 from rfl] at hx156_1); (try rw [show 5 * 4 = 20 from rfl] at hx156_1); (try rw [show ((5 : Int)).toNat = 5 from rfl] at hx156_2); (try rw [show 5 * 4 = 20 from rfl] at hx156_2); (try rw [show ((5 : Int)).toNat = 5 from rfl] at hx156_3); (try rw [show 5 * 4 = 20 from rfl] at hx156_3); replace p156 := eq_true p156; replace q156 := eq_true q156; have p157 : 0 ≤ (5 : Int) := (by omega); have q157 : 5 < (t151.length : Int) := of_decide_eq_true (by first | (with_reducible assumption) | assumption); obtain ⟨ad157, e157, hx157_0, hx157_1, hx157_2, hx157_3⟩ := at_T37 (Kd.R_reads' HO153.out).2.2 5 p157 q157; obtain rfl : ad154 = ad157 := (by injection e157); (try simp only [show (5 : Int).toNat = 5 from rfl, Nat.reduceMul, Nat.reduceEqDiff, Go.Addr.add, ↓reduceIte] at hx157_0); (try simp only [show (5 : Int).toNat = 5 from rfl, Nat.reduceMul, Nat.reduceEqDiff, Go.Addr.add, ↓reduceIte] at hx157_1); (try simp only [show (5 : Int).toNat = 5 from rfl, Nat.reduceMul, Nat.reduceEqDiff, Go.Addr.add, ↓reduceIte] at hx157_2); (try simp only [show (5 : Int).toNat = 5 from rfl, Nat.reduceMul, Nat.reduceEqDiff, Go.Addr.add, ↓reduceIte] at hx157_3); have qi157 : (5 < t151.length) = True := eq_true (by omega); (try rw [show ((5 : Int)).toNat = 5 from rfl] at hx157_0); (try rw [show 5 * 4 = 20 from rfl] at hx157_0); (try rw [show ((5 : Int)).toNat = 5 from rfl] at hx157_1); (try rw [show 5 * 4 = 20 from rfl] at hx157_1); (try rw [show ((5 : Int)).toNat = 5 from rfl] at hx157_2); (try rw [show 5 * 4 = 20 from rfl] at hx157_2); (try rw [show ((5 : Int)).toNat = 5 from rfl] at hx157_3); (try rw [show 5 * 4 = 20 from rfl] at hx157_3); replace p157 := eq_true p157; replace q157 := eq_true q157))
                  go_ret
                  exact ⟨by first | rfl | (simp [errW_none, errW_some] <;> rfl) | (simp [*, errW_none, errW_some] <;> rfl), by repeat (first | (with_reducible first | exact HB.out | apply below_alloc | apply pw_below_drewN | apply below_drew1) | exact HB.out)⟩
              · rw [if_neg c8] at H
                have c8b0 : (((rd_T37 t151 5).f2) == 3) = false := beq_eq_false_iff_ne.mpr c8
                have c8b1 : (((rd_T37 t151 5).f2) != 3) = true := bne_iff_ne.mpr c8
                obtain rfl := Option.some.inj H
                go_enter Tryd.func10, Tryd.ntmps10
                go_wp2_with (first | ((with_reducible refine gate_callee (f := 13) rfl ?_); refine goesL_ (some 2) rfl rfl Tryd.func13 (by kernel_rfl) rfl #[.string (⟨#[120, 49, 32, 61, 32, 97, 60, 61, 45, 51, 59, 47, 47, 32, 101, 110, 100]⟩ : ByteArray)] rfl (by (try simp only [List.map_toArray, List.map_cons, List.map_nil]); first | done | rfl | (simp only [List.length_drop, List.length_take]; rfl)) ?_; (with_reducible refine (lexer_Scan.calls k (⟨#[120, 49, 32, 61, 32, 97, 60, 61, 45, 51, 59, 47, 47, 32, 101, 110, 100]⟩ : ByteArray) t151 _ ?side1 A1.out).mono ?_); (case side1 => refine GW.below HG.out ?_; repeat (first | (with_reducible first | exact HB.out | apply below_alloc | apply pw_below_drewN | apply below_drew1) | exact HB.out)); rintro e w23 ⟨v152, rfl, ho0, hb⟩; refine ⟨_, rfl, ?_⟩; have n0_ := Aside0.mk (Kd.R_lower ho0 (below_size (by repeat (first | (with_reducible first | exact HB.out | apply below_alloc | apply pw_below_drewN | apply below_drew1) | exact HB.out)))); have n1_ := Aside0.mk (below_step (by repeat (first | (with_reducible first | exact HB.out | apply below_alloc | apply pw_below_drewN | apply below_drew1) | exact HB.out)) hb); clear HB; have HO153 := n0_; have HB := n1_; clear n0_ n1_; (try clear hb); (try clear hb2); (try clear hk); (try clear hi); (try clear ho0); obtain ⟨Ao24, co24, eo24⟩ := Kd.R_slice HO153.out; subst eo24; have p154 : 0 ≤ (0 : Int) := (by omega); have q154 : 0 < (t151.length : Int) := of_decide_eq_true (by first | (with_reducible assumption) | assumption); obtain ⟨ad154, e154, hx154_0, hx154_1, hx154_2, hx154_3⟩ := at_T37 (Kd.R_reads' HO153.out).2.2 0 p154 q154; cases e154; have qi154 : (0 < t151.length) = True := eq_true (by omega); (try rw [show ((0 : Int)).toNat = 0 from rfl] at hx154_0); (try rw [show 0 * 4 = 0 from rfl] at hx154_0); (try rw [Addr.add_zero'] at hx154_0); (try rw [show ((0 : Int)).toNat = 0 from rfl] at hx154_1); (try rw [show 0 * 4 = 0 from rfl] at hx154_1); (try rw [Addr.add_zero'] at hx154_1); (try rw [show ((0 : Int)).toNat = 0 from rfl] at hx154_2); (try rw [show 0 * 4 = 0 from rfl] at hx154_2); (try rw [Addr.add_zero'] at hx154_2); (try rw [show ((0 : Int)).toNat = 0 from rfl] at hx154_3); (try rw [show 0 * 4 = 0 from rfl] at hx154_3); (try rw [Addr.add_zero'] at hx154_3); replace p154 := eq_true p154; replace q154 := eq_true q154; have p155 : 0 ≤ (3 : Int) := (by omega); have q155 : 3 < (t151.length : Int) := of_decide_eq_true (by first | (with_reducible assumption) | assumption); obtain ⟨ad155, e155, hx155_0, hx155_1, hx155_2, hx155_3⟩ := at_T37 (Kd.R_reads' HO153.out).2.2 3 p155 q155; obtain rfl : ad154 = ad155 := (by injection e155); (try simp only [show (3 : Int).toNat = 3 from rfl, Nat.reduceMul, Nat.reduceEqDiff, Go.Addr.add, ↓reduceIte] at hx155_0); (try simp only [show (3 : Int).toNat = 3 from rfl, Nat.reduceMul, Nat.reduceEqDiff, Go.Addr.add, ↓reduceIte] at hx155_1); (try simp only [show (3 : Int).toNat = 3 from rfl, Nat.reduceMul, Nat.reduceEqDiff, Go.Addr.add, ↓reduceIte] at hx155_2); (try simp only [show (3 : Int).toNat = 3 from rfl, Nat.reduceMul, Nat.reduceEqDiff, Go.Addr.add, ↓reduceIte] at hx155_3); have qi155 : (3 < t151.length) = True := eq_true (by omega); (try rw [show ((3 : Int)).toNat = 3 from rfl] at hx155_0); (try rw [show 3 * 4 = 12 from rfl] at hx155_0); (try rw [show ((3 : Int)).toNat = 3 from rfl] at hx155_1); (try rw [show 3 * 4 = 12 from rfl] at hx155_1); (try rw [show ((3 : Int)).toNat = 3 from rfl] at hx155_2); (try rw [show 3 * 4 = 12 from rfl] at hx155_2); (try rw [show ((3 : Int)).toNat = 3 from rfl] at hx155_3); (try rw [show 3 * 4 = 12 from rfl] at hx155_3); replace p155 := eq_true p155; replace q155 := eq_true q155; have p156 : 0 ≤ (5 : Int) := (by omega); have q156 : 5 < (t151.length : Int) := of_decide_eq_true (by first | (with_reducible assumption) | assumption); obtain ⟨ad156, e156, hx156_0, hx156_1, hx156_2, hx156_3⟩ := at_T37 (Kd.R_reads' HO153.out).2.2 5 p156 q156; obtain rfl : ad154 = ad156 := (by injection e156); (try simp only [show (5 : Int).toNat = 5 from rfl, Nat.reduceMul, Nat.reduceEqDiff, Go.Addr.add, ↓reduceIte] at hx156_0); (try simp only [show (5 : Int).toNat = 5 from rfl, Nat.reduceMul, Nat.reduceEqDiff, Go.Addr.add, ↓reduceIte] at hx156_1); (try simp only [show (5 : Int).toNat = 5 from rfl, Nat.reduceMul, Nat.reduceEqDiff, Go.Addr.add, ↓reduceIte] at hx156_2); (try simp only [show (5 : Int).toNat = 5 from rfl, Nat.reduceMul, Nat.reduceEqDiff, Go.Addr.add, ↓reduceIte] at hx156_3); have qi156 : (5 < t151.length) = True := eq_true (by omega); (try rw [show ((5 : Int)).toNat = 5 from rfl] at hx156_0); (try rw [show 5 * 4 = 20 from rfl] at hx156_0); (try rw [show ((5 : Int)).toNat = 5 from rfl] at hx156_1); (try rw [show 5 * 4 = 20 from rfl] at hx156_1); (try rw [show ((5 : Int)).toNat = 5 from rfl] at hx156_2); (try rw [show 5 * 4 = 20 from rfl] at hx156_2); (try rw [show ((5 : Int)).toNat = 5 from rfl] at hx156_3); (try rw [show 5 * 4 = 20 from rfl] at hx156_3); replace p156 := eq_true p156; replace q156 := eq_true q156))
                go_ret
                exact ⟨by first | rfl | (simp [errW_none, errW_some] <;> rfl) | (simp [*, errW_none, errW_some] <;> rfl), by repeat (first | (with_reducible first | exact HB.out | apply below_alloc | apply pw_below_drewN | apply below_drew1) | exact HB.out)⟩
            · rw [if_neg c7] at H
              exact absurd H (by simp)
          · rw [if_neg c6] at H
            have c6b0 : (((rd_T37 t151 3).f1).toList == ([60, 61] : List UInt8)) = false := beq_eq_false_iff_ne.mpr c6
            have c6b1 : (((rd_T37 t151 3).f1).toList != ([60, 61] : List UInt8)) = true := bne_iff_ne.mpr c6
            obtain rfl := Option.some.inj H
            go_enter Tryd.func10, Tryd.ntmps10
            go_wp2_with (first | ((with_reducible refine gate_callee (f := 13) rfl ?_); refine goesL_ (some 2) rfl rfl Tryd.func13 (by kernel_rfl) rfl #[.string (⟨#[120, 49, 32, 61, 32, 97, 60, 61, 45, 51, 59, 47, 47, 32, 101, 110, 100]⟩ : ByteArray)] rfl (by (try simp only [List.map_toArray, List.map_cons, List.map_nil]); first | done | rfl | (simp only [List.length_drop, List.length_take]; rfl)) ?_; (with_reducible refine (lexer_Scan.calls k (⟨#[120, 49, 32, 61, 32, 97, 60, 61, 45, 51, 59, 47, 47, 32, 101, 110, 100]⟩ : ByteArray) t151 _ ?side1 A1.out).mono ?_); (case side1 => refine GW.below HG.out ?_; repeat (first | (with_reducible first | exact HB.out | apply below_alloc | apply pw_below_drewN | apply below_drew1) | exact HB.out)); rintro e w25 ⟨v152, rfl, ho0, hb⟩; refine ⟨_, rfl, ?_⟩; have n0_ := Aside0.mk (Kd.R_lower ho0 (below_size (by repeat (first | (with_reducible first | exact HB.out | apply below_alloc | apply pw_below_drewN | apply below_drew1) | exact HB.out)))); have n1_ := Aside0.mk (below_step (by repeat (first | (with_reducible first | exact HB.out | apply below_alloc | apply pw_below_drewN | apply below_drew1) | exact HB.out)) hb); clear HB; have HO153 := n0_; have HB := n1_; clear n0_ n1_; (try clear hb); (try clear hb2); (try clear hk); (try clear hi); (try clear ho0); obtain ⟨Ao26, co26, eo26⟩ := Kd.R_slice HO153.out; subst eo26; have p154 : 0 ≤ (0 : Int) := (by omega); have q154 : 0 < (t151.length : Int) := of_decide_eq_true (by first | (with_reducible assumption) | assumption); obtain ⟨ad154, e154, hx154_0, hx154_1, hx154_2, hx154_3⟩ := at_T37 (Kd.R_reads' HO153.out).2.2 0 p154 q154; cases e154; have qi154 : (0 < t151.length) = True := eq_true (by omega); (try rw [show ((0 : Int)).toNat = 0 from rfl] at hx154_0); (try rw [show 0 * 4 = 0 from rfl] at hx154_0); (try rw [Addr.add_zero'] at hx154_0); (try rw [show ((0 : Int)).toNat = 0 from rfl] at hx154_1); (try rw [show 0 * 4 = 0 from rfl] at hx154_1); (try rw [Addr.add_zero'] at hx154_1); (try rw [show ((0 : Int)).toNat = 0 from rfl] at hx154_2); (try rw [show 0 * 4 = 0 from rfl] at hx154_2); (try rw [Addr.add_zero'] at hx154_2); (try rw [show ((0 : Int)).toNat = 0 from rfl] at hx154_3); (try rw [show 0 * 4 = 0 from rfl] at hx154_3); (try rw [Addr.add_zero'] at hx154_3); replace p154 := eq_true p154; replace q154 := eq_true q154; have p155 : 0 ≤ (3 : Int) := (by omega); have q155 : 3 < (t151.length : Int) := of_decide_eq_true (by first | (with_reducible assumption) | assumption); obtain ⟨ad155, e155, hx155_0, hx155_1, hx155_2, hx155_3⟩ := at_T37 (Kd.R_reads' HO153.out).2.2 3 p155 q155; obtain rfl : ad154 = ad155 := (by injection e155); (try simp only [show (3 : Int).toNat = 3 from rfl, Nat.reduceMul, Nat.reduceEqDiff, Go.Addr.add, ↓reduceIte] at hx155_0); (try simp only [show (3 : Int).toNat = 3 from rfl, Nat.reduceMul, Nat.reduceEqDiff, Go.Addr.add, ↓reduceIte] at hx155_1); (try simp only [show (3 : Int).toNat = 3 from rfl, Nat.reduceMul, Nat.reduceEqDiff, Go.Addr.add, ↓reduceIte] at hx155_2); (try simp only [show (3 : Int).toNat = 3 from rfl, Nat.reduceMul, Nat.reduceEqDiff, Go.Addr.add, ↓reduceIte] at hx155_3); have qi155 : (3 < t151.length) = True := eq_true (by omega); (try rw [show ((3 : Int)).toNat = 3 from rfl] at hx155_0); (try rw [show 3 * 4 = 12 from rfl] at hx155_0); (try rw [show ((3 : Int)).toNat = 3 from rfl] at hx155_1); (try rw [show 3 * 4 = 12 from rfl] at hx155_1); (try rw [show ((3 : Int)).toNat = 3 from rfl] at hx155_2); (try rw [show 3 * 4 = 12 from rfl] at hx155_2); (try rw [show ((3 : Int)).toNat = 3 from rfl] at hx155_3); (try rw [show 3 * 4 = 12 from rfl] at hx155_3); replace p155 := eq_true p155; replace q155 := eq_true q155))
            go_ret
            exact ⟨by first | rfl | (simp [errW_none, errW_some] <;> rfl) | (simp [*, errW_none, errW_some] <;> rfl), by repeat (first | (with_reducible first | exact HB.out | apply below_alloc | apply pw_below_drewN | apply below_drew1) | exact HB.out)⟩
        · rw [if_neg c5] at H
          exact absurd H (by simp)
      · rw [if_neg c4] at H
        have c4b0 : (((rd_T37 t151 0).f1).toList == ([120, 49] : List UInt8)) = false := beq_eq_false_iff_ne.mpr c4
        have c4b1 : (((rd_T37 t151 0).f1).toList != ([120, 49] : List UInt8)) = true := bne_iff_ne.mpr c4
        obtain rfl := Option.some.inj H
        go_enter Tryd.func10, Tryd.ntmps10
        go_wp2_with (first | ((with_reducible refine gate_callee (f := 13) rfl ?_); refine goesL_ (some 2) rfl rfl Tryd.func13 (by kernel_rfl) rfl #[.string (⟨#[120, 49, 32, 61, 32, 97, 60, 61, 45, 51, 59, 47, 47, 32, 101, 110, 100]⟩ : ByteArray)] rfl (by (try simp only [List.map_toArray, List.map_cons, List.map_nil]); first | done | rfl | (simp only [List.length_drop, List.length_take]; rfl)) ?_; (with_reducible refine (lexer_Scan.calls k (⟨#[120, 49, 32, 61, 32, 97, 60, 61, 45, 51, 59, 47, 47, 32, 101, 110, 100]⟩ : ByteArray) t151 _ ?side1 A1.out).mono ?_); (case side1 => refine GW.below HG.out ?_; repeat (first | (with_reducible first | exact HB.out | apply below_alloc | apply pw_below_drewN | apply below_drew1) | exact HB.out)); rintro e w27 ⟨v152, rfl, ho0, hb⟩; refine ⟨_, rfl, ?_⟩; have n0_ := Aside0.mk (Kd.R_lower ho0 (below_size (by repeat (first | (with_reducible first | exact HB.out | apply below_alloc | apply pw_below_drewN | apply below_drew1) | exact HB.out)))); have n1_ := Aside0.mk (below_step (by repeat (first | (with_reducible first | exact HB.out | apply below_alloc | apply pw_below_drewN | apply below_drew1) | exact HB.out)) hb); clear HB; have HO153 := n0_; have HB := n1_; clear n0_ n1_; (try clear hb); (try clear hb2); (try clear hk); (try clear hi); (try clear ho0); obtain ⟨Ao28, co28, eo28⟩ := Kd.R_slice HO153.out; subst eo28; have p154 : 0 ≤ (0 : Int) := (by omega); have q154 : 0 < (t151.length : Int) := of_decide_eq_true (by first | (with_reducible assumption) | assumption); obtain ⟨ad154, e154, hx154_0, hx154_1, hx154_2, hx154_3⟩ := at_T37 (Kd.R_reads' HO153.out).2.2 0 p154 q154; cases e154; have qi154 : (0 < t151.length) = True := eq_true (by omega); (try rw [show ((0 : Int)).toNat = 0 from rfl] at hx154_0); (try rw [show 0 * 4 = 0 from rfl] at hx154_0); (try rw [Addr.add_zero'] at hx154_0); (try rw [show ((0 : Int)).toNat = 0 from rfl] at hx154_1); (try rw [show 0 * 4 = 0 from rfl] at hx154_1); (try rw [Addr.add_zero'] at hx154_1); (try rw [show ((0 : Int)).toNat = 0 from rfl] at hx154_2); (try rw [show 0 * 4 = 0 from rfl] at hx154_2); (try rw [Addr.add_zero'] at hx154_2); (try rw [show ((0 : Int)).toNat = 0 from rfl] at hx154_3); (try rw [show 0 * 4 = 0 from rfl] at hx154_3); (try rw [Addr.add_zero'] at hx154_3); replace p154 := eq_true p154; replace q154 := eq_true q154))
        go_ret
        exact ⟨by first | rfl | (simp [errW_none, errW_some] <;> rfl) | (simp [*, errW_none, errW_some] <;> rfl), by repeat (first | (with_reducible first | exact HB.out | apply below_alloc | apply pw_below_drewN | apply below_drew1) | exact HB.out)⟩
    · rw [if_neg c3] at H
      exact absurd H (by simp)
  · rw [if_neg c2] at H
    have c2b0 : ((t151.length : Int) == 8) = false := beq_eq_false_iff_ne.mpr c2
    have c2b1 : ((t151.length : Int) != 8) = true := bne_iff_ne.mpr c2
    obtain rfl := Option.some.inj H
    go_enter Tryd.func10, Tryd.ntmps10
    go_wp2_with (first | ((with_reducible refine gate_callee (f := 13) rfl ?_); refine goesL_ (some 2) rfl rfl Tryd.func13 (by kernel_rfl) rfl #[.string (⟨#[120, 49, 32, 61, 32, 97, 60, 61, 45, 51, 59, 47, 47, 32, 101, 110, 100]⟩ : ByteArray)] rfl (by (try simp only [List.map_toArray, List.map_cons, List.map_nil]); first | done | rfl | (simp only [List.length_drop, List.length_take]; rfl)) ?_; (with_reducible refine (lexer_Scan.calls k (⟨#[120, 49, 32, 61, 32, 97, 60, 61, 45, 51, 59, 47, 47, 32, 101, 110, 100]⟩ : ByteArray) t151 _ ?side1 A1.out).mono ?_); (case side1 => refine GW.below HG.out ?_; repeat (first | (with_reducible first | exact HB.out | apply below_alloc | apply pw_below_drewN | apply below_drew1) | exact HB.out)); rintro e w29 ⟨v152, rfl, ho0, hb⟩; refine ⟨_, rfl, ?_⟩; have n0_ := Aside0.mk (Kd.R_lower ho0 (below_size (by repeat (first | (with_reducible first | exact HB.out | apply below_alloc | apply pw_below_drewN | apply below_drew1) | exact HB.out)))); have n1_ := Aside0.mk (below_step (by repeat (first | (with_reducible first | exact HB.out | apply below_alloc | apply pw_below_drewN | apply below_drew1) | exact HB.out)) hb); clear HB; have HO153 := n0_; have HB := n1_; clear n0_ n1_; (try clear hb); (try clear hb2); (try clear hk); (try clear hi); (try clear ho0); obtain ⟨Ao30, co30, eo30⟩ := Kd.R_slice HO153.out; subst eo30))
    go_ret
    exact ⟨by first | rfl | (simp [errW_none, errW_some] <;> rfl) | (simp [*, errW_none, errW_some] <;> rfl), by repeat (first | (with_reducible first | exact HB.out | apply below_alloc | apply pw_below_drewN | apply below_drew1) | exact HB.out)⟩

end Go.Proofs.YtmpbkemicfmbaaaDoor.PX
/- The lexer in plain words, 4: both Scans give the same tokens; the examples hold. -/
namespace Go.Proofs.YtmpbkemicfmbaaaDoor.PX
open Go.RowKit Go.Proofs.YtmpbkemicfmbaaaDoorW.PrintWords Go.Proofs.YtmpbkemicfmbaaaDoorW.PrintLast Go.Proofs.YtmpbkemicfmbaaaDoorW.PrintMore
set_option linter.unusedVariables false
set_option linter.unusedSimpArgs false
def to32 (t : S37) : S32 := ⟨t.f0, t.f1, t.f2, t.f3⟩
/-- The tokens of a text from a place on (the first number: more steps than bytes are left). -/
def scanF : Nat → ByteArray → Nat → List S37
  | 0, _, _ => []
  | d + 1, s, j => if j + bl false ((bs s).drop j) = (bs s).length then [⟨0, ⟨#[]⟩, 0, ((j + bl false ((bs s).drop j) : Nat) : Int)⟩]
    else ⟨(tok (s.extract (j + bl false ((bs s).drop j)) s.size)).k, cut (s.extract (j + bl false ((bs s).drop j)) s.size) (tok (s.extract (j + bl false ((bs s).drop j)) s.size)).n, (tok (s.extract (j + bl false ((bs s).drop j)) s.size)).v, ((j + bl false ((bs s).drop j) : Nat) : Int)⟩ ::
      scanF d s (j + bl false ((bs s).drop j) + (tok (s.extract (j + bl false ((bs s).drop j)) s.size)).n)
theorem scanF_end (d : Nat) (s : ByteArray) (j : Nat) (h : j + bl false ((bs s).drop j) = (bs s).length) : scanF (d + 1) s j = [⟨0, ⟨#[]⟩, 0, ((j + bl false ((bs s).drop j) : Nat) : Int)⟩] := by
  rw [scanF]
  exact if_pos h
theorem scanF_tok (d : Nat) (s : ByteArray) (j b : Nat) (hb : bl false ((bs s).drop j) = b) (h : j + b ≠ (bs s).length) : scanF (d + 1) s j = ⟨(tok (s.extract (j + b) s.size)).k, cut (s.extract (j + b) s.size) (tok (s.extract (j + b) s.size)).n, (tok (s.extract (j + b) s.size)).v, ((j + b : Nat) : Int)⟩ :: scanF d s (j + b + (tok (s.extract (j + b) s.size)).n) := by
  rw [scanF, hb]
  exact if_neg h
theorem bl_end (s : ByteArray) (j : Nat) (h : (bs s).length ≤ j) : bl false ((bs s).drop j) = 0 := by rw [List.drop_of_length_le h]; rfl
theorem skip_at (s : ByteArray) (hn : (bs s).length ≤ 1000000) (j : Nat) (hj : j ≤ (bs s).length) : Ev (fun k => lexer_skip.f k (s.extract j s.size)) ((bl false ((bs s).drop j) : Nat) : Int) := by
  have h := skip_ev (s.extract j s.size) (by rw [bs_drop, List.length_drop]; omega) (bs (s.extract j s.size)).length 0 (by omega) (by omega)
  rw [bs_drop, List.drop_zero, Nat.zero_add] at h
  exact h
theorem blank_at (s : ByteArray) (hn : (bs s).length ≤ 1000000) (j : Nat) (hj : j ≤ (bs s).length) : Ev (fun k => trickleref15_blank.f k (s.extract j s.size)) ((bl false ((bs s).drop j) : Nat) : Int) := by
  have h := blank_ev (s.extract j s.size) (by rw [bs_drop, List.length_drop]; omega) (bs (s.extract j s.size)).length 0 (by omega) (by omega)
  rw [bs_drop, List.drop_zero, Nat.zero_add] at h
  exact h
theorem scan_impl (s : ByteArray) (hn : (bs s).length ≤ 1000000) : ∀ (d j : Nat) (acc : List S37), (bs s).length ≤ j + d → j ≤ (bs s).length → acc.length ≤ j → Ev (fun k => lexer_Scan.l0 k s acc (j : Int)) (acc ++ scanF (d + 1) s j) := by
  intro d
  induction d with
  | zero =>
    intro j acc h1 h2 ha
    have hs := bs_len s
    have hsk := skip_at s hn j h2
    refine Ev.step (fun k => by rw [lexer_Scan.l0]) (Ev.pos (by omega) (Ev.pos (by omega) ?_))
    rw [Int.toNat_natCast]
    refine Ev.bind hsk ?_
    have hz := bl_end s j (by omega)
    rw [scanF_end 0 s j (by rw [hz]; omega), hz, show wrap64 ((j : Int) + ((0 : Nat) : Int)) = ((j + 0 : Nat) : Int) by rw [wrap_id (by omega) (by omega)]; omega]
    exact Ev.pos (by omega) (Ev.pos (by omega) (Ev.now _))
  | succ d ih =>
    intro j acc h1 h2 ha
    have hs := bs_len s
    have hb := bl_le ((bs s).drop j) false
    rw [List.length_drop] at hb
    have hsk := skip_at s hn j h2
    refine Ev.step (fun k => by rw [lexer_Scan.l0]) (Ev.pos (by omega) (Ev.pos (by omega) ?_))
    rw [Int.toNat_natCast]
    refine Ev.bind hsk ?_
    generalize hbb : bl false ((bs s).drop j) = b at hb ⊢
    rw [show wrap64 ((j : Int) + (b : Int)) = ((j + b : Nat) : Int) by rw [wrap_id (by omega) (by omega)]; omega]
    by_cases h : j + b = (bs s).length
    · rw [scanF_end _ s j (by rw [hbb]; exact h), hbb]
      exact Ev.pos (by omega) (Ev.pos (by omega) (Ev.now _))
    · rw [scanF_tok _ s j b hbb h]
      have hx : 0 < (bs (s.extract (j + b) s.size)).length := by rw [bs_drop, List.length_drop]; omega
      have ht := tok_range _ hx
      have hcs := cut_size (s.extract (j + b) s.size) (tok (s.extract (j + b) s.size)).n ht.2
      rw [bs_drop, List.length_drop] at ht
      refine Ev.neg (by omega) (Ev.pos (by omega) (Ev.pos (by omega) ?_))
      rw [Int.toNat_natCast]
      refine Ev.bind (next_ev _ hx (by rw [bs_drop, List.length_drop]; omega)) (Ev.pos (by omega) ?_)
      show Ev (fun k => lexer_Scan.l0 k s (acc ++ [⟨(tok (s.extract (j + b) s.size)).k, cut (s.extract (j + b) s.size) (tok (s.extract (j + b) s.size)).n, (tok (s.extract (j + b) s.size)).v, ((j + b : Nat) : Int)⟩]) (wrap64 (((j + b : Nat) : Int) + ((cut (s.extract (j + b) s.size) (tok (s.extract (j + b) s.size)).n).size : Int)))) _
      rw [hcs, show wrap64 (((j + b : Nat) : Int) + ((tok (s.extract (j + b) s.size)).n : Int)) = ((j + b + (tok (s.extract (j + b) s.size)).n : Nat) : Int) by rw [wrap_id (by omega) (by omega)]; omega]
      refine Ev.cast (ih (j + b + (tok (s.extract (j + b) s.size)).n) _ (by omega) (by omega) (by rw [List.length_append]; simp only [List.length_cons, List.length_nil]; omega)) ?_
      rw [List.append_assoc]
      rfl
theorem scan_ref (s : ByteArray) (hn : (bs s).length ≤ 1000000) : ∀ (d j : Nat) (acc : List S32), (bs s).length ≤ j + d → j ≤ (bs s).length → acc.length ≤ j → Ev (fun k => trickleref15_Scan.l0 k s acc (j : Int)) (acc ++ (scanF (d + 1) s j).map to32) := by
  intro d
  induction d with
  | zero =>
    intro j acc h1 h2 ha
    have hs := bs_len s
    have hsk := blank_at s hn j h2
    refine Ev.step (fun k => by rw [trickleref15_Scan.l0]) (Ev.pos (by omega) (Ev.pos (by omega) ?_))
    rw [Int.toNat_natCast]
    refine Ev.bind hsk ?_
    have hz := bl_end s j (by omega)
    rw [scanF_end 0 s j (by rw [hz]; omega), hz, show wrap64 ((j : Int) + ((0 : Nat) : Int)) = ((j + 0 : Nat) : Int) by rw [wrap_id (by omega) (by omega)]; omega]
    exact Ev.pos (by omega) (Ev.pos (by omega) (Ev.now _))
  | succ d ih =>
    intro j acc h1 h2 ha
    have hs := bs_len s
    have hb := bl_le ((bs s).drop j) false
    rw [List.length_drop] at hb
    have hsk := blank_at s hn j h2
    refine Ev.step (fun k => by rw [trickleref15_Scan.l0]) (Ev.pos (by omega) (Ev.pos (by omega) ?_))
    rw [Int.toNat_natCast]
    refine Ev.bind hsk ?_
    generalize hbb : bl false ((bs s).drop j) = b at hb ⊢
    rw [show wrap64 ((j : Int) + (b : Int)) = ((j + b : Nat) : Int) by rw [wrap_id (by omega) (by omega)]; omega]
    by_cases h : j + b = (bs s).length
    · rw [scanF_end _ s j (by rw [hbb]; exact h), hbb]
      exact Ev.pos (by omega) (Ev.pos (by omega) (Ev.now _))
    · rw [scanF_tok _ s j b hbb h]
      have hx : 0 < (bs (s.extract (j + b) s.size)).length := by rw [bs_drop, List.length_drop]; omega
      have ht := tok_range _ hx
      have hcs := cut_size (s.extract (j + b) s.size) (tok (s.extract (j + b) s.size)).n ht.2
      rw [bs_drop, List.length_drop] at ht
      refine Ev.neg (by omega) (Ev.pos (by omega) (Ev.pos (by omega) ?_))
      rw [Int.toNat_natCast]
      refine Ev.bind (one_ev _ hx (by rw [bs_drop, List.length_drop]; omega)) (Ev.pos (by omega) ?_)
      show Ev (fun k => trickleref15_Scan.l0 k s (acc ++ [⟨(tok (s.extract (j + b) s.size)).k, cut (s.extract (j + b) s.size) (tok (s.extract (j + b) s.size)).n, (tok (s.extract (j + b) s.size)).v, ((j + b : Nat) : Int)⟩]) (wrap64 (((j + b : Nat) : Int) + ((cut (s.extract (j + b) s.size) (tok (s.extract (j + b) s.size)).n).size : Int)))) _
      rw [hcs, show wrap64 (((j + b : Nat) : Int) + ((tok (s.extract (j + b) s.size)).n : Int)) = ((j + b + (tok (s.extract (j + b) s.size)).n : Nat) : Int) by rw [wrap_id (by omega) (by omega)]; omega]
      refine Ev.cast (ih (j + b + (tok (s.extract (j + b) s.size)).n) _ (by omega) (by omega) (by rw [List.length_append]; simp only [List.length_cons, List.length_nil]; omega)) ?_
      rw [List.append_assoc]
      rfl
/-- The tokens of a text. -/
def scan (s : ByteArray) : List S37 := scanF ((bs s).length + 1) s 0
theorem scan_ev (s : ByteArray) (hn : (bs s).length ≤ 1000000) : Ev (fun k => lexer_Scan.f k s) (scan s) := scan_impl s hn (bs s).length 0 [] (by omega) (by omega) (by simp)
theorem rscan_ev (s : ByteArray) (hn : (bs s).length ≤ 1000000) : Ev (fun k => trickleref15_Scan.f k s) ((scan s).map to32) := scan_ref s hn (bs s).length 0 [] (by omega) (by omega) (by simp)
theorem rd_T37_nat (xs : List S37) (j : Nat) (h : j < xs.length) : rd_T37 xs (j : Int) = xs[j] := getD_nat xs z37 j h
theorem rd_T32_nat (xs : List S32) (j : Nat) (h : j < xs.length) : rd_T32 xs (j : Int) = xs[j] := getD_nat xs z32 j h
theorem wakes15 : Ev (fun k => tricklelaw15_wakes.f k) true := Ev.of (k := 80) (fun k => tricklelaw15_wakes.mono k) (by kernel_rfl)
end Go.Proofs.YtmpbkemicfmbaaaDoor.PX
-- Written by a program of this session (wip/xprint.py, over the kit's print tool). Lean checks it.
namespace Go.Proofs.YtmpbkemicfmbaaaDoor.PX
open Go.RowKit Go.Proofs.YtmpbkemicfmbaaaDoorW.PrintWords Go.Proofs.YtmpbkemicfmbaaaDoorW.PrintLast Go.Proofs.YtmpbkemicfmbaaaDoorW.PrintMore
attribute [local go_sem] max2_int min2_int max_two min_two max_three min_three max_four min_four   -- for this text's walks alone
set_option linter.unusedVariables false
set_option linter.unusedSimpArgs false

/-! ### tricklelaw15_own: function 16 -/
def tricklelaw15_own.l0 : Nat → List (S37) → List (S32) → Int → Int → Option ((List (S37)))
  | 0, _, _, _, _ => none
  | k + 1, x3, x6, x7, x8 => if x8 < x7 then (if 0 ≤ x8 then (if x8 < (x6.length : Int) then (if x3.length < 3518437208883 then (tricklelaw15_own.l0 k (x3 ++ [(⟨(rd_T32 x6 x8).f0, (rd_T32 x6 x8).f1, (rd_T32 x6 x8).f2, (rd_T32 x6 x8).f3⟩ : S37)]) x6 x7 (wrap64 (x8 + 1))) else (none)) else (none)) else (none)) else (some x3)
def tricklelaw15_own.f (k : Nat) (l0 : List (S32)) : Option ((List (S37))) := tricklelaw15_own.l0 k ([] : List (S37)) l0 (l0.length : Int) 0
set_option maxHeartbeats 8000000 in
set_option maxRecDepth 100000 in
theorem tricklelaw15_own.calls (k : Nat) (A0 : Option Addr) (c0 : Nat) (l0 : List (S32)) (r : List (S37)) (w : World) (hr0 : Kd.C k32 w A0 l0.length l0) (hc0 : l0.length ≤ c0) (h : tricklelaw15_own.f k l0 = some r) :
    Calls Tryd.prog 16 #[.slice A0 l0.length c0] w fun e w' => ∃ v0_ : Value, e = .returned (v0_) ∧ Kd.R k37 37 w' w.heap.size (fun _ => True) v0_ r ∧ Below w.heap.size w w' := by
  have hu32 := Tryd.underlying32
  have hu37 := Tryd.underlying37
  have HR0 := Aside0.mk hr0
  have HC0 := Aside0.mk hc0
  clear hr0 hc0
  have HB := Aside0.mk (Below.refl w.heap.size w)
  have H : (tricklelaw15_own.l0 k ([] : List (S37)) l0 (l0.length : Int) 0) = some r := h
  clear h
  have H' := Aside0.mk H
  clear H
  go_enter Tryd.func16, Tryd.ntmps16
  go_wp2
  go_loopg [3, 8] k (fun kq v3 v8 w' => ∃ (x3_1 : List (S37)) (x8_1 : Int), v8 = .int .i64 x8_1 ∧ Aside0 (tricklelaw15_own.l0 kq x3_1 l0 (l0.length : Int) x8_1 = some r) ∧ Aside0 (kq ≤ k) ∧ Aside0 (Kd.R k37 37 w' w.heap.size (fun _ => True) v3 x3_1) ∧ Aside0 (Below w.heap.size w w'))
  case atStart => exact ⟨(([] : List (S37))), (0), (by first | rfl | (simp; done) | (simp [*]; done)), H', ⟨Nat.le_refl _⟩, ⟨by first | exact Kd.R_nil _ _ _ _ _ | exact Kd.N_nil _ _ _ _ _ | exact Kd.V_nil _ _ _ _ _ | exact Kd.Q_nil _ _ _ _ _ | exact Kd.S_nil _ _ _ _ _⟩, ⟨by repeat (first | (with_reducible first | exact HB.out | apply below_alloc | apply pw_below_drewN | apply below_drew1) | exact HB.out)⟩⟩
  case round =>
    clear H'
    try clear c1
    obtain ⟨x3_1, x8_1, rfl, HA, HK1, HO_3, HB⟩ := hrel
    cases gk with
    | zero => exact absurd HA.out (by simp [tricklelaw15_own.l0])
    | succ k1 =>
      have H := HA.out
      clear HA
      simp only [tricklelaw15_own.l0] at H
      by_cases c2 : x8_1 < (l0.length : Int)
      · rw [if_pos c2] at H
        have c2b0 : decide (x8_1 < (l0.length : Int)) = true := decide_eq_true c2
        clear c2
        by_cases c3 : 0 ≤ x8_1
        · rw [if_pos c3] at H
          have c3b0 : decide (0 ≤ x8_1) = true := decide_eq_true c3
          clear c3
          by_cases c4 : x8_1 < (l0.length : Int)
          · rw [if_pos c4] at H
            have c4b0 : decide (x8_1 < (l0.length : Int)) = true := decide_eq_true c4
            clear c4
            by_cases c5 : x3_1.length < 3518437208883
            · rw [if_pos c5] at H
              have LMc5 := Aside0.mk c5
              clear c5
              obtain ⟨y226, hy226⟩ : ∃ y_ : List (S37), y_ = (x3_1 ++ [(⟨(rd_T32 l0 x8_1).f0, (rd_T32 l0 x8_1).f1, (rd_T32 l0 x8_1).f2, (rd_T32 l0 x8_1).f3⟩ : S37)]) := ⟨_, rfl⟩
              replace H : (tricklelaw15_own.l0 k1 y226 l0 (l0.length : Int) (wrap64 (x8_1 + 1))) = some r := by first | (rw [hy226]; with_reducible exact H) | (have H2_ := (Option.bind_some _ _).symm.trans H; rw [hy226]; with_reducible exact H2_) | (have H2_ := (Option.bind_some _ _).symm.trans H; with_reducible exact H2_) | with_reducible exact H | (rw [hy226]; exact H) | exact H
              have Ny226 := Aside0.mk hy226
              clear hy226
              have H' := Aside0.mk H
              clear H
              have p224 : 0 ≤ (x8_1 : Int) := of_decide_eq_true (by first | (with_reducible assumption) | assumption)
              have q224 : x8_1 < (l0.length : Int) := of_decide_eq_true (by first | (with_reducible assumption) | assumption)
              obtain ⟨ad224, e224, hx224_0, hx224_1, hx224_2, hx224_3⟩ := at_T32 HR0.out x8_1 p224 q224
              cases e224
              replace hx224_0 := (HB.out.cell (World.block_lt_of_cell? w _ hx224_0)).trans hx224_0
              replace hx224_1 := (HB.out.cell (World.block_lt_of_cell? w _ hx224_1)).trans hx224_1
              replace hx224_2 := (HB.out.cell (World.block_lt_of_cell? w _ hx224_2)).trans hx224_2
              replace hx224_3 := (HB.out.cell (World.block_lt_of_cell? w _ hx224_3)).trans hx224_3
              replace p224 := eq_true p224
              replace q224 := eq_true q224
              go_wp2_with (first | ((with_reducible refine gate_dst (N := 5) rfl ?_); refine box_event ?hg (N := 5) ?hd (cs := #[.int .i64 0, .string (⟨#[]⟩ : ByteArray), .int .i16 0, .int .i64 0]) (t := 32) ?hr ?_; (case hd => rfl); (case hg => rfl); (case hr => first | (go_simp; done) | (go_simp; rfl)); intro gb225 hg w6 hbox hb; have n0_ := Aside0.mk (Kd.R_below (by (with_reducible repeat (first | apply Kd.R_alloc | apply Kd.R_drewN | apply Kd.R_drew)); exact HO_3.out) hb); have n1_ := Aside0.mk (below_step (by repeat (first | (with_reducible first | exact HB.out | apply below_alloc | apply pw_below_drewN | apply below_drew1) | exact HB.out)) hb); have n2_ := Aside0.mk (hbox); have n3_ := Aside0.mk ((by rw [hg]; exact (below_size (by repeat (first | (with_reducible first | exact HB.out | apply below_alloc | apply pw_below_drewN | apply below_drew1) | exact HB.out))) : w.heap.size ≤ gb225)); have n4_ := Aside0.mk ((by rw [hg]; exact (below_size (by repeat (first | (with_reducible first | exact HB.out | apply below_alloc | apply pw_below_drewN | apply below_drew1) | exact HB.out))) : w.heap.size ≤ gb225)); clear HO_3; clear HB; have HO_3 := n0_; have HB := n1_; have BK225 := n2_; have GW225 := n3_; have GE225 := n4_; clear n0_ n1_ n2_ n3_ n4_; clear hb hbox hg; have hcz7_0 : w6.cell? ⟨gb225, 0, none⟩ = some (.int .i64 0) := (blk_cell BK225.out 0).trans rfl; have hcz7_1 : w6.cell? ⟨gb225, 1, none⟩ = some (.string (⟨#[]⟩ : ByteArray)) := (blk_cell BK225.out 1).trans rfl; have hcz7_2 : w6.cell? ⟨gb225, 2, none⟩ = some (.int .i16 0) := (blk_cell BK225.out 2).trans rfl; have hcz7_3 : w6.cell? ⟨gb225, 3, none⟩ = some (.int .i64 0) := (blk_cell BK225.out 3).trans rfl; have hfz7_0 := blk_frozen BK225.out 0; have hfz7_1 := blk_frozen BK225.out 1; have hfz7_2 := blk_frozen BK225.out 2; have hfz7_3 := blk_frozen BK225.out 3) | ((with_reducible refine gate_builtin (b := .append) (xs := #[.tmp 12, .tmp 22]) rfl ?_); at_builtin; refine Kd.R_append k37 (w0 := w) w.heap.size rfl (.tmp 12) (.tmp 22) 26 37 (.agg #[(.int .i64 0), (.string ⟨#[]⟩), (.int .i16 0), (.int .i64 0)]) 40 rfl Tryd.underlying26 info37 rfl (by decide) (by omega) u3 x3_1 (⟨(rd_T32 l0 x8_1).f0, (rd_T32 l0 x8_1).f1, (rd_T32 l0 x8_1).f2, (rd_T32 l0 x8_1).f3⟩ : S37) [.int .i64 ((rd_T32 l0 x8_1).f0), .string ((rd_T32 l0 x8_1).f1), .int .i16 ((rd_T32 l0 x8_1).f2), .int .i64 ((rd_T32 l0 x8_1).f3)] (fun _ => True) (fun _ => False) rfl (by first | (go_simp; done) | (go_simp; rfl)) ?aP (fun _ hk => hk.elim) ?aF ?aO ?aB ?aS ?aL ?_; (case aP => exact k37_mkM _ _ _ (⟨(rd_T32 l0 x8_1).f0, (rd_T32 l0 x8_1).f1, (rd_T32 l0 x8_1).f2, (rd_T32 l0 x8_1).f3⟩ : S37)); (case aB => exact (by repeat (first | (with_reducible first | exact HB.out | apply below_alloc | apply pw_below_drewN | apply below_drew1 | refine below_set ?_ GE225.out) | exact HB.out))); (case aF => exact (fun _ _ => trivial)); (case aO => exact (by (with_reducible repeat (first | apply Kd.R_alloc | apply Kd.R_drewN | apply Kd.R_drew)); exact Kd.R_mono (Kd.R_far (p := ⟨gb225, 3, none⟩) (Kd.R_far (p := ⟨gb225, 2, none⟩) (Kd.R_far (p := ⟨gb225, 1, none⟩) (Kd.R_far (p := ⟨gb225, 0, none⟩) (Kd.R_types HO_3.out BK225.out (by decide)) (fun _ hk => hk.2) (.int .i64 ((rd_T32 l0 x8_1).f0))) (fun _ hk => hk.2) (.string ((rd_T32 l0 x8_1).f1))) (fun _ hk => hk.2) (.int .i16 ((rd_T32 l0 x8_1).f2))) (fun _ hk => hk.2) (.int .i64 ((rd_T32 l0 x8_1).f3))) (fun _ hk => trivial))); (case aS => exact (below_size (by repeat (first | (with_reducible first | exact HB.out | apply below_alloc | apply pw_below_drewN | apply below_drew1 | refine below_set ?_ GE225.out) | exact HB.out)))); (case aL => have := LMc5.out; omega); intro v227 w8 ho hb hg hat; rw [← Ny226.out] at ho; have n0_ := Aside0.mk (blk_grown (g := gb225) (o := .cells #[.int .i64 ((rd_T32 l0 x8_1).f0), .string ((rd_T32 l0 x8_1).f1), .int .i16 ((rd_T32 l0 x8_1).f2), .int .i64 ((rd_T32 l0 x8_1).f3)] 32 (0, 0)) (by (with_reducible repeat (first | refine blk_drewN ?_ _ | refine blk_drew ?_ | refine blk_alloc ?_ _)); refine blk_put (cs := #[.int .i64 ((rd_T32 l0 x8_1).f0), .string ((rd_T32 l0 x8_1).f1), .int .i16 ((rd_T32 l0 x8_1).f2), .int .i64 0]) ?_ 3 _ rfl; (with_reducible repeat (first | refine blk_drewN ?_ _ | refine blk_drew ?_ | refine blk_alloc ?_ _)); refine blk_put (cs := #[.int .i64 ((rd_T32 l0 x8_1).f0), .string ((rd_T32 l0 x8_1).f1), .int .i16 0, .int .i64 0]) ?_ 2 _ rfl; (with_reducible repeat (first | refine blk_drewN ?_ _ | refine blk_drew ?_ | refine blk_alloc ?_ _)); refine blk_put (cs := #[.int .i64 ((rd_T32 l0 x8_1).f0), .string (⟨#[]⟩ : ByteArray), .int .i16 0, .int .i64 0]) ?_ 1 _ rfl; (with_reducible repeat (first | refine blk_drewN ?_ _ | refine blk_drew ?_ | refine blk_alloc ?_ _)); refine blk_put (cs := #[.int .i64 0, .string (⟨#[]⟩ : ByteArray), .int .i16 0, .int .i64 0]) ?_ 0 _ rfl; (with_reducible repeat (first | refine blk_drewN ?_ _ | refine blk_drew ?_ | refine blk_alloc ?_ _)); exact BK225.out) hg (Kd.R_ne HO_3.out BK225.out (by decide))); have n1_ := Aside0.mk (hb); have n2_ := Aside0.mk (ho); clear BK225; clear HB; clear HO_3; have BK225 := n0_; have HB := n1_; have HO228 := n2_; clear n0_ n1_ n2_; clear ho hb hg hat))
              go_roundg k1
              case measure => have := HK1.out; omega
              case rel => exact ⟨(y226), (wrap64 (x8_1 + 1)), (by first | rfl | (simp; done) | (simp [*]; done)), H', ⟨by have := HK1.out; omega⟩, ⟨by (with_reducible repeat (first | apply Kd.R_alloc | apply Kd.R_drewN | apply Kd.R_drew)); exact HO228.out⟩, ⟨by repeat (first | (with_reducible first | exact HB.out | apply below_alloc | apply pw_below_drewN | apply below_drew1 | refine below_set ?_ GE225.out) | exact HB.out)⟩⟩
            · rw [if_neg c5] at H
              exact absurd H (by simp)
          · rw [if_neg c4] at H
            exact absurd H (by simp)
        · rw [if_neg c3] at H
          exact absurd H (by simp)
      · rw [if_neg c2] at H
        have c2b0 : decide (x8_1 < (l0.length : Int)) = false := decide_eq_false c2
        clear c2
        obtain rfl := Option.some.inj H
        go_wp2
        go_ret
        exact ⟨_, by first | rfl | (simp [errW_none, errW_some] <;> rfl) | (simp [*, errW_none, errW_some] <;> rfl), by (with_reducible repeat (first | apply Kd.R_alloc | apply Kd.R_drewN | apply Kd.R_drew)); exact HO_3.out, by repeat (first | (with_reducible first | exact HB.out | apply below_alloc | apply pw_below_drewN | apply below_drew1) | exact HB.out)⟩

end Go.Proofs.YtmpbkemicfmbaaaDoor.PX
/- The lexer in plain words, 5: tokens of the reference turned into the program's; the errors. -/
namespace Go.Proofs.YtmpbkemicfmbaaaDoor.PX
open Go.RowKit Go.Proofs.YtmpbkemicfmbaaaDoorW.PrintWords Go.Proofs.YtmpbkemicfmbaaaDoorW.PrintLast Go.Proofs.YtmpbkemicfmbaaaDoorW.PrintMore
set_option linter.unusedVariables false
set_option linter.unusedSimpArgs false
def to37 (t : S32) : S37 := ⟨t.f0, t.f1, t.f2, t.f3⟩
theorem own_loop (l : List S32) (hn : l.length ≤ 1000000) : ∀ (d j : Nat) (acc : List S37), j + d = l.length → acc.length ≤ j → Ev (fun k => tricklelaw15_own.l0 k acc l (l.length : Int) (j : Int)) (acc ++ (l.drop j).map to37)
  | 0, j, acc, hj, ha => by
    rw [List.drop_of_length_le (by omega), List.map_nil, List.append_nil]
    exact Ev.step (fun k => by rw [tricklelaw15_own.l0]) (Ev.neg (by omega) (Ev.now _))
  | d + 1, j, acc, hj, ha => by
    refine Ev.step (fun k => by rw [tricklelaw15_own.l0]) (Ev.pos (by omega) (Ev.pos (by omega) (Ev.pos (by omega) (Ev.pos (by omega) ?_))))
    rw [rd_T32_nat l j (by omega), wrap_nat (n := l.length) (by omega) (by omega)]
    refine Ev.cast (own_loop l hn d (j + 1) _ (by omega) (by simp; omega)) ?_
    rw [drop_cons l j (by omega), List.map_cons, List.append_assoc]
    rfl
theorem own_ev (l : List S32) (hn : l.length ≤ 1000000) : Ev (fun k => tricklelaw15_own.f k l) (l.map to37) := by
  have h := own_loop l hn l.length 0 [] (by omega) (by simp)
  rw [List.drop_zero] at h
  exact h
end Go.Proofs.YtmpbkemicfmbaaaDoor.PX
-- Written by a program of this session (wip/xprint.py, over the kit's print tool). Lean checks it.
namespace Go.Proofs.YtmpbkemicfmbaaaDoor.PX
open Go.RowKit Go.Proofs.YtmpbkemicfmbaaaDoorW.PrintWords Go.Proofs.YtmpbkemicfmbaaaDoorW.PrintLast Go.Proofs.YtmpbkemicfmbaaaDoorW.PrintMore
attribute [local go_sem] max2_int min2_int max_two min_two max_three min_three max_four min_four   -- for this text's walks alone
set_option linter.unusedVariables false
set_option linter.unusedSimpArgs false

theorem eqA62 (d : Nat) (w : World) (x0 y0 : Int) (x1 y1 : ByteArray) :
    (Op.equalIn (d + 2) 62 (.agg #[.int .i64 x0, .string x1]) (.agg #[.int .i64 y0, .string y1])).run Tryd.prog w = .ok (x0 == y0 && (x1.toList == y1.toList)) w := by
  refine eqA_of Tryd.underlying62 (by kernel_rfl) ?_
  refine eqf_cons (by rfl) (by go_simp; rfl) (by go_simp; rfl) (by go_simp) ?_
  exact eqf_last (by rfl) (by go_simp; rfl) (by go_simp; rfl) (by go_simp)
end Go.Proofs.YtmpbkemicfmbaaaDoor.PX
-- Written by a program of this session (wip/xprint.py, over the kit's print tool). Lean checks it.
namespace Go.Proofs.YtmpbkemicfmbaaaDoor.PX
open Go.RowKit Go.Proofs.YtmpbkemicfmbaaaDoorW.PrintWords Go.Proofs.YtmpbkemicfmbaaaDoorW.PrintLast Go.Proofs.YtmpbkemicfmbaaaDoorW.PrintMore
attribute [local go_sem] max2_int min2_int max_two min_two max_three min_three max_four min_four   -- for this text's walks alone
set_option linter.unusedVariables false
set_option linter.unusedSimpArgs false

attribute [local go_sem high] eqA62
/-! ### trickleref15_SameDiagnostics: function 23 -/
def trickleref15_SameDiagnostics.l0 : Nat → List (S62) → List (S62) → Int → Option (Bool)
  | 0, _, _, _ => none
  | k + 1, x0, x1, x5 => if x5 < (x0.length : Int) then (if 0 ≤ x5 then (if x5 < (x1.length : Int) then (if (!(((rd_T62 x0 x5).f0) == ((rd_T62 x1 x5).f0)) || (!((((rd_T62 x0 x5).f1).toList) == (((rd_T62 x1 x5).f1).toList)))) = true then (some false) else (trickleref15_SameDiagnostics.l0 k x0 x1 (wrap64 (x5 + 1)))) else (none)) else (none)) else (some true)
def trickleref15_SameDiagnostics.f (k : Nat) (l0 : List (S62)) (l1 : List (S62)) : Option (Bool) := if (l0.length : Int) = (l1.length : Int) then (trickleref15_SameDiagnostics.l0 k l0 l1 0) else (some false)
set_option maxHeartbeats 8000000 in
set_option maxRecDepth 100000 in
theorem trickleref15_SameDiagnostics.calls (k : Nat) (A0 : Option Addr) (c0 : Nat) (l0 : List (S62)) (A1 : Option Addr) (c1 : Nat) (l1 : List (S62)) (r : Bool) (w : World) (hr0 : Kd.C k62 w A0 l0.length l0) (hc0 : l0.length ≤ c0) (hr1 : Kd.C k62 w A1 l1.length l1) (hc1 : l1.length ≤ c1) (h : trickleref15_SameDiagnostics.f k l0 l1 = some r) :
    Calls Tryd.prog 23 #[.slice A0 l0.length c0, .slice A1 l1.length c1] w fun e w' => e = .returned (.bool r) ∧ Drawn0 w w' := by
  have hu62 := Tryd.underlying62
  have HR0 := Aside0.mk hr0
  have HC0 := Aside0.mk hc0
  clear hr0 hc0
  have HR1 := Aside0.mk hr1
  have HC1 := Aside0.mk hc1
  clear hr1 hc1
  have H : (if (l0.length : Int) = (l1.length : Int) then (trickleref15_SameDiagnostics.l0 k l0 l1 0) else (some false)) = some r := h
  clear h
  by_cases c3 : (l0.length : Int) = (l1.length : Int)
  · rw [if_pos c3] at H
    have c3b0 : ((l0.length : Int) == (l1.length : Int)) = true := beq_iff_eq.mpr c3
    have c3b1 : ((l0.length : Int) != (l1.length : Int)) = false := bne_eq_false_iff_eq.mpr c3
    have c3b2 : (l0.length == l1.length) = true := by first | simpa using c3 | (simp at c3 ⊢; omega)
    clear c3
    have H' := Aside0.mk H
    clear H
    go_enter Tryd.func23, Tryd.ntmps23
    go_wp2
    repeat (go_quiet (fail); try go_wp2)
    go_loopg [5] k (fun kq v5 w' => ∃ (x5_1 : Int), v5 = .int .i64 x5_1 ∧ Aside0 (trickleref15_SameDiagnostics.l0 kq l0 l1 x5_1 = some r) ∧ Aside0 (kq ≤ k) ∧ Drawn0 w w')
    case atStart => exact ⟨(0), (by first | rfl | (simp; done) | (simp [*]; done)), H', ⟨Nat.le_refl _⟩, by repeat (first | exact Drawn0.refl _ | apply Drawn0.step)⟩
    case round =>
      clear H'
      try clear c1
      try clear c2
      try clear p2
      try clear c3
      try clear c3b0
      try clear c3b1
      try clear c3b2
      obtain ⟨x5_1, rfl, HA, HK1, ⟨m1, rfl⟩⟩ := hrel
      cases gk with
      | zero => exact absurd HA.out (by simp [trickleref15_SameDiagnostics.l0])
      | succ k1 =>
        have H := HA.out
        clear HA
        simp only [trickleref15_SameDiagnostics.l0] at H
        by_cases c4 : x5_1 < (l0.length : Int)
        · rw [if_pos c4] at H
          have c4b0 : decide (x5_1 < (l0.length : Int)) = true := decide_eq_true c4
          clear c4
          by_cases c5 : 0 ≤ x5_1
          · rw [if_pos c5] at H
            have c5b0 : decide (0 ≤ x5_1) = true := decide_eq_true c5
            clear c5
            by_cases c6 : x5_1 < (l1.length : Int)
            · rw [if_pos c6] at H
              have c6b0 : decide (x5_1 < (l1.length : Int)) = true := decide_eq_true c6
              clear c6
              by_cases c7 : (!(((rd_T62 l0 x5_1).f0) == ((rd_T62 l1 x5_1).f0)) || (!((((rd_T62 l0 x5_1).f1).toList) == (((rd_T62 l1 x5_1).f1).toList)))) = true
              · rw [if_pos c7] at H
                have c7b0 : (!(((rd_T62 l0 x5_1).f0) == ((rd_T62 l1 x5_1).f0)) || (!((((rd_T62 l0 x5_1).f1).toList) == (((rd_T62 l1 x5_1).f1).toList)))) = true := c7
                clear c7
                obtain rfl := Option.some.inj H
                have p345 : 0 ≤ (x5_1 : Int) := of_decide_eq_true (by first | (with_reducible assumption) | assumption)
                have q345 : x5_1 < (l0.length : Int) := of_decide_eq_true (by first | (with_reducible assumption) | assumption)
                obtain ⟨ad345, e345, hx345_0, hx345_1⟩ := at_T62 HR0.out x5_1 p345 q345
                cases e345
                replace p345 := eq_true p345
                replace q345 := eq_true q345
                have p346 : 0 ≤ (x5_1 : Int) := of_decide_eq_true (by first | (with_reducible assumption) | assumption)
                have q346 : x5_1 < (l1.length : Int) := of_decide_eq_true (by first | (with_reducible assumption) | assumption)
                obtain ⟨ad346, e346, hx346_0, hx346_1⟩ := at_T62 HR1.out x5_1 p346 q346
                cases e346
                replace p346 := eq_true p346
                replace q346 := eq_true q346
                go_wp2
                repeat (go_quiet (fail); try go_wp2)
                go_ret
                exact ⟨by first | rfl | (simp; done) | (simp [*]; done), by repeat (first | exact Drawn0.refl _ | apply Drawn0.step)⟩
              · rw [if_neg c7] at H
                have c7b0 : (!(((rd_T62 l0 x5_1).f0) == ((rd_T62 l1 x5_1).f0)) || (!((((rd_T62 l0 x5_1).f1).toList) == (((rd_T62 l1 x5_1).f1).toList)))) = false := by simpa using c7
                clear c7
                have H' := Aside0.mk H
                clear H
                have p345 : 0 ≤ (x5_1 : Int) := of_decide_eq_true (by first | (with_reducible assumption) | assumption)
                have q345 : x5_1 < (l0.length : Int) := of_decide_eq_true (by first | (with_reducible assumption) | assumption)
                obtain ⟨ad345, e345, hx345_0, hx345_1⟩ := at_T62 HR0.out x5_1 p345 q345
                cases e345
                replace p345 := eq_true p345
                replace q345 := eq_true q345
                have p346 : 0 ≤ (x5_1 : Int) := of_decide_eq_true (by first | (with_reducible assumption) | assumption)
                have q346 : x5_1 < (l1.length : Int) := of_decide_eq_true (by first | (with_reducible assumption) | assumption)
                obtain ⟨ad346, e346, hx346_0, hx346_1⟩ := at_T62 HR1.out x5_1 p346 q346
                cases e346
                replace p346 := eq_true p346
                replace q346 := eq_true q346
                go_wp2
                repeat (go_quiet (fail); try go_wp2)
                go_roundg k1
                case measure => have := HK1.out; omega
                case rel => exact ⟨(wrap64 (x5_1 + 1)), (by first | rfl | (simp; done) | (simp [*]; done)), H', ⟨by have := HK1.out; omega⟩, by repeat (first | exact Drawn0.refl _ | apply Drawn0.step)⟩
            · rw [if_neg c6] at H
              exact absurd H (by simp)
          · rw [if_neg c5] at H
            exact absurd H (by simp)
        · rw [if_neg c4] at H
          have c4b0 : decide (x5_1 < (l0.length : Int)) = false := decide_eq_false c4
          clear c4
          obtain rfl := Option.some.inj H
          go_wp2
          repeat (go_quiet (fail); try go_wp2)
          go_ret
          exact ⟨by first | rfl | (simp; done) | (simp [*]; done), by repeat (first | exact Drawn0.refl _ | apply Drawn0.step)⟩
  · rw [if_neg c3] at H
    have c3b0 : ((l0.length : Int) == (l1.length : Int)) = false := beq_eq_false_iff_ne.mpr c3
    have c3b1 : ((l0.length : Int) != (l1.length : Int)) = true := bne_iff_ne.mpr c3
    have c3b2 : (l0.length == l1.length) = false := by first | simpa using c3 | (simp at c3 ⊢; omega)
    obtain rfl := Option.some.inj H
    go_enter Tryd.func23, Tryd.ntmps23
    go_wp2
    repeat (go_quiet (fail); try go_wp2)
    go_ret
    exact ⟨by first | rfl | (simp; done) | (simp [*]; done), by repeat (first | exact Drawn0.refl _ | apply Drawn0.step)⟩

end Go.Proofs.YtmpbkemicfmbaaaDoor.PX
