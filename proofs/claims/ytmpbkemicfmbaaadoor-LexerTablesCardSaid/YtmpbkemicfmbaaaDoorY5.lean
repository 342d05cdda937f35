/- Parts of the proof, merged in build order: PXx13, PXx14, PXx15, Lx4. -/
import Derived.Test.YtmpbkemicfmbaaaDoorY1
import Derived.Test.YtmpbkemicfmbaaaDoorY4
import Derived.Test.YtmpbkemicfmbaaaDoorY3
-- Written by a program of this session (wip/xprint.py, over the kit's print tool). Lean checks it.
namespace Go.Proofs.YtmpbkemicfmbaaaDoor.PX
open Go.RowKit Go.Proofs.YtmpbkemicfmbaaaDoorW.PrintWords Go.Proofs.YtmpbkemicfmbaaaDoorW.PrintLast Go.Proofs.YtmpbkemicfmbaaaDoorW.PrintMore
attribute [local go_sem] max2_int min2_int max_two min_two max_three min_three max_four min_four   -- for this text's walks alone
set_option linter.unusedVariables false
set_option linter.unusedSimpArgs false

/-! ### tricklelaw15_wakes: function 10 -/
def tricklelaw15_wakes.f (k : Nat)  : Option (Bool) := (lexer_Scan.f k (⟨#[120, 49, 32, 61, 32, 97, 60, 61, 45, 51, 59, 47, 47, 32, 101, 110, 100]⟩ : ByteArray)).bind fun t151 => (if (t151.length : Int) = 8 then (if 0 < (t151.length : Int) then (if ((rd_T37 t151 0).f1).toList = ([120, 49] : List UInt8) then (if 3 < (t151.length : Int) then (if ((rd_T37 t151 3).f1).toList = ([60, 61] : List UInt8) then (if 5 < (t151.length : Int) then (if ((rd_T37 t151 5).f2) = 3 then (if ((rd_T37 t151 5).f3) = 9 then (if 7 < (t151.length : Int) then (if ((rd_T37 t151 7).f0) = 0 then (if ((rd_T37 t151 7).f3) = 17 then ((lexer_Join.f k t151).bind fun t160 => (some (t160.toList == ([120, 49, 61, 97, 60, 61, 45, 51, 59] : List UInt8)))) else (some false)) else (some false)) else (none)) else (some false)) else (some false)) else (none)) else (some false)) else (none)) else (some false)) else (none)) else (some false))
theorem tricklelaw15_wakes.mono : ∀ k, LeO (tricklelaw15_wakes.f k ) (tricklelaw15_wakes.f (k + 1) ) := by
  intro  k
  unfold tricklelaw15_wakes.f
  repeat' first
      | (with_reducible exact lexer_Join.mono _ _)
      | (with_reducible exact lexer_Scan.mono _ _)
      | (with_reducible exact LeO.refl _)
      | (with_reducible exact LeO.none _)
      | (with_reducible refine LeO.ite ?_ ?_)
      | (with_reducible refine LeO.bind ?_ (fun _ => ?_))
      | exact lexer_Join.mono _ _
      | exact lexer_Scan.mono _ _
      | exact LeO.none _
      | refine LeO.ite ?_ ?_
      | refine LeO.bind ?_ (fun _ => ?_)
set_option maxHeartbeats 8000000 in
set_option maxRecDepth 100000 in
theorem tricklelaw15_wakes.calls (k : Nat)  (r : Bool) (w : World) (hG : GW w) (h : tricklelaw15_wakes.f k  = some r) :
    Calls Tryd.prog 10 #[] w fun e w' => e = .returned (.bool r) ∧ Below w.heap.size w w' := by
  have HG := Aside0.mk hG
  clear hG
  have HB := Aside0.mk (Below.refl w.heap.size w)
  have H : ((lexer_Scan.f k (⟨#[120, 49, 32, 61, 32, 97, 60, 61, 45, 51, 59, 47, 47, 32, 101, 110, 100]⟩ : ByteArray)).bind fun t151 => (if (t151.length : Int) = 8 then (if 0 < (t151.length : Int) then (if ((rd_T37 t151 0).f1).toList = ([120, 49] : List UInt8) then (if 3 < (t151.length : Int) then (if ((rd_T37 t151 3).f1).toList = ([60, 61] : List UInt8) then (if 5 < (t151.length : Int) then (if ((rd_T37 t151 5).f2) = 3 then (if ((rd_T37 t151 5).f3) = 9 then (if 7 < (t151.length : Int) then (if ((rd_T37 t151 7).f0) = 0 then (if ((rd_T37 t151 7).f3) = 17 then ((lexer_Join.f k t151).bind fun t160 => (some (t160.toList == ([120, 49, 61, 97, 60, 61, 45, 51, 59] : List UInt8)))) else (some false)) else (some false)) else (none)) else (some false)) else (some false)) else (none)) else (some false)) else (none)) else (some false)) else (none)) else (some false))) = some r := h
  clear h
  replace H := Option.bind_eq_some_iff.mp H
  obtain ⟨t151, A10, H⟩ := H
  replace H : (if (t151.length : Int) = 8 then (if 0 < (t151.length : Int) then (if ((rd_T37 t151 0).f1).toList = ([120, 49] : List UInt8) then (if 3 < (t151.length : Int) then (if ((rd_T37 t151 3).f1).toList = ([60, 61] : List UInt8) then (if 5 < (t151.length : Int) then (if ((rd_T37 t151 5).f2) = 3 then (if ((rd_T37 t151 5).f3) = 9 then (if 7 < (t151.length : Int) then (if ((rd_T37 t151 7).f0) = 0 then (if ((rd_T37 t151 7).f3) = 17 then ((lexer_Join.f k t151).bind fun t160 => (some (t160.toList == ([120, 49, 61, 97, 60, 61, 45, 51, 59] : List UInt8)))) else (some false)) else (some false)) else (none)) else (some false)) else (some false)) else (none)) else (some false)) else (none)) else (some false)) else (none)) else (some false)) = some r := H
  have A1 := Aside0.mk A10
  clear A10
  by_cases c2 : (t151.length : Int) = 8
  · rw [if_pos c2] at H
    have c2b0 : ((t151.length : Int) == 8) = true := beq_iff_eq.mpr c2
    have c2b1 : ((t151.length : Int) != 8) = false := bne_eq_false_iff_eq.mpr c2
    clear c2
    by_cases c3 : 0 < (t151.length : Int)
    · rw [if_pos c3] at H
      have c3b0 : decide (0 < (t151.length : Int)) = true := decide_eq_true c3
      have c3b1 : decide (0 < t151.length) = true := decide_eq_true (by omega)
      clear c3
      by_cases c4 : ((rd_T37 t151 0).f1).toList = ([120, 49] : List UInt8)
      · rw [if_pos c4] at H
        have c4b0 : (((rd_T37 t151 0).f1).toList == ([120, 49] : List UInt8)) = true := beq_iff_eq.mpr c4
        have c4b1 : (((rd_T37 t151 0).f1).toList != ([120, 49] : List UInt8)) = false := bne_eq_false_iff_eq.mpr c4
        clear c4
        by_cases c5 : 3 < (t151.length : Int)
        · rw [if_pos c5] at H
          have c5b0 : decide (3 < (t151.length : Int)) = true := decide_eq_true c5
          have c5b1 : decide (3 < t151.length) = true := decide_eq_true (by omega)
          clear c5
          by_cases c6 : ((rd_T37 t151 3).f1).toList = ([60, 61] : List UInt8)
          · rw [if_pos c6] at H
            have c6b0 : (((rd_T37 t151 3).f1).toList == ([60, 61] : List UInt8)) = true := beq_iff_eq.mpr c6
            have c6b1 : (((rd_T37 t151 3).f1).toList != ([60, 61] : List UInt8)) = false := bne_eq_false_iff_eq.mpr c6
            clear c6
            by_cases c7 : 5 < (t151.length : Int)
            · rw [if_pos c7] at H
              have c7b0 : decide (5 < (t151.length : Int)) = true := decide_eq_true c7
              have c7b1 : decide (5 < t151.length) = true := decide_eq_true (by omega)
              clear c7
              by_cases c8 : ((rd_T37 t151 5).f2) = 3
              · rw [if_pos c8] at H
                have c8b0 : (((rd_T37 t151 5).f2) == 3) = true := beq_iff_eq.mpr c8
                have c8b1 : (((rd_T37 t151 5).f2) != 3) = false := bne_eq_false_iff_eq.mpr c8
                clear c8
                by_cases c9 : ((rd_T37 t151 5).f3) = 9
                · rw [if_pos c9] at H
                  have c9b0 : (((rd_T37 t151 5).f3) == 9) = true := beq_iff_eq.mpr c9
                  have c9b1 : (((rd_T37 t151 5).f3) != 9) = false := bne_eq_false_iff_eq.mpr c9
                  clear c9
                  by_cases c10 : 7 < (t151.length : Int)
                  · rw [if_pos c10] at H
                    have c10b0 : decide (7 < (t151.length : Int)) = true := decide_eq_true c10
                    have c10b1 : decide (7 < t151.length) = true := decide_eq_true (by omega)
                    clear c10
                    by_cases c11 : ((rd_T37 t151 7).f0) = 0
                    · rw [if_pos c11] at H
                      have c11b0 : (((rd_T37 t151 7).f0) == 0) = true := beq_iff_eq.mpr c11
                      have c11b1 : (((rd_T37 t151 7).f0) != 0) = false := bne_eq_false_iff_eq.mpr c11
                      clear c11
                      by_cases c12 : ((rd_T37 t151 7).f3) = 17
                      · rw [if_pos c12] at H
                        have c12b0 : (((rd_T37 t151 7).f3) == 17) = true := beq_iff_eq.mpr c12
                        have c12b1 : (((rd_T37 t151 7).f3) != 17) = false := bne_eq_false_iff_eq.mpr c12
                        clear c12
                        replace H := Option.bind_eq_some_iff.mp H
                        obtain ⟨t160, A130, H⟩ := H
                        replace H : (some (t160.toList == ([120, 49, 61, 97, 60, 61, 45, 51, 59] : List UInt8))) = some r := H
                        have A13 := Aside0.mk A130
                        clear A130
                        obtain rfl := Option.some.inj H
                        go_enter Tryd.func10, Tryd.ntmps10
                        go_wp2_with (first | ((with_reducible refine gate_callee (f := 13) rfl ?_); refine goesL_ (some 2) rfl rfl Tryd.func13 (by kernel_rfl) rfl #[.string (⟨#[120, 49, 32, 61, 32, 97, 60, 61, 45, 51, 59, 47, 47, 32, 101, 110, 100]⟩ : ByteArray)] rfl (by (try simp only [List.map_toArray, List.map_cons, List.map_nil]); first | done | rfl | (simp only [List.length_drop, List.length_take]; rfl)) ?_; (with_reducible refine (lexer_Scan.calls k (⟨#[120, 49, 32, 61, 32, 97, 60, 61, 45, 51, 59, 47, 47, 32, 101, 110, 100]⟩ : ByteArray) t151 _ ?side1 A1.out).mono ?_); (case side1 => refine GW.below HG.out ?_; repeat (first | (with_reducible first | exact HB.out | apply below_alloc | apply pw_below_drewN | apply below_drew1) | exact HB.out)); rintro e w14 ⟨v152, rfl, ho0, hb⟩; refine ⟨_, rfl, ?_⟩; have n0_ := Aside0.mk (Kd.R_lower ho0 (below_size (by repeat (first | (with_reducible first | exact HB.out | apply below_alloc | apply pw_below_drewN | apply below_drew1) | exact HB.out)))); have n1_ := Aside0.mk (below_step (by repeat (first | (with_reducible first | exact HB.out | apply below_alloc | apply pw_below_drewN | apply below_drew1) | exact HB.out)) hb); clear HB; have HO153 := n0_; have HB := n1_; clear n0_ n1_; (try clear hb); (try clear hb2); (try clear hk); (try clear hi); (try clear ho0); obtain ⟨Ao15, co15, eo15⟩ := Kd.R_slice HO153.out; subst eo15; have p154 : 0 ≤ (0 : Int) := (by omega); have q154 : 0 < (t151.length : Int) := of_decide_eq_true (by first | (with_reducible assumption) | assumption); obtain ⟨ad154, e154, hx154_0, hx154_1, hx154_2, hx154_3⟩ := at_T37 (Kd.R_reads' HO153.out).2.2 0 p154 q154; cases e154; have qi154 : (0 < t151.length) = True := eq_true (by omega); (try rw [show ((0 : Int)).toNat = 0 from rfl] at hx154_0); (try rw [show 0 * 4 = 0 from rfl] at hx154_0); (try rw [Addr.add_zero'] at hx154_0); (try rw [show ((0 : Int)).toNat = 0 from rfl] at hx154_1); (try rw [show 0 * 4 = 0 from rfl] at hx154_1); (try rw [Addr.add_zero'] at hx154_1); (try rw [show ((0 : Int)).toNat = 0 from rfl] at hx154_2); (try rw [show 0 * 4 = 0 from rfl] at hx154_2); (try rw [Addr.add_zero'] at hx154_2); (try rw [show ((0 : Int)).toNat = 0 from rfl] at hx154_3); (try rw [show 0 * 4 = 0 from rfl] at hx154_3); (try rw [Addr.add_zero'] at hx154_3); replace p154 := eq_true p154; replace q154 := eq_true q154; have p155 : 0 ≤ (3 : Int) := (by omega); have q155 : 3 < (t151.length : Int) := of_decide_eq_true (by first | (with_reducible assumption) | assumption); obtain ⟨ad155, e155, hx155_0, hx155_1, hx155_2, hx155_3⟩ := at_T37 (Kd.R_reads' HO153.out).2.2 3 p155 q155; obtain rfl : ad154 = ad155 := (by injection e155); (try simp only [show (3 : Int).toNat = 3 from rfl, Nat.reduceMul, Nat.reduceEqDiff, Go.Addr.add, ↓reduceIte] at hx155_0); (try simp only [show (3 : Int).toNat = 3 from rfl, Nat.reduceMul, Nat.reduceEqDiff, Go.Addr.add, ↓reduceIte] at hx155_1); (try simp only [show (3 : Int).toNat = 3 from rfl, Nat.reduceMul, Nat.reduceEqDiff, Go.Addr.add, ↓reduceIte] at hx155_2); (try simp only [show (3 : Int).toNat = 3 from rfl, Nat.reduceMul, Nat.reduceEqDiff, Go.Addr.add, ↓reduceIte] at hx155_3); have qi155 : (3 < t151.length) = True := eq_true (by omega); (try rw [show ((3 : Int)).toNat = 3 from rfl] at hx155_0); (try rw [show 3 * 4 = 12 from rfl] at hx155_0); (try rw [show ((3 : Int)).toNat = 3 from rfl] at hx155_1); (try rw [show 3 * 4 = 12 from rfl] at hx155_1); (try rw [show ((3 : Int)).toNat = 3 from rfl] at hx155_2); (try rw [show 3 * 4 = 12 from rfl] at hx155_2); (try rw [show ((3 : Int)).toNat = 3 from rfl] at hx155_3); (try rw [show 3 * 4 = 12 from rfl] at hx155_3); replace p155 := eq_true p155; replace q155 := eq_true q155; have p156 : 0 ≤ (5 : Int) := (by omega); have q156 : 5 < (t151.length : Int) := of_decide_eq_true (by first | (with_reducible assumption) | assumption); obtain ⟨ad156, e156, hx156_0, hx156_1, hx156_2, hx156_3⟩ := at_T37 (Kd.R_reads' HO153.out).2.2 5 p156 q156; obtain rfl : ad154 = ad156 := (by injection e156); (try simp only [show (5 : Int).toNat = 5 from rfl, Nat.reduceMul, Nat.reduceEqDiff, Go.Addr.add, ↓reduceIte] at hx156_0); (try simp only [show (5 : Int).toNat = 5 from rfl, Nat.reduceMul, Nat.reduceEqDiff, Go.Addr.add, ↓reduceIte] at hx156_1); (try simp only [show (5 : Int).toNat = 5 from rfl, Nat.reduceMul, Nat.reduceEqDiff, Go.Addr.add, ↓reduceIte] at hx156_2); (try simp only [show (5 : Int).toNat = 5 from rfl, Nat.reduceMul, Nat.reduceEqDiff, Go.Addr.add, ↓reduceIte] at hx156_3); have qi156 : (5 < t151.length) = True := eq_true (by omega); (try rw [show ((5 : Int)).toNat = 5 from rfl] at hx156_0); (try rw [show 5 * 4 = 20 from rfl] at hx156_0); (try rw [show ((5 : Int)).toNat = 5 from rfl] at hx156_1); (try rw [show 5 * 4 = 20 from rfl] at hx156_1); (try rw [show ((5 : Int)).toNat = 5 from rfl] at hx156_2); (try rw [show 5 * 4 = 20 from rfl] at hx156_2); (try rw [show ((5 : Int)).toNat = 5 from rfl] at hx156_3); (try rw [show 5 * 4 = 20 from rfl] at hx156_3); replace p156 := eq_true p156; replace q156 := eq_true q156; have p157 : 0 ≤ (5 : Int) := (by omega); have q157 : 5 < (t151.length : Int) := of_decide_eq_true (by first | (with_reducible assumption) | assumption); obtain ⟨ad157, e157, hx157_0, hx157_1, hx157_2, hx157_3⟩ := at_T37 (Kd.R_reads' HO153.out).2.2 5 p157 q157; obtain rfl : ad154 = ad157 := (by injection e157); (try simp only [show (5 : Int).toNat = 5 from rfl, Nat.reduceMul, Nat.reduceEqDiff, Go.Addr.add, ↓reduceIte] at hx157_0); (try simp only [show (5 : Int).toNat = 5 from rfl, Nat.reduceMul, Nat.reduceEqDiff, Go.Addr.add, ↓reduceIte] at hx157_1); (try simp only [show (5 : Int).toNat = 5 from rfl, Nat.reduceMul, Nat.reduceEqDiff, Go.Addr.add, ↓reduceIte] at hx157_2); (try simp only [show (5 : Int).toNat = 5 from rfl, Nat.reduceMul, Nat.reduceEqDiff, Go.Addr.add, ↓reduceIte] at hx157_3); have qi157 : (5 < t151.length) = True := eq_true (by omega); (try rw [show ((5 : Int)).toNat = 5 from rfl] at hx157_0); (try rw [show 5 * 4 = 20 from rfl] at hx157_0); (try rw [show ((5 : Int)).toNat = 5 from rfl] at hx157_1); (try rw [show 5 * 4 = 20 from rfl] at hx157_1); (try rw [show ((5 : Int)).toNat = 5 from rfl] at hx157_2); (try rw [show 5 * 4 = 20 from rfl] at hx157_2); (try rw [show ((5 : Int)).toNat = 5 from rfl] at hx157_3); (try rw [show 5 * 4 = 20 from rfl] at hx157_3); replace p157 := eq_true p157; replace q157 := eq_true q157; have p158 : 0 ≤ (7 : Int) := (by omega); have q158 : 7 < (t151.length : Int) := of_decide_eq_true (by first | (with_reducible assumption) | assumption); obtain ⟨ad158, e158, hx158_0, hx158_1, hx158_2, hx158_3⟩ := at_T37 (Kd.R_reads' HO153.out).2.2 7 p158 q158; obtain rfl : ad154 = ad158 := (by injection e158); (try simp only [show (7 : Int).toNat = 7 from rfl, Nat.reduceMul, Nat.reduceEqDiff, Go.Addr.add, ↓reduceIte] at hx158_0); (try simp only [show (7 : Int).toNat = 7 from rfl, Nat.reduceMul, Nat.reduceEqDiff, Go.Addr.add, ↓reduceIte] at hx158_1); (try simp only [show (7 : Int).toNat = 7 from rfl, Nat.reduceMul, Nat.reduceEqDiff, Go.Addr.add, ↓reduceIte] at hx158_2); (try simp only [show (7 : Int).toNat = 7 from rfl, Nat.reduceMul, Nat.reduceEqDiff, Go.Addr.add, ↓reduceIte] at hx158_3); have qi158 : (7 < t151.length) = True := eq_true (by omega); (try rw [show ((7 : Int)).toNat = 7 from rfl] at hx158_0); (try rw [show 7 * 4 = 28 from rfl] at hx158_0); (try rw [show ((7 : Int)).toNat = 7 from rfl] at hx158_1); (try rw [show 7 * 4 = 28 from rfl] at hx158_1); (try rw [show ((7 : Int)).toNat = 7 from rfl] at hx158_2); (try rw [show 7 * 4 = 28 from rfl] at hx158_2); (try rw [show ((7 : Int)).toNat = 7 from rfl] at hx158_3); (try rw [show 7 * 4 = 28 from rfl] at hx158_3); replace p158 := eq_true p158; replace q158 := eq_true q158; have p159 : 0 ≤ (7 : Int) := (by omega); have q159 : 7 < (t151.length : Int) := of_decide_eq_true (by first | (with_reducible assumption) | assumption); obtain ⟨ad159, e159, hx159_0, hx159_1, hx159_2, hx159_3⟩ := at_T37 (Kd.R_reads' HO153.out).2.2 7 p159 q159; obtain rfl : ad154 = ad159 := (by injection e159); (try simp only [show (7 : Int).toNat = 7 from rfl, Nat.reduceMul, Nat.reduceEqDiff, Go.Addr.add, ↓reduceIte] at hx159_0); (try simp only [show (7 : Int).toNat = 7 from rfl, Nat.reduceMul, Nat.reduceEqDiff, Go.Addr.add, ↓reduceIte] at hx159_1); (try simp only [show (7 : Int).toNat = 7 from rfl, Nat.reduceMul, Nat.reduceEqDiff, Go.Addr.add, ↓reduceIte] at hx159_2); (try simp only [show (7 : Int).toNat = 7 from rfl, Nat.reduceMul, Nat.reduceEqDiff, Go.Addr.add, ↓reduceIte] at hx159_3); have qi159 : (7 < t151.length) = True := eq_true (by omega); (try rw [show ((7 : Int)).toNat = 7 from rfl] at hx159_0); (try rw [show 7 * 4 = 28 from rfl] at hx159_0); (try rw [show ((7 : Int)).toNat = 7 from rfl] at hx159_1); (try rw [show 7 * 4 = 28 from rfl] at hx159_1); (try rw [show ((7 : Int)).toNat = 7 from rfl] at hx159_2); (try rw [show 7 * 4 = 28 from rfl] at hx159_2); (try rw [show ((7 : Int)).toNat = 7 from rfl] at hx159_3); (try rw [show 7 * 4 = 28 from rfl] at hx159_3); replace p159 := eq_true p159; replace q159 := eq_true q159) | (go_at_call 15; (with_reducible refine (lexer_Join.calls k _ _ t151 t160 _ ?side1 ?side2 ?side3 A13.out).mono ?_); (case side1 => repeat (first | exact (Kd.R_reads' HO153.out).2.2 | (with_reducible refine Kd.C_alloc ?_ _) | (with_reducible refine Kd.C_drewN ?_ _) | (with_reducible refine Kd.C_drew ?_))); (case side2 => exact (Kd.R_reads' HO153.out).2.1); (case side3 => refine GW.below HG.out ?_; repeat (first | (with_reducible first | exact HB.out | apply below_alloc | apply pw_below_drewN | apply below_drew1) | exact HB.out)); rintro e w16 ⟨rfl, hb⟩; have n0_ := Aside0.mk (Kd.R_below (by (with_reducible repeat (first | apply Kd.R_alloc | apply Kd.R_drewN | apply Kd.R_drew)); exact HO153.out) hb); have n1_ := Aside0.mk (below_step (by repeat (first | (with_reducible first | exact HB.out | apply below_alloc | apply pw_below_drewN | apply below_drew1) | exact HB.out)) hb); clear HO153; clear HB; have HO153 := n0_; have HB := n1_; clear n0_ n1_; (try clear hb); (try clear hb2); (try clear hk); (try clear hi)))
                        go_ret
                        exact ⟨by first | rfl | (simp [errW_none, errW_some] <;> rfl) | (simp [*, errW_none, errW_some] <;> rfl), by repeat (first | (with_reducible first | exact HB.out | apply below_alloc | apply pw_below_drewN | apply below_drew1) | exact HB.out)⟩
                      · rw [if_neg c12] at H
                        have c12b0 : (((rd_T37 t151 7).f3) == 17) = false := beq_eq_false_iff_ne.mpr c12
                        have c12b1 : (((rd_T37 t151 7).f3) != 17) = true := bne_iff_ne.mpr c12
                        obtain rfl := Option.some.inj H
                        go_enter Tryd.func10, Tryd.ntmps10
                        go_wp2_with (first | ((with_reducible refine gate_callee (f := 13) rfl ?_); refine goesL_ (some 2) rfl rfl Tryd.func13 (by kernel_rfl) rfl #[.string (⟨#[120, 49, 32, 61, 32, 97, 60, 61, 45, 51, 59, 47, 47, 32, 101, 110, 100]⟩ : ByteArray)] rfl (by (try simp only [List.map_toArray, List.map_cons, List.map_nil]); first | done | rfl | (simp only [List.length_drop, List.length_take]; rfl)) ?_; (with_reducible refine (lexer_Scan.calls k (⟨#[120, 49, 32, 61, 32, 97, 60, 61, 45, 51, 59, 47, 47, 32, 101, 110, 100]⟩ : ByteArray) t151 _ ?side1 A1.out).mono ?_); (case side1 => refine GW.below HG.out ?_; repeat (first | (with_reducible first | exact HB.out | apply below_alloc | apply pw_below_drewN | apply below_drew1) | exact HB.out)); rintro e w17 ⟨v152, rfl, ho0, hb⟩; refine ⟨_, rfl, ?_⟩; have n0_ := Aside0.mk (Kd.R_lower ho0 (below_size (by repeat (first | (with_reducible first | exact HB.out | apply below_alloc | apply pw_below_drewN | apply below_drew1) | exact HB.out)))); have n1_ := Aside0.mk (below_step (by repeat (first | (with_reducible first | exact HB.out | apply below_alloc | apply pw_below_drewN | apply below_drew1) | exact HB.out)) hb); clear HB; have HO153 := n0_; have HB := n1_; clear n0_ n1_; (try clear hb); (try clear hb2); (try clear hk); (try clear hi); (try clear ho0); obtain ⟨Ao18, co18, eo18⟩ := Kd.R_slice HO153.out; subst eo18; have p154 : 0 ≤ (0 : Int) := (by omega); have q154 : 0 < (t151.length : Int) := of_decide_eq_true (by first | (with_reducible assumption) | assumption); obtain ⟨ad154, e154, hx154_0, hx154_1, hx154_2, hx154_3⟩ := at_T37 (Kd.R_reads' HO153.out).2.2 0 p154 q154; cases e154; have qi154 : (0 < t151.length) = True := eq_true (by omega); (try rw [show ((0 : Int)).toNat = 0 from rfl] at hx154_0); (try rw [show 0 * 4 = 0 from rfl] at hx154_0); (try rw [Addr.add_zero'] at hx154_0); (try rw [show ((0 : Int)).toNat = 0 from rfl] at hx154_1); (try rw [show 0 * 4 = 0 from rfl] at hx154_1); (try rw [Addr.add_zero'] at hx154_1); (try rw [show ((0 : Int)).toNat = 0 from rfl] at hx154_2); (try rw [show 0 * 4 = 0 from rfl] at hx154_2); (try rw [Addr.add_zero'] at hx154_2); (try rw [show ((0 : Int)).toNat = 0 from rfl] at hx154_3); (try rw [show 0 * 4 = 0 from rfl] at hx154_3); (try rw [Addr.add_zero'] at hx154_3); replace p154 := eq_true p154; replace q154 := eq_true q154; have p155 : 0 ≤ (3 : Int) := (by omega); have q155 : 3 < (t151.length : Int) := of_decide_eq_true (by first | (with_reducible assumption) | assumption); obtain ⟨ad155, e155, hx155_0, hx155_1, hx155_2, hx155_3⟩ := at_T37 (Kd.R_reads' HO153.out).2.2 3 p155 q155; obtain rfl : ad154 = ad155 := (by injection e155); (try simp only [show (3 : Int).toNat = 3 from rfl, Nat.reduceMul, Nat.reduceEqDiff, Go.Addr.add, ↓reduceIte] at hx155_0); (try simp only [show (3 : Int).toNat = 3 from rfl, Nat.reduceMul, Nat.reduceEqDiff, Go.Addr.add, ↓reduceIte] at hx155_1); (try simp only [show (3 : Int).toNat = 3 from rfl, Nat.reduceMul, Nat.reduceEqDiff, Go.Addr.add, ↓reduceIte] at hx155_2); (try simp only [show (3 : Int).toNat = 3 from rfl, Nat.reduceMul, Nat.reduceEqDiff, Go.Addr.add, ↓reduceIte] at hx155_3); have qi155 : (3 < t151.length) = True := eq_true (by omega); (try rw [show ((3 : Int)).toNat = 3 from rfl] at hx155_0); (try rw [show 3 * 4 = 12 from rfl] at hx155_0); (try rw [show ((3 : Int)).toNat = 3 from rfl] at hx155_1); (try rw [show 3 * 4 = 12 from rfl] at hx155_1); (try rw [show ((3 : Int)).toNat = 3 from rfl] at hx155_2); (try rw [show 3 * 4 = 12 from rfl] at hx155_2); (try rw [show ((3 : Int)).toNat = 3 from rfl] at hx155_3); (try rw [show 3 * 4 = 12 from rfl] at hx155_3); replace p155 := eq_true p155; replace q155 := eq_true q155; have p156 : 0 ≤ (5 : Int) := (by omega); have q156 : 5 < (t151.length : Int) := of_decide_eq_true (by first | (with_reducible assumption) | assumption); obtain ⟨ad156, e156, hx156_0, hx156_1, hx156_2, hx156_3⟩ := at_T37 (Kd.R_reads' HO153.out).2.2 5 p156 q156; obtain rfl : ad154 = ad156 := (by injection e156); (try simp only [show (5 : Int).toNat = 5 from rfl, Nat.reduceMul, Nat.reduceEqDiff, Go.Addr.add, ↓reduceIte] at hx156_0); (try simp only [show (5 : Int).toNat = 5 from rfl, Nat.reduceMul, Nat.reduceEqDiff, Go.Addr.add, ↓reduceIte] at hx156_1); (try simp only [show (5 : Int).toNat = 5 from rfl, Nat.reduceMul, Nat.reduceEqDiff, Go.Addr.add, ↓reduceIte] at hx156_2); (try simp only [show (5 : Int).toNat = 5 from rfl, Nat.reduceMul, Nat.reduceEqDiff, Go.Addr.add, ↓reduceIte] at hx156_3); have qi156 : (5 < t151.length) = True := eq_true (by omega); (try rw [show ((5 : Int)).toNat = 5 from rfl] at hx156_0); (try rw [show 5 * 4 = 20 from rfl] at hx156_0); (try rw [show ((5 : Int)).toNat = 5 from rfl] at hx156_1); (try rw [show 5 * 4 = 20 from rfl] at hx156_1); (try rw [show ((5 : Int)).toNat = 5 from rfl] at hx156_2); (try rw [show 5 * 4 = 20 from rfl] at hx156_2); (try rw [show ((5 : Int)).toNat = 5 from rfl] at hx156_3); (try rw [show 5 * 4 = 20 from rfl] at hx156_3); replace p156 := eq_true p156; replace q156 := eq_true q156; have p157 : 0 ≤ (5 : Int) := (by omega); have q157 : 5 < (t151.length : Int) := of_decide_eq_true (by first | (with_reducible assumption) | assumption); obtain ⟨ad157, e157, hx157_0, hx157_1, hx157_2, hx157_3⟩ := at_T37 (Kd.R_reads' HO153.out).2.2 5 p157 q157; obtain rfl : ad154 = ad157 := (by injection e157); (try simp only [show (5 : Int).toNat = 5 from rfl, Nat.reduceMul, Nat.reduceEqDiff, Go.Addr.add, ↓reduceIte] at hx157_0); (try simp only [show (5 : Int).toNat = 5 from rfl, Nat.reduceMul, Nat.reduceEqDiff, Go.Addr.add, ↓reduceIte] at hx157_1); (try simp only [show (5 : Int).toNat = 5 from rfl, Nat.reduceMul, Nat.reduceEqDiff, Go.Addr.add, ↓reduceIte] at hx157_2); (try simp only [show (5 : Int).toNat = 5 from rfl, Nat.reduceMul, Nat.reduceEqDiff, Go.Addr.add, ↓reduceIte] at hx157_3); have qi157 : (5 < t151.length) = True := eq_true (by omega); (try rw [show ((5 : Int)).toNat = 5 from rfl] at hx157_0); (try rw [show 5 * 4 = 20 from rfl] at hx157_0); (try rw [show ((5 : Int)).toNat = 5 from rfl] at hx157_1); (try rw [show 5 * 4 = 20 from rfl] at hx157_1); (try rw [show ((5 : Int)).toNat = 5 from rfl] at hx157_2); (try rw [show 5 * 4 = 20 from rfl] at hx157_2); (try rw [show ((5 : Int)).toNat = 5 from rfl] at hx157_3); (try rw [show 5 * 4 = 20 from rfl] at hx157_3); replace p157 := eq_true p157; replace q157 := eq_true q157; have p158 : 0 ≤ (7 : Int) := (by omega); have q158 : 7 < (t151.length : Int) := of_decide_eq_true (by first | (with_reducible assumption) | assumption); obtain ⟨ad158, e158, hx158_0, hx158_1, hx158_2, hx158_3⟩ := at_T37 (Kd.R_reads' HO153.out).2.2 7 p158 q158; obtain rfl : ad154 = ad158 := (by injection e158); (try simp only [show (7 : Int).toNat = 7 from rfl, Nat.reduceMul, Nat.reduceEqDiff, Go.Addr.add, ↓reduceIte] at hx158_0); (try simp only [show (7 : Int).toNat = 7 from rfl, Nat.reduceMul, Nat.reduceEqDiff, Go.Addr.add, ↓reduceIte] at hx158_1); (try simp only [show (7 : Int).toNat = 7 from rfl, Nat.reduceMul, Nat.reduceEqDiff, Go.Addr.add, ↓reduceIte] at hx158_2); (try simp only [show (7 : Int).toNat = 7 from rfl, Nat.reduceMul, Nat.reduceEqDiff, Go.Addr.add, ↓reduceIte] at hx158_3); have qi158 : (7 < t151.length) = True := eq_true (by omega); (try rw [show ((7 : Int)).toNat = 7 from rfl] at hx158_0); (try rw [show 7 * 4 = 28 from rfl] at hx158_0); (try rw [show ((7 : Int)).toNat = 7 from rfl] at hx158_1); (try rw [show 7 * 4 = 28 from rfl] at hx158_1); (try rw [show ((7 : Int)).toNat = 7 from rfl] at hx158_2); (try rw [show 7 * 4 = 28 from rfl] at hx158_2); (try rw [show ((7 : Int)).toNat = 7 from rfl] at hx158_3); (try rw [show 7 * 4 = 28 from rfl] at hx158_3); replace p158 := eq_true p158; replace q158 := eq_true q158; have p159 : 0 ≤ (7 : Int) := (by omega); have q159 : 7 < (t151.length : Int) := of_decide_eq_true (by first | (with_reducible assumption) | assumption); obtain ⟨ad159, e159, hx159_0, hx159_1, hx159_2, hx159_3⟩ := at_T37 (Kd.R_reads' HO153.out).2.2 7 p159 q159; obtain rfl : ad154 = ad159 := (by injection e159); (try simp only [show (7 : Int).toNat = 7 from rfl, Nat.reduceMul, Nat.reduceEqDiff, Go.Addr.add, ↓reduceIte] at hx159_0); (try simp only [show (7 : Int).toNat = 7 from rfl, Nat.reduceMul, Nat.reduceEqDiff, Go.Addr.add, ↓reduceIte] at hx159_1); (try simp only [show (7 : Int).toNat = 7 from rfl, Nat.reduceMul, Nat.reduceEqDiff, Go.Addr.add, ↓reduceIte] at hx159_2); (try simp only [show (7 : Int).toNat = 7 from rfl, Nat.reduceMul, Nat.reduceEqDiff, Go.Addr.add, ↓reduceIte] at hx159_3); have qi159 : (7 < t151.length) = True := eq_true (by omega); (try rw [show ((7 : Int)).toNat = 7 from rfl] at hx159_0); (try rw [show 7 * 4 = 28 from rfl] at hx159_0); (try rw [show ((7 : Int)).toNat = 7 from rfl] at hx159_1); (try rw [show 7 * 4 = 28 from rfl] at hx159_1); (try rw [show ((7 : Int)).toNat = 7 from rfl] at hx159_2); (try rw [show 7 * 4 = 28 from rfl] at hx159_2); (try rw [show ((7 : Int)).toNat = 7 from rfl] at hx159_3); (try rw [show 7 * 4 = 28 from rfl] at hx159_3); replace p159 := eq_true p159; replace q159 := eq_true q159))
                        go_ret
                        exact ⟨by first | rfl | (simp [errW_none, errW_some] <;> rfl) | (simp [*, errW_none, errW_some] <;> rfl), by repeat (first | (with_reducible first | exact HB.out | apply below_alloc | apply pw_below_drewN | apply below_drew1) | exact HB.out)⟩
                    · rw [if_neg c11] at H
                      have c11b0 : (((rd_T37 t151 7).f0) == 0) = false := beq_eq_false_iff_ne.mpr c11
                      have c11b1 : (((rd_T37 t151 7).f0) != 0) = true := bne_iff_ne.mpr c11
                      obtain rfl := Option.some.inj H
                      go_enter Tryd.func10, Tryd.ntmps10
                      go_wp2_with (first | ((with_reducible refine gate_callee (f := 13) rfl ?_); refine goesL_ (some 2) rfl rfl Tryd.func13 (by kernel_rfl) rfl #[.string (⟨#[120, 49, 32, 61, 32, 97, 60, 61, 45, 51, 59, 47, 47, 32, 101, 110, 100]⟩ : ByteArray)] rfl (by (try simp only [List.map_toArray, List.map_cons, List.map_nil]); first | done | rfl | (simp only [List.length_drop, List.length_take]; rfl)) ?_; (with_reducible refine (lexer_Scan.calls k (⟨#[120, 49, 32, 61, 32, 97, 60, 61, 45, 51, 59, 47, 47, 32, 101, 110, 100]⟩ : ByteArray) t151 _ ?side1 A1.out).mono ?_); (case side1 => refine GW.below HG.out ?_; repeat (first | (with_reducible first | exact HB.out | apply below_alloc | apply pw_below_drewN | apply below_drew1) | exact HB.out)); rintro e w19 ⟨v152, rfl, ho0, hb⟩; refine ⟨_, rfl, ?_⟩; have n0_ := Aside0.mk (Kd.R_lower ho0 (below_size (by repeat (first | (with_reducible first | exact HB.out | apply below_alloc | apply pw_below_drewN | apply below_drew1) | exact HB.out)))); have n1_ := Aside0.mk (below_step (by repeat (first | (with_reducible first | exact HB.out | apply below_alloc | apply pw_below_drewN | apply below_drew1) | exact HB.out)) hb); clear HB; have HO153 := n0_; have HB := n1_; clear n0_ n1_; (try clear hb); (try clear hb2); (try clear hk); (try clear hi); (try clear ho0); obtain ⟨Ao20, co20, eo20⟩ := Kd.R_slice HO153.out; subst eo20; have p154 : 0 ≤ (0 : Int) := (by omega); have q154 : 0 < (t151.length : Int) := of_decide_eq_true (by first | (with_reducible assumption) | assumption); obtain ⟨ad154, e154, hx154_0, hx154_1, hx154_2, hx154_3⟩ := at_T37 (Kd.R_reads' HO153.out).2.2 0 p154 q154; cases e154; have qi154 : (0 < t151.length) = True := eq_true (by omega); (try rw [show ((0 : Int)).toNat = 0 from rfl] at hx154_0); (try rw [show 0 * 4 = 0 from rfl] at hx154_0); (try rw [Addr.add_zero'] at hx154_0); (try rw [show ((0 : Int)).toNat = 0 from rfl] at hx154_1); (try rw [show 0 * 4 = 0 from rfl] at hx154_1); (try rw [Addr.add_zero'] at hx154_1); (try rw [show ((0 : Int)).toNat = 0 from rfl] at hx154_2); (try rw [show 0 * 4 = 0 from rfl] at hx154_2); (try rw [Addr.add_zero'] at hx154_2); (try rw [show ((0 : Int)).toNat = 0 from rfl] at hx154_3); (try rw [show 0 * 4 = 0 from rfl] at hx154_3); (try rw [Addr.add_zero'] at hx154_3); replace p154 := eq_true p154; replace q154 := eq_true q154; have p155 : 0 ≤ (3 : Int) := (by omega); have q155 : 3 < (t151.length : Int) := of_decide_eq_true (by first | (with_reducible assumption) | assumption); obtain ⟨ad155, e155, hx155_0, hx155_1, hx155_2, hx155_3⟩ := at_T37 (Kd.R_reads' HO153.out).2.2 3 p155 q155; obtain rfl : ad154 = ad155 := (by injection e155); (try simp only [show (3 : Int).toNat = 3 from rfl, Nat.reduceMul, Nat.reduceEqDiff, Go.Addr.add, ↓reduceIte] at hx155_0); (try simp only [show (3 : Int).toNat = 3 from rfl, Nat.reduceMul, Nat.reduceEqDiff, Go.Addr.add, ↓reduceIte] at hx155_1); (try simp only [show (3 : Int).toNat = 3 from rfl, Nat.reduceMul, Nat.reduceEqDiff, Go.Addr.add, ↓reduceIte] at hx155_2); (try simp only [show (3 : Int).toNat = 3 from rfl, Nat.reduceMul, Nat.reduceEqDiff, Go.Addr.add, ↓reduceIte] at hx155_3); have qi155 : (3 < t151.length) = True := eq_true (by omega); (try rw [show ((3 : Int)).toNat = 3 from rfl] at hx155_0); (try rw [show 3 * 4 = 12 from rfl] at hx155_0); (try rw [show ((3 : Int)).toNat = 3 from rfl] at hx155_1); (try rw [show 3 * 4 = 12 from rfl] at hx155_1); (try rw [show ((3 : Int)).toNat = 3 from rfl] at hx155_2); (try rw [show 3 * 4 = 12 from rfl] at hx155_2); (try rw [show ((3 : Int)).toNat = 3 from rfl] at hx155_3); (try rw [show 3 * 4 = 12 from rfl] at hx155_3); replace p155 := eq_true p155; replace q155 := eq_true q155; have p156 : 0 ≤ (5 : Int) := (by omega); have q156 : 5 < (t151.length : Int) := of_decide_eq_true (by first | (with_reducible assumption) | assumption); obtain ⟨ad156, e156, hx156_0, hx156_1, hx156_2, hx156_3⟩ := at_T37 (Kd.R_reads' HO153.out).2.2 5 p156 q156; obtain rfl : ad154 = ad156 := (by injection e156); (try simp only [show (5 : Int).toNat = 5 from rfl, Nat.reduceMul, Nat.reduceEqDiff, Go.Addr.add, ↓reduceIte] at hx156_0); (try simp only [show (5 : Int).toNat = 5 from rfl, Nat.reduceMul, Nat.reduceEqDiff, Go.Addr.add, ↓reduceIte] at hx156_1); (try simp only [show (5 : Int).toNat = 5 from rfl, Nat.reduceMul, Nat.reduceEqDiff, Go.Addr.add, ↓reduceIte] at hx156_2); (try simp only [show (5 : Int).toNat = 5 from rfl, Nat.reduceMul, Nat.reduceEqDiff, Go.Addr.add, ↓reduceIte] at hx156_3); have qi156 : (5 < t151.length) = True := eq_true (by omega); (try rw [show ((5 : Int)).toNat = 5 from rfl] at hx156_0); (try rw [show 5 * 4 = 20 from rfl] at hx156_0); (try rw [show ((5 : Int)).toNat = 5 from rfl] at hx156_1); (try rw [show 5 * 4 = 20 from rfl] at hx156_1); (try rw [show ((5 : Int)).toNat = 5 from rfl] at hx156_2); (try rw [show 5 * 4 = 20 from rfl] at hx156_2); (try rw [show ((5 : Int)).toNat = 5 from rfl] at hx156_3); (try rw [show 5 * 4 = 20 from rfl] at hx156_3); replace p156 := eq_true p156; replace q156 := eq_true q156; have p157 : 0 ≤ (5 : Int) := (by omega); have q157 : 5 < (t151.length : Int) := of_decide_eq_true (by first | (with_reducible assumption) | assumption); obtain ⟨ad157, e157, hx157_0, hx157_1, hx157_2, hx157_3⟩ := at_T37 (Kd.R_reads' HO153.out).2.2 5 p157 q157; obtain rfl : ad154 = ad157 := (by injection e157); (try simp only [show (5 : Int).toNat = 5 from rfl, Nat.reduceMul, Nat.reduceEqDiff, Go.Addr.add, ↓reduceIte] at hx157_0); (try simp only [show (5 : Int).toNat = 5 from rfl, Nat.reduceMul, Nat.reduceEqDiff, Go.Addr.add, ↓reduceIte] at hx157_1); (try simp only [show (5 : Int).toNat = 5 from rfl, Nat.reduceMul, Nat.reduceEqDiff, Go.Addr.add, ↓reduceIte] at hx157_2); (try simp only [show (5 : Int).toNat = 5 from rfl, Nat.reduceMul, Nat.reduceEqDiff, Go.Addr.add, ↓reduceIte] at hx157_3); have qi157 : (5 < t151.length) = True := eq_true (by omega); (try rw [show ((5 : Int)).toNat = 5 from rfl] at hx157_0); (try rw [show 5 * 4 = 20 from rfl] at hx157_0); (try rw [show ((5 : Int)).toNat = 5 from rfl] at hx157_1); (try rw [show 5 * 4 = 20 from rfl] at hx157_1); (try rw [show ((5 : Int)).toNat = 5 from rfl] at hx157_2); (try rw [show 5 * 4 = 20 from rfl] at hx157_2); (try rw [show ((5 : Int)).toNat = 5 from rfl] at hx157_3); (try rw [show 5 * 4 = 20 from rfl] at hx157_3); replace p157 := eq_true p157; replace q157 := eq_true q157; have p158 : 0 ≤ (7 : Int) := (by omega); have q158 : 7 < (t151.length : Int) := of_decide_eq_true (by first | (with_reducible assumption) | assumption); obtain ⟨ad158, e158, hx158_0, hx158_1, hx158_2, hx158_3⟩ := at_T37 (Kd.R_reads' HO153.out).2.2 7 p158 q158; obtain rfl : ad154 = ad158 := (by injection e158); (try simp only [show (7 : Int).toNat = 7 from rfl, Nat.reduceMul, Nat.reduceEqDiff, Go.Addr.add, ↓reduceIte] at hx158_0); (try simp only [show (7 : Int).toNat = 7 from rfl, Nat.reduceMul, Nat.reduceEqDiff, Go.Addr.add, ↓reduceIte] at hx158_1); (try simp only [show (7 : Int).toNat = 7 from rfl, Nat.reduceMul, Nat.reduceEqDiff, Go.Addr.add, ↓reduceIte] at hx158_2); (try simp only [show (7 : Int).toNat = 7 from rfl, Nat.reduceMul, Nat.reduceEqDiff, Go.Addr.add, ↓reduceIte] at hx158_3); have qi158 : (7 < t151.length) = True := eq_true (by omega); (try rw [show ((7 : Int)).toNat = 7 from rfl] at hx158_0); (try rw [show 7 * 4 = 28 from rfl] at hx158_0); (try rw [show ((7 : Int)).toNat = 7 from rfl] at hx158_1); (try rw [show 7 * 4 = 28 from rfl] at hx158_1); (try rw [show ((7 : Int)).toNat = 7 from rfl] at hx158_2); (try rw [show 7 * 4 = 28 from rfl] at hx158_2); (try rw [show ((7 : Int)).toNat = 7 from rfl] at hx158_3); (try rw [show 7 * 4 = 28 from rfl] at hx158_3); replace p158 := eq_true p158; replace q158 := eq_true q158))
                      go_ret
                      exact ⟨by first | rfl | (simp [errW_none, errW_some] <;> rfl) | (simp [*, errW_none, errW_some] <;> rfl), by repeat (first | (with_reducible first | exact HB.out | apply below_alloc | apply pw_below_drewN | apply below_drew1) | exact HB.out)⟩
                  · rw [if_neg c10] at H
                    exact absurd H (by simp)
                · rw [if_neg c9] at H
                  have c9b0 : (((rd_T37 t151 5).f3) == 9) = false := beq_eq_false_iff_ne.mpr c9
                  have c9b1 : (((rd_T37 t151 5).f3) != 9) = true := bne_iff_ne.mpr c9
                  obtain rfl := Option.some.inj H
                  go_enter Tryd.func10, Tryd.ntmps10
                  go_wp2_with (first | ((with_reducible refine gate_callee (f := 13) rfl ?_); refine goesL_ (some 2) rfl rfl Tryd.func13 (by kernel_rfl) rfl #[.string (⟨#[120, 49, 32, 61, 32, 97, 60, 61, 45, 51, 59, 47, 47, 32, 101, 110, 100]⟩ : ByteArray)] rfl (by (try simp only [List.map_toArray, List.map_cons, List.map_nil]); first | done | rfl | (simp only [List.length_drop, List.length_take]; rfl)) ?_; (with_reducible refine (lexer_Scan.calls k (⟨#[120, 49, 32, 61, 32, 97, 60, 61, 45, 51, 59, 47, 47, 32, 101, 110, 100]⟩ : ByteArray) t151 _ ?side1 A1.out).mono ?_); (case side1 => refine GW.below HG.out ?_; repeat (first | (with_reducible first | exact HB.out | apply below_alloc | apply pw_below_drewN | apply below_drew1) | exact HB.out)); rintro e w21 ⟨v152, rfl, ho0, hb⟩; refine ⟨_, rfl, ?_⟩; have n0_ := Aside0.mk (Kd.R_lower ho0 (below_size (by repeat (first | (with_reducible first | exact HB.out | apply below_alloc | apply pw_below_drewN | apply below_drew1) | exact HB.out)))); have n1_ := Aside0.mk (below_step (by repeat (first | (with_reducible first | exact HB.out | apply below_alloc | apply pw_below_drewN | apply below_drew1) | exact HB.out)) hb); clear HB; have HO153 := n0_; have HB := n1_; clear n0_ n1_; (try clear hb); (try clear hb2); (try clear hk); (try clear hi); (try clear ho0); obtain ⟨Ao22, co22, eo22⟩ := Kd.R_slice HO153.out; subst eo22; have p154 : 0 ≤ (0 : Int) := (by omega); have q154 : 0 < (t151.length : Int) := of_decide_eq_true (by first | (with_reducible assumption) | assumption); obtain ⟨ad154, e154, hx154_0, hx154_1, hx154_2, hx154_3⟩ := at_T37 (Kd.R_reads' HO153.out).2.2 0 p154 q154; cases e154; have qi154 : (0 < t151.length) = True := eq_true (by omega); (try rw [show ((0 : Int)).toNat = 0 from rfl] at hx154_0); (try rw [show 0 * 4 = 0 from rfl] at hx154_0); (try rw [Addr.add_zero'] at hx154_0); (try rw [show ((0 : Int)).toNat = 0 from rfl] at hx154_1); (try rw [show 0 * 4 = 0 from rfl] at hx154_1); (try rw [Addr.add_zero'] at hx154_1); (try rw [show ((0 : Int)).toNat = 0 from rfl] at hx154_2); (try rw [show 0 * 4 = 0 from rfl] at hx154_2); (try rw [Addr.add_zero'] at hx154_2); (try rw [show ((0 : Int)).toNat = 0 from rfl] at hx154_3); (try rw [show 0 * 4 = 0 from rfl] at hx154_3); (try rw [Addr.add_zero'] at hx154_3); replace p154 := eq_true p154; replace q154 := eq_true q154; have p155 : 0 ≤ (3 : Int) := (by omega); have q155 : 3 < (t151.length : Int) := of_decide_eq_true (by first | (with_reducible assumption) | assumption); obtain ⟨ad155, e155, hx155_0, hx155_1, hx155_2, hx155_3⟩ := at_T37 (Kd.R_reads' HO153.out).2.2 3 p155 q155; obtain rfl : ad154 = ad155 := (by injection e155); (try simp only [show (3 : Int).toNat = 3 from rfl, Nat.reduceMul, Nat.reduceEqDiff, Go.Addr.add, ↓reduceIte] at hx155_0); (try simp only [show (3 : Int).toNat = 3 from rfl, Nat.reduceMul, Nat.reduceEqDiff, Go.Addr.add, ↓reduceIte] at hx155_1); (try simp only [show (3 : Int).toNat = 3 from rfl, Nat.reduceMul, Nat.reduceEqDiff, Go.Addr.add, ↓reduceIte] at hx155_2); (try simp only [show (3 : Int).toNat = 3 from rfl, Nat.reduceMul, Nat.reduceEqDiff, Go.Addr.add, ↓reduceIte] at hx155_3); have qi155 : (3 < t151.length) = True := eq_true (by omega); (try rw [show ((3 : Int)).toNat = 3 from rfl] at hx155_0); (try rw [show 3 * 4 = 12 from rfl] at hx155_0); (try rw [show ((3 : Int)).toNat = 3 from rfl] at hx155_1); (try rw [show 3 * 4 = 12 from rfl] at hx155_1); (try rw [show ((3 : Int)).toNat = 3 from rfl] at hx155_2); (try rw [show 3 * 4 = 12 from rfl] at hx155_2); (try rw [show ((3 : Int)).toNat = 3 from rfl] at hx155_3); (try rw [show 3 * 4 = 12 from rfl] at hx155_3); replace p155 := eq_true p155; replace q155 := eq_true q155; have p156 : 0 ≤ (5 : Int) := (by omega); have q156 : 5 < (t151.length : Int) := of_decide_eq_true (by first | (with_reducible assumption) | assumption); obtain ⟨ad156, e156, hx156_0, hx156_1, hx156_2, hx156_3⟩ := at_T37 (Kd.R_reads' HO153.out).2.2 5 p156 q156; obtain rfl : ad154 = ad156 := (by injection e156); (try simp only [show (5 : Int).toNat = 5 from rfl, Nat.reduceMul, Nat.reduceEqDiff, Go.Addr.add, ↓reduceIte] at hx156_0); (try simp only [show (5 : Int).toNat = 5 from rfl, Nat.reduceMul, Nat.reduceEqDiff, Go.Addr.add, ↓reduceIte] at hx156_1); (try simp only [show (5 : Int).toNat = 5 from rfl, Nat.reduceMul, Nat.reduceEqDiff, Go.Addr.add, ↓reduceIte] at hx156_2); (try simp only [show (5 : Int).toNat = 5 from rfl, Nat.reduceMul, Nat.reduceEqDiff, Go.Addr.add, ↓reduceIte] at hx156_3); have qi156 : (5 < t151.length) = True := eq_true (by omega); (try rw [show ((5 : Int)).toNat = 5 from rfl] at hx156_0); (try rw [show 5 * 4 = 20 from rfl] at hx156_0); (try rw [show ((5 : Int)).toNat = 5 from rfl] at hx156_1); (try rw [show 5 * 4 = 20 from rfl] at hx156_1); (try rw [show ((5 : Int)).toNat = 5 from rfl] at hx156_2); (try rw [show 5 * 4 = 20 from rfl] at hx156_2); (try rw [show ((5 : Int)).toNat = 5 from rfl] at hx156_3); (try rw [show 5 * 4 = 20 from rfl] at hx156_3); replace p156 := eq_true p156; replace q156 := eq_true q156; have p157 : 0 ≤ (5 : Int) := (by omega); have q157 : 5 < (t151.length : Int) := of_decide_eq_true (by first | (with_reducible assumption) | assumption); obtain ⟨ad157, e157, hx157_0, hx157_1, hx157_2, hx157_3⟩ := at_T37 (Kd.R_reads' HO153.out).2.2 5 p157 q157; obtain rfl : ad154 = ad157 := (by injection e157); (try simp only [show (5 : Int).toNat = 5 from rfl, Nat.reduceMul, Nat.reduceEqDiff, Go.Addr.add, ↓reduceIte] at hx157_0); (try simp only [show (5 : Int).toNat = 5 from rfl, Nat.reduceMul, Nat.reduceEqDiff, Go.Addr.add, ↓reduceIte] at hx157_1); (try simp only [show (5 : Int).toNat = 5 from rfl, Nat.reduceMul, Nat.reduceEqDiff, Go.Addr.add, ↓reduceIte] at hx157_2); (try simp only [show (5 : Int).toNat = 5 from rfl, Nat.reduceMul, Nat.reduceEqDiff, Go.Addr.add, ↓reduceIte] at hx157_3); have qi157 : (5 < t151.length) = True := eq_true (by omega); (try rw [show ((5 : Int)).toNat = 5 from rfl] at hx157_0); (try rw [show 5 * 4 = 20 from rfl] at hx157_0); (try rw [show ((5 : Int)).toNat = 5 from rfl] at hx157_1); (try rw [show 5 * 4 = 20 from rfl] at hx157_1); (try rw [show ((5 : Int)).toNat = 5 from rfl] at hx157_2); (try rw [show 5 * 4 = 20 from rfl] at hx157_2); (try rw [show ((5 : Int)).toNat = 5 from rfl] at hx157_3); (try rw [show 5 * 4 = 20 from rfl] at hx157_3); replace p157 := eq_true p157; replace q157 := eq_true q157))
                  go_ret
                  exact ⟨by first | rfl | (simp [errW_none, errW_some] <;> rfl) | (simp [*, errW_none, errW_some] <;> rfl), by repeat (first | (with_reducible first | exact HB.out | apply below_alloc | apply pw_below_drewN | apply below_drew1) | exact HB.out)⟩
              · rw [if_neg c8] at H
                have c8b0 : (((rd_T37 t151 5).f2) == 3) = false := beq_eq_false_iff_ne.mpr c8
                have c8b1 : (((rd_T37 t151 5).f2) != 3) = true := bne_iff_ne.mpr c8
                obtain rfl := Option.some.inj H
                go_enter Tryd.func10, Tryd.ntmps10
                go_wp2_with (first | ((with_reducible refine gate_callee (f := 13) rfl ?_); refine goesL_ (some 2) rfl rfl Tryd.func13 (by kernel_rfl) rfl #[.string (⟨#[120, 49, 32, 61, 32, 97, 60, 61, 45, 51, 59, 47, 47, 32, 101, 110, 100]⟩ : ByteArray)] rfl (by (try simp only [List.map_toArray, List.map_cons, List.map_nil]); first | done | rfl | (simp only [List.length_drop, List.length_take]; rfl)) ?_; (with_reducible refine (lexer_Scan.calls k (⟨#[120, 49, 32, 61, 32, 97, 60, 61, 45, 51, 59, 47, 47, 32, 101, 110, 100]⟩ : ByteArray) t151 _ ?side1 A1.out).mono ?_); (case side1 => refine GW.below HG.out ?_; repeat (first | (with_reducible first | exact HB.out | apply below_alloc | apply pw_below_drewN | apply below_drew1) | exact HB.out)); rintro e w23 ⟨v152, rfl, ho0, hb⟩; refine ⟨_, rfl, ?_⟩; have n0_ := Aside0.mk (Kd.R_lower ho0 (below_size (by repeat (first | (with_reducible first | exact HB.out | apply below_alloc | apply pw_below_drewN | apply below_drew1) | exact HB.out)))); have n1_ := Aside0.mk (below_step (by repeat (first | (with_reducible first | exact HB.out | apply below_alloc | apply pw_below_drewN | apply below_drew1) | exact HB.out)) hb); clear HB; have HO153 := n0_; have HB := n1_; clear n0_ n1_; (try clear hb); (try clear hb2); (try clear hk); (try clear hi); (try clear ho0); obtain ⟨Ao24, co24, eo24⟩ := Kd.R_slice HO153.out; subst eo24; have p154 : 0 ≤ (0 : Int) := (by omega); have q154 : 0 < (t151.length : Int) := of_decide_eq_true (by first | (with_reducible assumption) | assumption); obtain ⟨ad154, e154, hx154_0, hx154_1, hx154_2, hx154_3⟩ := at_T37 (Kd.R_reads' HO153.out).2.2 0 p154 q154; cases e154; have qi154 : (0 < t151.length) = True := eq_true (by omega); (try rw [show ((0 : Int)).toNat = 0 from rfl] at hx154_0); (try rw [show 0 * 4 = 0 from rfl] at hx154_0); (try rw [Addr.add_zero'] at hx154_0); (try rw [show ((0 : Int)).toNat = 0 from rfl] at hx154_1); (try rw [show 0 * 4 = 0 from rfl] at hx154_1); (try rw [Addr.add_zero'] at hx154_1); (try rw [show ((0 : Int)).toNat = 0 from rfl] at hx154_2); (try rw [show 0 * 4 = 0 from rfl] at hx154_2); (try rw [Addr.add_zero'] at hx154_2); (try rw [show ((0 : Int)).toNat = 0 from rfl] at hx154_3); (try rw [show 0 * 4 = 0 from rfl] at hx154_3); (try rw [Addr.add_zero'] at hx154_3); replace p154 := eq_true p154; replace q154 := eq_true q154; have p155 : 0 ≤ (3 : Int) := (by omega); have q155 : 3 < (t151.length : Int) := of_decide_eq_true (by first | (with_reducible assumption) | assumption); obtain ⟨ad155, e155, hx155_0, hx155_1, hx155_2, hx155_3⟩ := at_T37 (Kd.R_reads' HO153.out).2.2 3 p155 q155; obtain rfl : ad154 = ad155 := (by injection e155); (try simp only [show (3 : Int).toNat = 3 from rfl, Nat.reduceMul, Nat.reduceEqDiff, Go.Addr.add, ↓reduceIte] at hx155_0); (try simp only [show (3 : Int).toNat = 3 from rfl, Nat.reduceMul, Nat.reduceEqDiff, Go.Addr.add, ↓reduceIte] at hx155_1); (try simp only [show (3 : Int).toNat = 3 from rfl, Nat.reduceMul, Nat.reduceEqDiff, Go.Addr.add, ↓reduceIte] at hx155_2); (try simp only [show (3 : Int).toNat = 3 from rfl, Nat.reduceMul, Nat.reduceEqDiff, Go.Addr.add, ↓reduceIte] at hx155_3); have qi155 : (3 < t151.length) = True := eq_true (by omega); (try rw [show ((3 : Int)).toNat = 3 from rfl] at hx155_0); (try rw [show 3 * 4 = 12 from rfl] at hx155_0); (try rw [show ((3 : Int)).toNat = 3 from rfl] at hx155_1); (try rw [show 3 * 4 = 12 from rfl] at hx155_1); (try rw [show ((3 : Int)).toNat = 3 from rfl] at hx155_2); (try rw [show 3 * 4 = 12 from rfl] at hx155_2); (try rw [show ((3 : Int)).toNat = 3 from rfl] at hx155_3); (try rw [show 3 * 4 = 12 from rfl] at hx155_3); replace p155 := eq_true p155; replace q155 := eq_true q155; have p156 : 0 ≤ (5 : Int) := (by omega); have q156 : 5 < (t151.length : Int) := of_decide_eq_true (by first | (with_reducible assumption) | assumption); obtain ⟨ad156, e156, hx156_0, hx156_1, hx156_2, hx156_3⟩ := at_T37 (Kd.R_reads' HO153.out).2.2 5 p156 q156; obtain rfl : ad154 = ad156 := (by injection e156); (try simp only [show (5 : Int).toNat = 5 from rfl, Nat.reduceMul, Nat.reduceEqDiff, Go.Addr.add, ↓reduceIte] at hx156_0); (try simp only [show (5 : Int).toNat = 5 from rfl, Nat.reduceMul, Nat.reduceEqDiff, Go.Addr.add, ↓reduceIte] at hx156_1); (try simp only [show (5 : Int).toNat = 5 from rfl, Nat.reduceMul, Nat.reduceEqDiff, Go.Addr.add, ↓reduceIte] at hx156_2); (try simp only [show (5 : Int).toNat = 5 from rfl, Nat.reduceMul, Nat.reduceEqDiff, Go.Addr.add, ↓reduceIte] at hx156_3); have qi156 : (5 < t151.length) = True := eq_true (by omega); (try rw [show ((5 : Int)).toNat = 5 from rfl] at hx156_0); (try rw [show 5 * 4 = 20 from rfl] at hx156_0); (try rw [show ((5 : Int)).toNat = 5 from rfl] at hx156_1); (try rw [show 5 * 4 = 20 from rfl] at hx156_1); (try rw [show ((5 : Int)).toNat = 5 from rfl] at hx156_2); (try rw [show 5 * 4 = 20 from rfl] at hx156_2); (try rw [show ((5 : Int)).toNat = 5 from rfl] at hx156_3); (try rw [show 5 * 4 = 20 from rfl] at hx156_3); replace p156 := eq_true p156; replace q156 := eq_true q156))
                go_ret
                exact ⟨by first | rfl | (simp [errW_none, errW_some] <;> rfl) | (simp [*, errW_none, errW_some] <;> rfl), by repeat (first | (with_reducible first | exact HB.out | apply below_alloc | apply pw_below_drewN | apply below_drew1) | exact HB.out)⟩
            · rw [if_neg c7] at H
              exact absurd H (by simp)
          · rw [if_neg c6] at H
            have c6b0 : (((rd_T37 t151 3).f1).toList == ([60, 61] : List UInt8)) = false := beq_eq_false_iff_ne.mpr c6
            have c6b1 : (((rd_T37 t151 3).f1).toList != ([60, 61] : List UInt8)) = true := bne_iff_ne.mpr c6
            obtain rfl := Option.some.inj H
            go_enter Tryd.func10, Tryd.ntmps10
            go_wp2_with (first | ((with_reducible refine gate_callee (f := 13) rfl ?_); refine goesL_ (some 2) rfl rfl Tryd.func13 (by kernel_rfl) rfl #[.string (⟨#[120, 49, 32, 61, 32, 97, 60, 61, 45, 51, 59, 47, 47, 32, 101, 110, 100]⟩ : ByteArray)] rfl (by (try simp only [List.map_toArray, List.map_cons, List.map_nil]); first | done | rfl | (simp only [List.length_drop, List.length_take]; rfl)) ?_; (with_reducible refine (lexer_Scan.calls k (⟨#[120, 49, 32, 61, 32, 97, 60, 61, 45, 51, 59, 47, 47, 32, 101, 110, 100]⟩ : ByteArray) t151 _ ?side1 A1.out).mono ?_); (case side1 => refine GW.below HG.out ?_; repeat (first | (with_reducible first | exact HB.out | apply below_alloc | apply pw_below_drewN | apply below_drew1) | exact HB.out)); rintro e w25 ⟨v152, rfl, ho0, hb⟩; refine ⟨_, rfl, ?_⟩; have n0_ := Aside0.mk (Kd.R_lower ho0 (below_size (by repeat (first | (with_reducible first | exact HB.out | apply below_alloc | apply pw_below_drewN | apply below_drew1) | exact HB.out)))); have n1_ := Aside0.mk (below_step (by repeat (first | (with_reducible first | exact HB.out | apply below_alloc | apply pw_below_drewN | apply below_drew1) | exact HB.out)) hb); clear HB; have HO153 := n0_; have HB := n1_; clear n0_ n1_; (try clear hb); (try clear hb2); (try clear hk); (try clear hi); (try clear ho0); obtain ⟨Ao26, co26, eo26⟩ := Kd.R_slice HO153.out; subst eo26; have p154 : 0 ≤ (0 : Int) := (by omega); have q154 : 0 < (t151.length : Int) := of_decide_eq_true (by first | (with_reducible assumption) | assumption); obtain ⟨ad154, e154, hx154_0, hx154_1, hx154_2, hx154_3⟩ := at_T37 (Kd.R_reads' HO153.out).2.2 0 p154 q154; cases e154; have qi154 : (0 < t151.length) = True := eq_true (by omega); (try rw [show ((0 : Int)).toNat = 0 from rfl] at hx154_0); (try rw [show 0 * 4 = 0 from rfl] at hx154_0); (try rw [Addr.add_zero'] at hx154_0); (try rw [show ((0 : Int)).toNat = 0 from rfl] at hx154_1); (try rw [show 0 * 4 = 0 from rfl] at hx154_1); (try rw [Addr.add_zero'] at hx154_1); (try rw [show ((0 : Int)).toNat = 0 from rfl] at hx154_2); (try rw [show 0 * 4 = 0 from rfl] at hx154_2); (try rw [Addr.add_zero'] at hx154_2); (try rw [show ((0 : Int)).toNat = 0 from rfl] at hx154_3); (try rw [show 0 * 4 = 0 from rfl] at hx154_3); (try rw [Addr.add_zero'] at hx154_3); replace p154 := eq_true p154; replace q154 := eq_true q154; have p155 : 0 ≤ (3 : Int) := (by omega); have q155 : 3 < (t151.length : Int) := of_decide_eq_true (by first | (with_reducible assumption) | assumption); obtain ⟨ad155, e155, hx155_0, hx155_1, hx155_2, hx155_3⟩ := at_T37 (Kd.R_reads' HO153.out).2.2 3 p155 q155; obtain rfl : ad154 = ad155 := (by injection e155); (try simp only [show (3 : Int).toNat = 3 from rfl, Nat.reduceMul, Nat.reduceEqDiff, Go.Addr.add, ↓reduceIte] at hx155_0); (try simp only [show (3 : Int).toNat = 3 from rfl, Nat.reduceMul, Nat.reduceEqDiff, Go.Addr.add, ↓reduceIte] at hx155_1); (try simp only [show (3 : Int).toNat = 3 from rfl, Nat.reduceMul, Nat.reduceEqDiff, Go.Addr.add, ↓reduceIte] at hx155_2); (try simp only [show (3 : Int).toNat = 3 from rfl, Nat.reduceMul, Nat.reduceEqDiff, Go.Addr.add, ↓reduceIte] at hx155_3); have qi155 : (3 < t151.length) = True := eq_true (by omega); (try rw [show ((3 : Int)).toNat = 3 from rfl] at hx155_0); (try rw [show 3 * 4 = 12 from rfl] at hx155_0); (try rw [show ((3 : Int)).toNat = 3 from rfl] at hx155_1); (try rw [show 3 * 4 = 12 from rfl] at hx155_1); (try rw [show ((3 : Int)).toNat = 3 from rfl] at hx155_2); (try rw [show 3 * 4 = 12 from rfl] at hx155_2); (try rw [show ((3 : Int)).toNat = 3 from rfl] at hx155_3); (try rw [show 3 * 4 = 12 from rfl] at hx155_3); replace p155 := eq_true p155; replace q155 := eq_true q155))
            go_ret
            exact ⟨by first | rfl | (simp [errW_none, errW_some] <;> rfl) | (simp [*, errW_none, errW_some] <;> rfl), by repeat (first | (with_reducible first | exact HB.out | apply below_alloc | apply pw_below_drewN | apply below_drew1) | exact HB.out)⟩
        · rw [if_neg c5] at H
          exact absurd H (by simp)
      · rw [if_neg c4] at H
        have c4b0 : (((rd_T37 t151 0).f1).toList == ([120, 49] : List UInt8)) = false := beq_eq_false_iff_ne.mpr c4
        have c4b1 : (((rd_T37 t151 0).f1).toList != ([120, 49] : List UInt8)) = true := bne_iff_ne.mpr c4
        obtain rfl := Option.some.inj H
        go_enter Tryd.func10, Tryd.ntmps10
        go_wp2_with (first | ((with_reducible refine gate_callee (f := 13) rfl ?_); refine goesL_ (some 2) rfl rfl Tryd.func13 (by kernel_rfl) rfl #[.string (⟨#[120, 49, 32, 61, 32, 97, 60, 61, 45, 51, 59, 47, 47, 32, 101, 110, 100]⟩ : ByteArray)] rfl (by (try simp only [List.map_toArray, List.map_cons, List.map_nil]); first | done | rfl | (simp only [List.length_drop, List.length_take]; rfl)) ?_; (with_reducible refine (lexer_Scan.calls k (⟨#[120, 49, 32, 61, 32, 97, 60, 61, 45, 51, 59, 47, 47, 32, 101, 110, 100]⟩ : ByteArray) t151 _ ?side1 A1.out).mono ?_); (case side1 => refine GW.below HG.out ?_; repeat (first | (with_reducible first | exact HB.out | apply below_alloc | apply pw_below_drewN | apply below_drew1) | exact HB.out)); rintro e w27 ⟨v152, rfl, ho0, hb⟩; refine ⟨_, rfl, ?_⟩; have n0_ := Aside0.mk (Kd.R_lower ho0 (below_size (by repeat (first | (with_reducible first | exact HB.out | apply below_alloc | apply pw_below_drewN | apply below_drew1) | exact HB.out)))); have n1_ := Aside0.mk (below_step (by repeat (first | (with_reducible first | exact HB.out | apply below_alloc | apply pw_below_drewN | apply below_drew1) | exact HB.out)) hb); clear HB; have HO153 := n0_; have HB := n1_; clear n0_ n1_; (try clear hb); (try clear hb2); (try clear hk); (try clear hi); (try clear ho0); obtain ⟨Ao28, co28, eo28⟩ := Kd.R_slice HO153.out; subst eo28; have p154 : 0 ≤ (0 : Int) := (by omega); have q154 : 0 < (t151.length : Int) := of_decide_eq_true (by first | (with_reducible assumption) | assumption); obtain ⟨ad154, e154, hx154_0, hx154_1, hx154_2, hx154_3⟩ := at_T37 (Kd.R_reads' HO153.out).2.2 0 p154 q154; cases e154; have qi154 : (0 < t151.length) = True := eq_true (by omega); (try rw [show ((0 : Int)).toNat = 0 from rfl] at hx154_0); (try rw [show 0 * 4 = 0 from rfl] at hx154_0); (try rw [Addr.add_zero'] at hx154_0); (try rw [show ((0 : Int)).toNat = 0 from rfl] at hx154_1); (try rw [show 0 * 4 = 0 from rfl] at hx154_1); (try rw [Addr.add_zero'] at hx154_1); (try rw [show ((0 : Int)).toNat = 0 from rfl] at hx154_2); (try rw [show 0 * 4 = 0 from rfl] at hx154_2); (try rw [Addr.add_zero'] at hx154_2); (try rw [show ((0 : Int)).toNat = 0 from rfl] at hx154_3); (try rw [show 0 * 4 = 0 from rfl] at hx154_3); (try rw [Addr.add_zero'] at hx154_3); replace p154 := eq_true p154; replace q154 := eq_true q154))
        go_ret
        exact ⟨by first | rfl | (simp [errW_none, errW_some] <;> rfl) | (simp [*, errW_none, errW_some] <;> rfl), by repeat (first | (with_reducible first | exact HB.out | apply below_alloc | apply pw_below_drewN | apply below_drew1) | exact HB.out)⟩
    · rw [if_neg c3] at H
      exact absurd H (by simp)
  · rw [if_neg c2] at H
    have c2b0 : ((t151.length : Int) == 8) = false := beq_eq_false_iff_ne.mpr c2
    have c2b1 : ((t151.length : Int) != 8) = true := bne_iff_ne.mpr c2
    obtain rfl := Option.some.inj H
    go_enter Tryd.func10, Tryd.ntmps10
    go_wp2_with (first | ((with_reducible refine gate_callee (f := 13) rfl ?_); refine goesL_ (some 2) rfl rfl Tryd.func13 (by kernel_rfl) rfl #[.string (⟨#[120, 49, 32, 61, 32, 97, 60, 61, 45, 51, 59, 47, 47, 32, 101, 110, 100]⟩ : ByteArray)] rfl (by (try simp only [List.map_toArray, List.map_cons, List.map_nil]); first | done | rfl | (simp only [List.length_drop, List.length_take]; rfl)) ?_; (with_reducible refine (lexer_Scan.calls k (⟨#[120, 49, 32, 61, 32, 97, 60, 61, 45, 51, 59, 47, 47, 32, 101, 110, 100]⟩ : ByteArray) t151 _ ?side1 A1.out).mono ?_); (case side1 => refine GW.below HG.out ?_; repeat (first | (with_reducible first | exact HB.out | apply below_alloc | apply pw_below_drewN | apply below_drew1) | exact HB.out)); rintro e w29 ⟨v152, rfl, ho0, hb⟩; refine ⟨_, rfl, ?_⟩; have n0_ := Aside0.mk (Kd.R_lower ho0 (below_size (by repeat (first | (with_reducible first | exact HB.out | apply below_alloc | apply pw_below_drewN | apply below_drew1) | exact HB.out)))); have n1_ := Aside0.mk (below_step (by repeat (first | (with_reducible first | exact HB.out | apply below_alloc | apply pw_below_drewN | apply below_drew1) | exact HB.out)) hb); clear HB; have HO153 := n0_; have HB := n1_; clear n0_ n1_; (try clear hb); (try clear hb2); (try clear hk); (try clear hi); (try clear ho0); obtain ⟨Ao30, co30, eo30⟩ := Kd.R_slice HO153.out; subst eo30))
    go_ret
    exact ⟨by first | rfl | (simp [errW_none, errW_some] <;> rfl) | (simp [*, errW_none, errW_some] <;> rfl), by repeat (first | (with_reducible first | exact HB.out | apply below_alloc | apply pw_below_drewN | apply below_drew1) | exact HB.out)⟩

end Go.Proofs.YtmpbkemicfmbaaaDoor.PX
-- Written by a program of this session (wip/xprint.py, over the kit's print tool). Lean checks it.
namespace Go.Proofs.YtmpbkemicfmbaaaDoor.PX
open Go.RowKit Go.Proofs.YtmpbkemicfmbaaaDoorW.PrintWords Go.Proofs.YtmpbkemicfmbaaaDoorW.PrintLast Go.Proofs.YtmpbkemicfmbaaaDoorW.PrintMore
attribute [local go_sem] max2_int min2_int max_two min_two max_three min_three max_four min_four   -- for this text's walks alone
set_option linter.unusedVariables false
set_option linter.unusedSimpArgs false

/-! ### trickleref15_Same: function 11 -/
mutual
def trickleref15_Same.l0 : Nat → List (S32) → List (S32) → Bool → Int → Option (Bool)
  | 0, _, _, _, _ => none
  | k + 1, x0, x1, x2, x7 => if x7 < (x0.length : Int) then (if 0 ≤ x7 then (if x7 < (x1.length : Int) then (if ((rd_T32 x0 x7).f0) = ((rd_T32 x1 x7).f0) then (if ((rd_T32 x0 x7).f1).toList = ((rd_T32 x1 x7).f1).toList then (if ((rd_T32 x0 x7).f2) = ((rd_T32 x1 x7).f2) then (if x2 = true then (trickleref15_Same.j1 k x0 x1 x2 x7 (((rd_T32 x0 x7).f3) != ((rd_T32 x1 x7).f3))) else (trickleref15_Same.j1 k x0 x1 x2 x7 false)) else (trickleref15_Same.j1 k x0 x1 x2 x7 true)) else (trickleref15_Same.j1 k x0 x1 x2 x7 true)) else (trickleref15_Same.j1 k x0 x1 x2 x7 true)) else (none)) else (none)) else (some true)
def trickleref15_Same.j1 : Nat → List (S32) → List (S32) → Bool → Int → Bool → Option (Bool)
  | 0, _, _, _, _, _ => none
  | k + 1, x0, x1, x2, x7, x71 => if x71 = true then (some false) else (trickleref15_Same.l0 k x0 x1 x2 (wrap64 (x7 + 1)))
end
def trickleref15_Same.f (k : Nat) (l0 : List (S32)) (l1 : List (S32)) (a2 : Bool) : Option (Bool) := if (l0.length : Int) = (l1.length : Int) then (trickleref15_Same.l0 k l0 l1 a2 0) else (some false)
set_option maxHeartbeats 8000000 in
set_option maxRecDepth 100000 in
theorem trickleref15_Same.calls (k : Nat) (A0 : Option Addr) (c0 : Nat) (l0 : List (S32)) (A1 : Option Addr) (c1 : Nat) (l1 : List (S32)) (a2 : Bool) (r : Bool) (w : World) (hr0 : Kd.C k32 w A0 l0.length l0) (hc0 : l0.length ≤ c0) (hr1 : Kd.C k32 w A1 l1.length l1) (hc1 : l1.length ≤ c1) (h : trickleref15_Same.f k l0 l1 a2 = some r) :
    Calls Tryd.prog 11 #[.slice A0 l0.length c0, .slice A1 l1.length c1, .bool a2] w fun e w' => e = .returned (.bool r) ∧ Drawn0 w w' := by
  have HR0 := Aside0.mk hr0
  have HC0 := Aside0.mk hc0
  clear hr0 hc0
  have HR1 := Aside0.mk hr1
  have HC1 := Aside0.mk hc1
  clear hr1 hc1
  have H : (if (l0.length : Int) = (l1.length : Int) then (trickleref15_Same.l0 k l0 l1 a2 0) else (some false)) = some r := h
  clear h
  by_cases c4 : (l0.length : Int) = (l1.length : Int)
  · rw [if_pos c4] at H
    have c4b0 : ((l0.length : Int) == (l1.length : Int)) = true := beq_iff_eq.mpr c4
    have c4b1 : ((l0.length : Int) != (l1.length : Int)) = false := bne_eq_false_iff_eq.mpr c4
    have c4b2 : (l0.length == l1.length) = true := by first | simpa using c4 | (simp at c4 ⊢; omega)
    clear c4
    have H' := Aside0.mk H
    clear H
    go_enter Tryd.func11, Tryd.ntmps11
    go_wp2
    repeat (go_quiet (fail); try go_wp2)
    go_loopg [7] k (fun kq v7 w' => ∃ (x7_1 : Int), v7 = .int .i64 x7_1 ∧ Aside0 (trickleref15_Same.l0 kq l0 l1 a2 x7_1 = some r) ∧ Aside0 (kq ≤ k) ∧ Drawn0 w w')
    case atStart => exact ⟨(0), (by first | rfl | (simp; done) | (simp [*]; done)), H', ⟨Nat.le_refl _⟩, by repeat (first | exact Drawn0.refl _ | apply Drawn0.step)⟩
    case round =>
      clear H'
      try clear c1
      try clear p2
      try clear c4
      try clear c4b0
      try clear c4b1
      try clear c4b2
      obtain ⟨x7_1, rfl, HA, HK1, ⟨m1, rfl⟩⟩ := hrel
      cases gk with
      | zero => exact absurd HA.out (by simp [trickleref15_Same.l0])
      | succ k1 =>
        have H := HA.out
        clear HA
        simp only [trickleref15_Same.l0] at H
        by_cases c5 : x7_1 < (l0.length : Int)
        · rw [if_pos c5] at H
          have c5b0 : decide (x7_1 < (l0.length : Int)) = true := decide_eq_true c5
          clear c5
          have HC6 := Aside0.mk H
          clear H
          go_upto_region 6 with (fail)
          repeat (go_quiet (fail); go_upto_region 6 with (fail))
          go_cut [71] (fun v71 wc => ∃ (kq : Nat) (x71_5 : Bool), v71 = .bool x71_5 ∧ Aside0 (trickleref15_Same.j1 kq l0 l1 a2 x7_1 x71_5 = some r) ∧ Aside0 (kq ≤ k1) ∧ Drawn0 w wc)
          case first =>
            have H := HC6.out
            clear HC6
            by_cases c7 : 0 ≤ x7_1
            · rw [if_pos c7] at H
              have c7b0 : decide (0 ≤ x7_1) = true := decide_eq_true c7
              clear c7
              (first | rw [c7b0] | (simp only [i64_w, i32_w]; rw [c7b0]) | skip)
              by_cases c8 : x7_1 < (l1.length : Int)
              · rw [if_pos c8] at H
                have c8b0 : decide (x7_1 < (l1.length : Int)) = true := decide_eq_true c8
                clear c8
                by_cases c9 : ((rd_T32 l0 x7_1).f0) = ((rd_T32 l1 x7_1).f0)
                · rw [if_pos c9] at H
                  have c9b0 : (((rd_T32 l0 x7_1).f0) == ((rd_T32 l1 x7_1).f0)) = true := beq_iff_eq.mpr c9
                  have c9b1 : (((rd_T32 l0 x7_1).f0) != ((rd_T32 l1 x7_1).f0)) = false := bne_eq_false_iff_eq.mpr c9
                  clear c9
                  by_cases c10 : ((rd_T32 l0 x7_1).f1).toList = ((rd_T32 l1 x7_1).f1).toList
                  · rw [if_pos c10] at H
                    have c10b0 : (((rd_T32 l0 x7_1).f1).toList == ((rd_T32 l1 x7_1).f1).toList) = true := beq_iff_eq.mpr c10
                    have c10b1 : (((rd_T32 l0 x7_1).f1).toList != ((rd_T32 l1 x7_1).f1).toList) = false := bne_eq_false_iff_eq.mpr c10
                    clear c10
                    by_cases c11 : ((rd_T32 l0 x7_1).f2) = ((rd_T32 l1 x7_1).f2)
                    · rw [if_pos c11] at H
                      have c11b0 : (((rd_T32 l0 x7_1).f2) == ((rd_T32 l1 x7_1).f2)) = true := beq_iff_eq.mpr c11
                      have c11b1 : (((rd_T32 l0 x7_1).f2) != ((rd_T32 l1 x7_1).f2)) = false := bne_eq_false_iff_eq.mpr c11
                      clear c11
                      by_cases c12 : a2 = true
                      · subst c12
                        have H1 : (trickleref15_Same.j1 k1 l0 l1 true x7_1 (((rd_T32 l0 x7_1).f3) != ((rd_T32 l1 x7_1).f3))) = some r := by rw [if_pos rfl] at H; exact H
                        clear H
                        have H := H1
                        clear H1
                        have H' := Aside0.mk H
                        clear H
                        have p161 : 0 ≤ (x7_1 : Int) := of_decide_eq_true (by first | (with_reducible assumption) | assumption)
                        have q161 : x7_1 < (l0.length : Int) := of_decide_eq_true (by first | (with_reducible assumption) | assumption)
                        obtain ⟨ad161, e161, hx161_0, hx161_1, hx161_2, hx161_3⟩ := at_T32 HR0.out x7_1 p161 q161
                        cases e161
                        replace p161 := eq_true p161
                        replace q161 := eq_true q161
                        have p162 : 0 ≤ (x7_1 : Int) := of_decide_eq_true (by first | (with_reducible assumption) | assumption)
                        have q162 : x7_1 < (l1.length : Int) := of_decide_eq_true (by first | (with_reducible assumption) | assumption)
                        obtain ⟨ad162, e162, hx162_0, hx162_1, hx162_2, hx162_3⟩ := at_T32 HR1.out x7_1 p162 q162
                        cases e162
                        replace p162 := eq_true p162
                        replace q162 := eq_true q162
                        have p163 : 0 ≤ (x7_1 : Int) := of_decide_eq_true (by first | (with_reducible assumption) | assumption)
                        have q163 : x7_1 < (l0.length : Int) := of_decide_eq_true (by first | (with_reducible assumption) | assumption)
                        obtain ⟨ad163, e163, hx163_0, hx163_1, hx163_2, hx163_3⟩ := at_T32 HR0.out x7_1 p163 q163
                        obtain rfl : ad161 = ad163 := (by injection e163)
                        replace p163 := eq_true p163
                        replace q163 := eq_true q163
                        have p164 : 0 ≤ (x7_1 : Int) := of_decide_eq_true (by first | (with_reducible assumption) | assumption)
                        have q164 : x7_1 < (l1.length : Int) := of_decide_eq_true (by first | (with_reducible assumption) | assumption)
                        obtain ⟨ad164, e164, hx164_0, hx164_1, hx164_2, hx164_3⟩ := at_T32 HR1.out x7_1 p164 q164
                        obtain rfl : ad162 = ad164 := (by injection e164)
                        replace p164 := eq_true p164
                        replace q164 := eq_true q164
                        have p165 : 0 ≤ (x7_1 : Int) := of_decide_eq_true (by first | (with_reducible assumption) | assumption)
                        have q165 : x7_1 < (l0.length : Int) := of_decide_eq_true (by first | (with_reducible assumption) | assumption)
                        obtain ⟨ad165, e165, hx165_0, hx165_1, hx165_2, hx165_3⟩ := at_T32 HR0.out x7_1 p165 q165
                        obtain rfl : ad161 = ad165 := (by injection e165)
                        replace p165 := eq_true p165
                        replace q165 := eq_true q165
                        have p166 : 0 ≤ (x7_1 : Int) := of_decide_eq_true (by first | (with_reducible assumption) | assumption)
                        have q166 : x7_1 < (l1.length : Int) := of_decide_eq_true (by first | (with_reducible assumption) | assumption)
                        obtain ⟨ad166, e166, hx166_0, hx166_1, hx166_2, hx166_3⟩ := at_T32 HR1.out x7_1 p166 q166
                        obtain rfl : ad162 = ad166 := (by injection e166)
                        replace p166 := eq_true p166
                        replace q166 := eq_true q166
                        have p167 : 0 ≤ (x7_1 : Int) := of_decide_eq_true (by first | (with_reducible assumption) | assumption)
                        have q167 : x7_1 < (l0.length : Int) := of_decide_eq_true (by first | (with_reducible assumption) | assumption)
                        obtain ⟨ad167, e167, hx167_0, hx167_1, hx167_2, hx167_3⟩ := at_T32 HR0.out x7_1 p167 q167
                        obtain rfl : ad161 = ad167 := (by injection e167)
                        replace p167 := eq_true p167
                        replace q167 := eq_true q167
                        have p168 : 0 ≤ (x7_1 : Int) := of_decide_eq_true (by first | (with_reducible assumption) | assumption)
                        have q168 : x7_1 < (l1.length : Int) := of_decide_eq_true (by first | (with_reducible assumption) | assumption)
                        obtain ⟨ad168, e168, hx168_0, hx168_1, hx168_2, hx168_3⟩ := at_T32 HR1.out x7_1 p168 q168
                        obtain rfl : ad162 = ad168 := (by injection e168)
                        replace p168 := eq_true p168
                        replace q168 := eq_true q168
                        go_wp2
                        repeat (go_quiet (fail); try go_wp2)
                        go_meet
                        case rel => exact ⟨_, ((((rd_T32 l0 x7_1).f3) != ((rd_T32 l1 x7_1).f3))), (by first | rfl | (simp; done) | (simp [*]; done)), H', ⟨by have := HK1.out; first | omega | exact Nat.le_refl _⟩, by repeat (first | exact Drawn0.refl _ | apply Drawn0.step)⟩
                      · replace c12 := Bool.eq_false_iff.mpr c12
                        subst c12
                        have H1 : (trickleref15_Same.j1 k1 l0 l1 false x7_1 false) = some r := by rw [if_neg (show ¬ (false = true) by decide)] at H; exact H
                        clear H
                        have H := H1
                        clear H1
                        have H' := Aside0.mk H
                        clear H
                        have p161 : 0 ≤ (x7_1 : Int) := of_decide_eq_true (by first | (with_reducible assumption) | assumption)
                        have q161 : x7_1 < (l0.length : Int) := of_decide_eq_true (by first | (with_reducible assumption) | assumption)
                        obtain ⟨ad161, e161, hx161_0, hx161_1, hx161_2, hx161_3⟩ := at_T32 HR0.out x7_1 p161 q161
                        cases e161
                        replace p161 := eq_true p161
                        replace q161 := eq_true q161
                        have p162 : 0 ≤ (x7_1 : Int) := of_decide_eq_true (by first | (with_reducible assumption) | assumption)
                        have q162 : x7_1 < (l1.length : Int) := of_decide_eq_true (by first | (with_reducible assumption) | assumption)
                        obtain ⟨ad162, e162, hx162_0, hx162_1, hx162_2, hx162_3⟩ := at_T32 HR1.out x7_1 p162 q162
                        cases e162
                        replace p162 := eq_true p162
                        replace q162 := eq_true q162
                        have p163 : 0 ≤ (x7_1 : Int) := of_decide_eq_true (by first | (with_reducible assumption) | assumption)
                        have q163 : x7_1 < (l0.length : Int) := of_decide_eq_true (by first | (with_reducible assumption) | assumption)
                        obtain ⟨ad163, e163, hx163_0, hx163_1, hx163_2, hx163_3⟩ := at_T32 HR0.out x7_1 p163 q163
                        obtain rfl : ad161 = ad163 := (by injection e163)
                        replace p163 := eq_true p163
                        replace q163 := eq_true q163
                        have p164 : 0 ≤ (x7_1 : Int) := of_decide_eq_true (by first | (with_reducible assumption) | assumption)
                        have q164 : x7_1 < (l1.length : Int) := of_decide_eq_true (by first | (with_reducible assumption) | assumption)
                        obtain ⟨ad164, e164, hx164_0, hx164_1, hx164_2, hx164_3⟩ := at_T32 HR1.out x7_1 p164 q164
                        obtain rfl : ad162 = ad164 := (by injection e164)
                        replace p164 := eq_true p164
                        replace q164 := eq_true q164
                        have p165 : 0 ≤ (x7_1 : Int) := of_decide_eq_true (by first | (with_reducible assumption) | assumption)
                        have q165 : x7_1 < (l0.length : Int) := of_decide_eq_true (by first | (with_reducible assumption) | assumption)
                        obtain ⟨ad165, e165, hx165_0, hx165_1, hx165_2, hx165_3⟩ := at_T32 HR0.out x7_1 p165 q165
                        obtain rfl : ad161 = ad165 := (by injection e165)
                        replace p165 := eq_true p165
                        replace q165 := eq_true q165
                        have p166 : 0 ≤ (x7_1 : Int) := of_decide_eq_true (by first | (with_reducible assumption) | assumption)
                        have q166 : x7_1 < (l1.length : Int) := of_decide_eq_true (by first | (with_reducible assumption) | assumption)
                        obtain ⟨ad166, e166, hx166_0, hx166_1, hx166_2, hx166_3⟩ := at_T32 HR1.out x7_1 p166 q166
                        obtain rfl : ad162 = ad166 := (by injection e166)
                        replace p166 := eq_true p166
                        replace q166 := eq_true q166
                        go_wp2
                        repeat (go_quiet (fail); try go_wp2)
                        go_meet
                        case rel => exact ⟨_, (false), (by first | rfl | (simp; done) | (simp [*]; done)), H', ⟨by have := HK1.out; first | omega | exact Nat.le_refl _⟩, by repeat (first | exact Drawn0.refl _ | apply Drawn0.step)⟩
                    · rw [if_neg c11] at H
                      have c11b0 : (((rd_T32 l0 x7_1).f2) == ((rd_T32 l1 x7_1).f2)) = false := beq_eq_false_iff_ne.mpr c11
                      have c11b1 : (((rd_T32 l0 x7_1).f2) != ((rd_T32 l1 x7_1).f2)) = true := bne_iff_ne.mpr c11
                      have H' := Aside0.mk H
                      clear H
                      have p161 : 0 ≤ (x7_1 : Int) := of_decide_eq_true (by first | (with_reducible assumption) | assumption)
                      have q161 : x7_1 < (l0.length : Int) := of_decide_eq_true (by first | (with_reducible assumption) | assumption)
                      obtain ⟨ad161, e161, hx161_0, hx161_1, hx161_2, hx161_3⟩ := at_T32 HR0.out x7_1 p161 q161
                      cases e161
                      replace p161 := eq_true p161
                      replace q161 := eq_true q161
                      have p162 : 0 ≤ (x7_1 : Int) := of_decide_eq_true (by first | (with_reducible assumption) | assumption)
                      have q162 : x7_1 < (l1.length : Int) := of_decide_eq_true (by first | (with_reducible assumption) | assumption)
                      obtain ⟨ad162, e162, hx162_0, hx162_1, hx162_2, hx162_3⟩ := at_T32 HR1.out x7_1 p162 q162
                      cases e162
                      replace p162 := eq_true p162
                      replace q162 := eq_true q162
                      have p163 : 0 ≤ (x7_1 : Int) := of_decide_eq_true (by first | (with_reducible assumption) | assumption)
                      have q163 : x7_1 < (l0.length : Int) := of_decide_eq_true (by first | (with_reducible assumption) | assumption)
                      obtain ⟨ad163, e163, hx163_0, hx163_1, hx163_2, hx163_3⟩ := at_T32 HR0.out x7_1 p163 q163
                      obtain rfl : ad161 = ad163 := (by injection e163)
                      replace p163 := eq_true p163
                      replace q163 := eq_true q163
                      have p164 : 0 ≤ (x7_1 : Int) := of_decide_eq_true (by first | (with_reducible assumption) | assumption)
                      have q164 : x7_1 < (l1.length : Int) := of_decide_eq_true (by first | (with_reducible assumption) | assumption)
                      obtain ⟨ad164, e164, hx164_0, hx164_1, hx164_2, hx164_3⟩ := at_T32 HR1.out x7_1 p164 q164
                      obtain rfl : ad162 = ad164 := (by injection e164)
                      replace p164 := eq_true p164
                      replace q164 := eq_true q164
                      have p165 : 0 ≤ (x7_1 : Int) := of_decide_eq_true (by first | (with_reducible assumption) | assumption)
                      have q165 : x7_1 < (l0.length : Int) := of_decide_eq_true (by first | (with_reducible assumption) | assumption)
                      obtain ⟨ad165, e165, hx165_0, hx165_1, hx165_2, hx165_3⟩ := at_T32 HR0.out x7_1 p165 q165
                      obtain rfl : ad161 = ad165 := (by injection e165)
                      replace p165 := eq_true p165
                      replace q165 := eq_true q165
                      have p166 : 0 ≤ (x7_1 : Int) := of_decide_eq_true (by first | (with_reducible assumption) | assumption)
                      have q166 : x7_1 < (l1.length : Int) := of_decide_eq_true (by first | (with_reducible assumption) | assumption)
                      obtain ⟨ad166, e166, hx166_0, hx166_1, hx166_2, hx166_3⟩ := at_T32 HR1.out x7_1 p166 q166
                      obtain rfl : ad162 = ad166 := (by injection e166)
                      replace p166 := eq_true p166
                      replace q166 := eq_true q166
                      go_wp2
                      repeat (go_quiet (fail); try go_wp2)
                      go_meet
                      case rel => exact ⟨_, (true), (by first | rfl | (simp; done) | (simp [*]; done)), H', ⟨by have := HK1.out; first | omega | exact Nat.le_refl _⟩, by repeat (first | exact Drawn0.refl _ | apply Drawn0.step)⟩
                  · rw [if_neg c10] at H
                    have c10b0 : (((rd_T32 l0 x7_1).f1).toList == ((rd_T32 l1 x7_1).f1).toList) = false := beq_eq_false_iff_ne.mpr c10
                    have c10b1 : (((rd_T32 l0 x7_1).f1).toList != ((rd_T32 l1 x7_1).f1).toList) = true := bne_iff_ne.mpr c10
                    have H' := Aside0.mk H
                    clear H
                    have p161 : 0 ≤ (x7_1 : Int) := of_decide_eq_true (by first | (with_reducible assumption) | assumption)
                    have q161 : x7_1 < (l0.length : Int) := of_decide_eq_true (by first | (with_reducible assumption) | assumption)
                    obtain ⟨ad161, e161, hx161_0, hx161_1, hx161_2, hx161_3⟩ := at_T32 HR0.out x7_1 p161 q161
                    cases e161
                    replace p161 := eq_true p161
                    replace q161 := eq_true q161
                    have p162 : 0 ≤ (x7_1 : Int) := of_decide_eq_true (by first | (with_reducible assumption) | assumption)
                    have q162 : x7_1 < (l1.length : Int) := of_decide_eq_true (by first | (with_reducible assumption) | assumption)
                    obtain ⟨ad162, e162, hx162_0, hx162_1, hx162_2, hx162_3⟩ := at_T32 HR1.out x7_1 p162 q162
                    cases e162
                    replace p162 := eq_true p162
                    replace q162 := eq_true q162
                    have p163 : 0 ≤ (x7_1 : Int) := of_decide_eq_true (by first | (with_reducible assumption) | assumption)
                    have q163 : x7_1 < (l0.length : Int) := of_decide_eq_true (by first | (with_reducible assumption) | assumption)
                    obtain ⟨ad163, e163, hx163_0, hx163_1, hx163_2, hx163_3⟩ := at_T32 HR0.out x7_1 p163 q163
                    obtain rfl : ad161 = ad163 := (by injection e163)
                    replace p163 := eq_true p163
                    replace q163 := eq_true q163
                    have p164 : 0 ≤ (x7_1 : Int) := of_decide_eq_true (by first | (with_reducible assumption) | assumption)
                    have q164 : x7_1 < (l1.length : Int) := of_decide_eq_true (by first | (with_reducible assumption) | assumption)
                    obtain ⟨ad164, e164, hx164_0, hx164_1, hx164_2, hx164_3⟩ := at_T32 HR1.out x7_1 p164 q164
                    obtain rfl : ad162 = ad164 := (by injection e164)
                    replace p164 := eq_true p164
                    replace q164 := eq_true q164
                    go_wp2
                    repeat (go_quiet (fail); try go_wp2)
                    go_meet
                    case rel => exact ⟨_, (true), (by first | rfl | (simp; done) | (simp [*]; done)), H', ⟨by have := HK1.out; first | omega | exact Nat.le_refl _⟩, by repeat (first | exact Drawn0.refl _ | apply Drawn0.step)⟩
                · rw [if_neg c9] at H
                  have c9b0 : (((rd_T32 l0 x7_1).f0) == ((rd_T32 l1 x7_1).f0)) = false := beq_eq_false_iff_ne.mpr c9
                  have c9b1 : (((rd_T32 l0 x7_1).f0) != ((rd_T32 l1 x7_1).f0)) = true := bne_iff_ne.mpr c9
                  have H' := Aside0.mk H
                  clear H
                  have p161 : 0 ≤ (x7_1 : Int) := of_decide_eq_true (by first | (with_reducible assumption) | assumption)
                  have q161 : x7_1 < (l0.length : Int) := of_decide_eq_true (by first | (with_reducible assumption) | assumption)
                  obtain ⟨ad161, e161, hx161_0, hx161_1, hx161_2, hx161_3⟩ := at_T32 HR0.out x7_1 p161 q161
                  cases e161
                  replace p161 := eq_true p161
                  replace q161 := eq_true q161
                  have p162 : 0 ≤ (x7_1 : Int) := of_decide_eq_true (by first | (with_reducible assumption) | assumption)
                  have q162 : x7_1 < (l1.length : Int) := of_decide_eq_true (by first | (with_reducible assumption) | assumption)
                  obtain ⟨ad162, e162, hx162_0, hx162_1, hx162_2, hx162_3⟩ := at_T32 HR1.out x7_1 p162 q162
                  cases e162
                  replace p162 := eq_true p162
                  replace q162 := eq_true q162
                  go_wp2
                  repeat (go_quiet (fail); try go_wp2)
                  go_meet
                  case rel => exact ⟨_, (true), (by first | rfl | (simp; done) | (simp [*]; done)), H', ⟨by have := HK1.out; first | omega | exact Nat.le_refl _⟩, by repeat (first | exact Drawn0.refl _ | apply Drawn0.step)⟩
              · rw [if_neg c8] at H
                exact absurd H (by simp)
            · rw [if_neg c7] at H
              exact absurd H (by simp)
          case rest =>
            clear HC6
            try clear c1
            try clear p1
            try clear q1
            try clear hx1
            try clear p2
            try clear c4
            try clear c4b0
            try clear c4b1
            try clear c4b2
            try clear c5
            try clear c5b0
            try clear c7
            try clear c7b0
            try clear c8
            try clear c8b0
            try clear c9
            try clear c9b0
            try clear c9b1
            try clear c10
            try clear c10b0
            try clear c10b1
            try clear c11
            try clear c11b0
            try clear c11b1
            try clear c12
            try clear hx161_0
            try clear hx161_1
            try clear hx161_2
            try clear hx161_3
            try clear hx162_0
            try clear hx162_1
            try clear hx162_2
            try clear hx162_3
            try clear hx163_0
            try clear hx163_1
            try clear hx163_2
            try clear hx163_3
            try clear hx164_0
            try clear hx164_1
            try clear hx164_2
            try clear hx164_3
            try clear hx165_0
            try clear hx165_1
            try clear hx165_2
            try clear hx165_3
            try clear hx166_0
            try clear hx166_1
            try clear hx166_2
            try clear hx166_3
            try clear hx167_0
            try clear hx167_1
            try clear hx167_2
            try clear hx167_3
            try clear hx168_0
            try clear hx168_1
            try clear hx168_2
            try clear hx168_3
            try clear p161
            try clear p162
            try clear p163
            try clear p164
            try clear p165
            try clear p166
            try clear p167
            try clear p168
            try clear p2
            try clear q161
            try clear q162
            try clear q163
            try clear q164
            try clear q165
            try clear q166
            try clear q167
            try clear q168
            obtain ⟨kq, x71_5, rfl, HA, HJ5, ⟨mc5, rfl⟩⟩ := hcut
            cases kq with
            | zero => exact absurd HA.out (by simp [trickleref15_Same.j1])
            | succ kj5 =>
              have H := HA.out
              clear HA
              simp only [trickleref15_Same.j1] at H
              by_cases c13 : x71_5 = true
              · subst c13
                have H1 : (some false) = some r := by rw [if_pos rfl] at H; exact H
                clear H
                have H := H1
                clear H1
                obtain rfl := Option.some.inj H
                go_wp2
                repeat (go_quiet (fail); try go_wp2)
                go_ret
                exact ⟨by first | rfl | (simp; done) | (simp [*]; done), by repeat (first | exact Drawn0.refl _ | apply Drawn0.step)⟩
              · replace c13 := Bool.eq_false_iff.mpr c13
                subst c13
                have H1 : (trickleref15_Same.l0 kj5 l0 l1 a2 (wrap64 (x7_1 + 1))) = some r := by rw [if_neg (show ¬ (false = true) by decide)] at H; exact H
                clear H
                have H := H1
                clear H1
                have H' := Aside0.mk H
                clear H
                go_wp2
                repeat (go_quiet (fail); try go_wp2)
                go_roundg kj5
                case measure => have := HK1.out; have := HJ5.out; omega
                case rel => exact ⟨(wrap64 (x7_1 + 1)), (by first | rfl | (simp; done) | (simp [*]; done)), H', ⟨by have := HK1.out; have := HJ5.out; omega⟩, by repeat (first | exact Drawn0.refl _ | apply Drawn0.step)⟩
        · rw [if_neg c5] at H
          have c5b0 : decide (x7_1 < (l0.length : Int)) = false := decide_eq_false c5
          clear c5
          obtain rfl := Option.some.inj H
          go_wp2
          repeat (go_quiet (fail); try go_wp2)
          go_ret
          exact ⟨by first | rfl | (simp; done) | (simp [*]; done), by repeat (first | exact Drawn0.refl _ | apply Drawn0.step)⟩
  · rw [if_neg c4] at H
    have c4b0 : ((l0.length : Int) == (l1.length : Int)) = false := beq_eq_false_iff_ne.mpr c4
    have c4b1 : ((l0.length : Int) != (l1.length : Int)) = true := bne_iff_ne.mpr c4
    have c4b2 : (l0.length == l1.length) = false := by first | simpa using c4 | (simp at c4 ⊢; omega)
    obtain rfl := Option.some.inj H
    go_enter Tryd.func11, Tryd.ntmps11
    go_wp2
    repeat (go_quiet (fail); try go_wp2)
    go_ret
    exact ⟨by first | rfl | (simp; done) | (simp [*]; done), by repeat (first | exact Drawn0.refl _ | apply Drawn0.step)⟩

end Go.Proofs.YtmpbkemicfmbaaaDoor.PX
-- Written by a program of this session (wip/xprint.py, over the kit's print tool). Lean checks it.
namespace Go.Proofs.YtmpbkemicfmbaaaDoor.PX
open Go.RowKit Go.Proofs.YtmpbkemicfmbaaaDoorW.PrintWords Go.Proofs.YtmpbkemicfmbaaaDoorW.PrintLast Go.Proofs.YtmpbkemicfmbaaaDoorW.PrintMore
attribute [local go_sem] max2_int min2_int max_two min_two max_three min_three max_four min_four   -- for this text's walks alone
set_option linter.unusedVariables false
set_option linter.unusedSimpArgs false

/-! ### tricklelaw15_plain: function 12 -/
def tricklelaw15_plain.l0 : Nat → List (S32) → List (S37) → Int → Int → Option ((List (S32)))
  | 0, _, _, _, _ => none
  | k + 1, x3, x6, x7, x8 => if x8 < x7 then (if 0 ≤ x8 then (if x8 < (x6.length : Int) then (if x3.length < 3518437208883 then (tricklelaw15_plain.l0 k (x3 ++ [(⟨(rd_T37 x6 x8).f0, (rd_T37 x6 x8).f1, (rd_T37 x6 x8).f2, (rd_T37 x6 x8).f3⟩ : S32)]) x6 x7 (wrap64 (x8 + 1))) else (none)) else (none)) else (none)) else (some x3)
def tricklelaw15_plain.f (k : Nat) (l0 : List (S37)) : Option ((List (S32))) := tricklelaw15_plain.l0 k ([] : List (S32)) l0 (l0.length : Int) 0
set_option maxHeartbeats 8000000 in
set_option maxRecDepth 100000 in
theorem tricklelaw15_plain.calls (k : Nat) (A0 : Option Addr) (c0 : Nat) (l0 : List (S37)) (r : List (S32)) (w : World) (hr0 : Kd.C k37 w A0 l0.length l0) (hc0 : l0.length ≤ c0) (h : tricklelaw15_plain.f k l0 = some r) :
    Calls Tryd.prog 12 #[.slice A0 l0.length c0] w fun e w' => ∃ v0_ : Value, e = .returned (v0_) ∧ Kd.R k32 32 w' w.heap.size (fun _ => True) v0_ r ∧ Below w.heap.size w w' := by
  have hu37 := Tryd.underlying37
  have hu32 := Tryd.underlying32
  have HR0 := Aside0.mk hr0
  have HC0 := Aside0.mk hc0
  clear hr0 hc0
  have HB := Aside0.mk (Below.refl w.heap.size w)
  have H : (tricklelaw15_plain.l0 k ([] : List (S32)) l0 (l0.length : Int) 0) = some r := h
  clear h
  have H' := Aside0.mk H
  clear H
  go_enter Tryd.func12, Tryd.ntmps12
  go_wp2
  go_loopg [3, 8] k (fun kq v3 v8 w' => ∃ (x3_1 : List (S32)) (x8_1 : Int), v8 = .int .i64 x8_1 ∧ Aside0 (tricklelaw15_plain.l0 kq x3_1 l0 (l0.length : Int) x8_1 = some r) ∧ Aside0 (kq ≤ k) ∧ Aside0 (Kd.R k32 32 w' w.heap.size (fun _ => True) v3 x3_1) ∧ Aside0 (Below w.heap.size w w'))
  case atStart => exact ⟨(([] : List (S32))), (0), (by first | rfl | (simp; done) | (simp [*]; done)), H', ⟨Nat.le_refl _⟩, ⟨by first | exact Kd.R_nil _ _ _ _ _ | exact Kd.N_nil _ _ _ _ _ | exact Kd.V_nil _ _ _ _ _ | exact Kd.Q_nil _ _ _ _ _ | exact Kd.S_nil _ _ _ _ _⟩, ⟨by repeat (first | (with_reducible first | exact HB.out | apply below_alloc | apply pw_below_drewN | apply below_drew1) | exact HB.out)⟩⟩
  case round =>
    clear H'
    try clear c1
    obtain ⟨x3_1, x8_1, rfl, HA, HK1, HO_3, HB⟩ := hrel
    cases gk with
    | zero => exact absurd HA.out (by simp [tricklelaw15_plain.l0])
    | succ k1 =>
      have H := HA.out
      clear HA
      simp only [tricklelaw15_plain.l0] at H
      by_cases c2 : x8_1 < (l0.length : Int)
      · rw [if_pos c2] at H
        have c2b0 : decide (x8_1 < (l0.length : Int)) = true := decide_eq_true c2
        clear c2
        by_cases c3 : 0 ≤ x8_1
        · rw [if_pos c3] at H
          have c3b0 : decide (0 ≤ x8_1) = true := decide_eq_true c3
          clear c3
          by_cases c4 : x8_1 < (l0.length : Int)
          · rw [if_pos c4] at H
            have c4b0 : decide (x8_1 < (l0.length : Int)) = true := decide_eq_true c4
            clear c4
            by_cases c5 : x3_1.length < 3518437208883
            · rw [if_pos c5] at H
              have LMc5 := Aside0.mk c5
              clear c5
              obtain ⟨y171, hy171⟩ : ∃ y_ : List (S32), y_ = (x3_1 ++ [(⟨(rd_T37 l0 x8_1).f0, (rd_T37 l0 x8_1).f1, (rd_T37 l0 x8_1).f2, (rd_T37 l0 x8_1).f3⟩ : S32)]) := ⟨_, rfl⟩
              replace H : (tricklelaw15_plain.l0 k1 y171 l0 (l0.length : Int) (wrap64 (x8_1 + 1))) = some r := by first | (rw [hy171]; with_reducible exact H) | (have H2_ := (Option.bind_some _ _).symm.trans H; rw [hy171]; with_reducible exact H2_) | (have H2_ := (Option.bind_some _ _).symm.trans H; with_reducible exact H2_) | with_reducible exact H | (rw [hy171]; exact H) | exact H
              have Ny171 := Aside0.mk hy171
              clear hy171
              have H' := Aside0.mk H
              clear H
              have p169 : 0 ≤ (x8_1 : Int) := of_decide_eq_true (by first | (with_reducible assumption) | assumption)
              have q169 : x8_1 < (l0.length : Int) := of_decide_eq_true (by first | (with_reducible assumption) | assumption)
              obtain ⟨ad169, e169, hx169_0, hx169_1, hx169_2, hx169_3⟩ := at_T37 HR0.out x8_1 p169 q169
              cases e169
              replace hx169_0 := (HB.out.cell (World.block_lt_of_cell? w _ hx169_0)).trans hx169_0
              replace hx169_1 := (HB.out.cell (World.block_lt_of_cell? w _ hx169_1)).trans hx169_1
              replace hx169_2 := (HB.out.cell (World.block_lt_of_cell? w _ hx169_2)).trans hx169_2
              replace hx169_3 := (HB.out.cell (World.block_lt_of_cell? w _ hx169_3)).trans hx169_3
              replace p169 := eq_true p169
              replace q169 := eq_true q169
              go_wp2_with (first | ((with_reducible refine gate_dst (N := 5) rfl ?_); refine box_event ?hg (N := 5) ?hd (cs := #[.int .i64 0, .string (⟨#[]⟩ : ByteArray), .int .i16 0, .int .i64 0]) (t := 37) ?hr ?_; (case hd => rfl); (case hg => rfl); (case hr => first | (go_simp; done) | (go_simp; rfl)); intro gb170 hg w6 hbox hb; have n0_ := Aside0.mk (Kd.R_below (by (with_reducible repeat (first | apply Kd.R_alloc | apply Kd.R_drewN | apply Kd.R_drew)); exact HO_3.out) hb); have n1_ := Aside0.mk (below_step (by repeat (first | (with_reducible first | exact HB.out | apply below_alloc | apply pw_below_drewN | apply below_drew1) | exact HB.out)) hb); have n2_ := Aside0.mk (hbox); have n3_ := Aside0.mk ((by rw [hg]; exact (below_size (by repeat (first | (with_reducible first | exact HB.out | apply below_alloc | apply pw_below_drewN | apply below_drew1) | exact HB.out))) : w.heap.size ≤ gb170)); have n4_ := Aside0.mk ((by rw [hg]; exact (below_size (by repeat (first | (with_reducible first | exact HB.out | apply below_alloc | apply pw_below_drewN | apply below_drew1) | exact HB.out))) : w.heap.size ≤ gb170)); clear HO_3; clear HB; have HO_3 := n0_; have HB := n1_; have BK170 := n2_; have GW170 := n3_; have GE170 := n4_; clear n0_ n1_ n2_ n3_ n4_; clear hb hbox hg; have hcz7_0 : w6.cell? ⟨gb170, 0, none⟩ = some (.int .i64 0) := (blk_cell BK170.out 0).trans rfl; have hcz7_1 : w6.cell? ⟨gb170, 1, none⟩ = some (.string (⟨#[]⟩ : ByteArray)) := (blk_cell BK170.out 1).trans rfl; have hcz7_2 : w6.cell? ⟨gb170, 2, none⟩ = some (.int .i16 0) := (blk_cell BK170.out 2).trans rfl; have hcz7_3 : w6.cell? ⟨gb170, 3, none⟩ = some (.int .i64 0) := (blk_cell BK170.out 3).trans rfl; have hfz7_0 := blk_frozen BK170.out 0; have hfz7_1 := blk_frozen BK170.out 1; have hfz7_2 := blk_frozen BK170.out 2; have hfz7_3 := blk_frozen BK170.out 3) | ((with_reducible refine gate_builtin (b := .append) (xs := #[.tmp 12, .tmp 22]) rfl ?_); at_builtin; refine Kd.R_append k32 (w0 := w) w.heap.size rfl (.tmp 12) (.tmp 22) 24 32 (.agg #[(.int .i64 0), (.string ⟨#[]⟩), (.int .i16 0), (.int .i64 0)]) 40 rfl Tryd.underlying24 info32 rfl (by decide) (by omega) u3 x3_1 (⟨(rd_T37 l0 x8_1).f0, (rd_T37 l0 x8_1).f1, (rd_T37 l0 x8_1).f2, (rd_T37 l0 x8_1).f3⟩ : S32) [.int .i64 ((rd_T37 l0 x8_1).f0), .string ((rd_T37 l0 x8_1).f1), .int .i16 ((rd_T37 l0 x8_1).f2), .int .i64 ((rd_T37 l0 x8_1).f3)] (fun _ => True) (fun _ => False) rfl (by first | (go_simp; done) | (go_simp; rfl)) ?aP (fun _ hk => hk.elim) ?aF ?aO ?aB ?aS ?aL ?_; (case aP => exact k32_mkM _ _ _ (⟨(rd_T37 l0 x8_1).f0, (rd_T37 l0 x8_1).f1, (rd_T37 l0 x8_1).f2, (rd_T37 l0 x8_1).f3⟩ : S32)); (case aB => exact (by repeat (first | (with_reducible first | exact HB.out | apply below_alloc | apply pw_below_drewN | apply below_drew1 | refine below_set ?_ GE170.out) | exact HB.out))); (case aF => exact (fun _ _ => trivial)); (case aO => exact (by (with_reducible repeat (first | apply Kd.R_alloc | apply Kd.R_drewN | apply Kd.R_drew)); exact Kd.R_mono (Kd.R_far (p := ⟨gb170, 3, none⟩) (Kd.R_far (p := ⟨gb170, 2, none⟩) (Kd.R_far (p := ⟨gb170, 1, none⟩) (Kd.R_far (p := ⟨gb170, 0, none⟩) (Kd.R_types HO_3.out BK170.out (by decide)) (fun _ hk => hk.2) (.int .i64 ((rd_T37 l0 x8_1).f0))) (fun _ hk => hk.2) (.string ((rd_T37 l0 x8_1).f1))) (fun _ hk => hk.2) (.int .i16 ((rd_T37 l0 x8_1).f2))) (fun _ hk => hk.2) (.int .i64 ((rd_T37 l0 x8_1).f3))) (fun _ hk => trivial))); (case aS => exact (below_size (by repeat (first | (with_reducible first | exact HB.out | apply below_alloc | apply pw_below_drewN | apply below_drew1 | refine below_set ?_ GE170.out) | exact HB.out)))); (case aL => have := LMc5.out; omega); intro v172 w8 ho hb hg hat; rw [← Ny171.out] at ho; have n0_ := Aside0.mk (blk_grown (g := gb170) (o := .cells #[.int .i64 ((rd_T37 l0 x8_1).f0), .string ((rd_T37 l0 x8_1).f1), .int .i16 ((rd_T37 l0 x8_1).f2), .int .i64 ((rd_T37 l0 x8_1).f3)] 37 (0, 0)) (by (with_reducible repeat (first | refine blk_drewN ?_ _ | refine blk_drew ?_ | refine blk_alloc ?_ _)); refine blk_put (cs := #[.int .i64 ((rd_T37 l0 x8_1).f0), .string ((rd_T37 l0 x8_1).f1), .int .i16 ((rd_T37 l0 x8_1).f2), .int .i64 0]) ?_ 3 _ rfl; (with_reducible repeat (first | refine blk_drewN ?_ _ | refine blk_drew ?_ | refine blk_alloc ?_ _)); refine blk_put (cs := #[.int .i64 ((rd_T37 l0 x8_1).f0), .string ((rd_T37 l0 x8_1).f1), .int .i16 0, .int .i64 0]) ?_ 2 _ rfl; (with_reducible repeat (first | refine blk_drewN ?_ _ | refine blk_drew ?_ | refine blk_alloc ?_ _)); refine blk_put (cs := #[.int .i64 ((rd_T37 l0 x8_1).f0), .string (⟨#[]⟩ : ByteArray), .int .i16 0, .int .i64 0]) ?_ 1 _ rfl; (with_reducible repeat (first | refine blk_drewN ?_ _ | refine blk_drew ?_ | refine blk_alloc ?_ _)); refine blk_put (cs := #[.int .i64 0, .string (⟨#[]⟩ : ByteArray), .int .i16 0, .int .i64 0]) ?_ 0 _ rfl; (with_reducible repeat (first | refine blk_drewN ?_ _ | refine blk_drew ?_ | refine blk_alloc ?_ _)); exact BK170.out) hg (Kd.R_ne HO_3.out BK170.out (by decide))); have n1_ := Aside0.mk (hb); have n2_ := Aside0.mk (ho); clear BK170; clear HB; clear HO_3; have BK170 := n0_; have HB := n1_; have HO173 := n2_; clear n0_ n1_ n2_; clear ho hb hg hat))
              go_roundg k1
              case measure => have := HK1.out; omega
              case rel => exact ⟨(y171), (wrap64 (x8_1 + 1)), (by first | rfl | (simp; done) | (simp [*]; done)), H', ⟨by have := HK1.out; omega⟩, ⟨by (with_reducible repeat (first | apply Kd.R_alloc | apply Kd.R_drewN | apply Kd.R_drew)); exact HO173.out⟩, ⟨by repeat (first | (with_reducible first | exact HB.out | apply below_alloc | apply pw_below_drewN | apply below_drew1 | refine below_set ?_ GE170.out) | exact HB.out)⟩⟩
            · rw [if_neg c5] at H
              exact absurd H (by simp)
          · rw [if_neg c4] at H
            exact absurd H (by simp)
        · rw [if_neg c3] at H
          exact absurd H (by simp)
      · rw [if_neg c2] at H
        have c2b0 : decide (x8_1 < (l0.length : Int)) = false := decide_eq_false c2
        clear c2
        obtain rfl := Option.some.inj H
        go_wp2
        go_ret
        exact ⟨_, by first | rfl | (simp [errW_none, errW_some] <;> rfl) | (simp [*, errW_none, errW_some] <;> rfl), by (with_reducible repeat (first | apply Kd.R_alloc | apply Kd.R_drewN | apply Kd.R_drew)); exact HO_3.out, by repeat (first | (with_reducible first | exact HB.out | apply below_alloc | apply pw_below_drewN | apply below_drew1) | exact HB.out)⟩

end Go.Proofs.YtmpbkemicfmbaaaDoor.PX
/- The lexer in plain words, 4: both Scans give the same tokens; the examples hold. -/
namespace Go.Proofs.YtmpbkemicfmbaaaDoor.PX
open Go.RowKit Go.Proofs.YtmpbkemicfmbaaaDoorW.PrintWords Go.Proofs.YtmpbkemicfmbaaaDoorW.PrintLast Go.Proofs.YtmpbkemicfmbaaaDoorW.PrintMore
set_option linter.unusedVariables false
set_option linter.unusedSimpArgs false
def to32 (t : S37) : S32 := ⟨t.f0, t.f1, t.f2, t.f3⟩
/-- The tokens of a text from a place on (the first number: more steps than bytes are left). -/
def scanF : Nat → ByteArray → Nat → List S37
  | 0, _, _ => []
  | d + 1, s, j => if j + bl false ((bs s).drop j) = (bs s).length then [⟨0, ⟨#[]⟩, 0, ((j + bl false ((bs s).drop j) : Nat) : Int)⟩]
    else ⟨(tok (s.extract (j + bl false ((bs s).drop j)) s.size)).k, cut (s.extract (j + bl false ((bs s).drop j)) s.size) (tok (s.extract (j + bl false ((bs s).drop j)) s.size)).n, (tok (s.extract (j + bl false ((bs s).drop j)) s.size)).v, ((j + bl false ((bs s).drop j) : Nat) : Int)⟩ ::
      scanF d s (j + bl false ((bs s).drop j) + (tok (s.extract (j + bl false ((bs s).drop j)) s.size)).n)
theorem scanF_end (d : Nat) (s : ByteArray) (j : Nat) (h : j + bl false ((bs s).drop j) = (bs s).length) : scanF (d + 1) s j = [⟨0, ⟨#[]⟩, 0, ((j + bl false ((bs s).drop j) : Nat) : Int)⟩] := by
  rw [scanF]
  exact if_pos h
theorem scanF_tok (d : Nat) (s : ByteArray) (j b : Nat) (hb : bl false ((bs s).drop j) = b) (h : j + b ≠ (bs s).length) : scanF (d + 1) s j = ⟨(tok (s.extract (j + b) s.size)).k, cut (s.extract (j + b) s.size) (tok (s.extract (j + b) s.size)).n, (tok (s.extract (j + b) s.size)).v, ((j + b : Nat) : Int)⟩ :: scanF d s (j + b + (tok (s.extract (j + b) s.size)).n) := by
  rw [scanF, hb]
  exact if_neg h
theorem bl_end (s : ByteArray) (j : Nat) (h : (bs s).length ≤ j) : bl false ((bs s).drop j) = 0 := by rw [List.drop_of_length_le h]; rfl
theorem skip_at (s : ByteArray) (hn : (bs s).length ≤ 1000000) (j : Nat) (hj : j ≤ (bs s).length) : Ev (fun k => lexer_skip.f k (s.extract j s.size)) ((bl false ((bs s).drop j) : Nat) : Int) := by
  have h := skip_ev (s.extract j s.size) (by rw [bs_drop, List.length_drop]; omega) (bs (s.extract j s.size)).length 0 (by omega) (by omega)
  rw [bs_drop, List.drop_zero, Nat.zero_add] at h
  exact h
theorem blank_at (s : ByteArray) (hn : (bs s).length ≤ 1000000) (j : Nat) (hj : j ≤ (bs s).length) : Ev (fun k => trickleref15_blank.f k (s.extract j s.size)) ((bl false ((bs s).drop j) : Nat) : Int) := by
  have h := blank_ev (s.extract j s.size) (by rw [bs_drop, List.length_drop]; omega) (bs (s.extract j s.size)).length 0 (by omega) (by omega)
  rw [bs_drop, List.drop_zero, Nat.zero_add] at h
  exact h
theorem scan_len : ∀ (d : Nat) (s : ByteArray) (j : Nat), (bs s).length ≤ j + d → j ≤ (bs s).length → (scanF (d + 1) s j).length + j ≤ (bs s).length + 1 := by
  intro d
  induction d with
  | zero =>
    intro s j h1 h2
    have hz := bl_end s j (by omega)
    rw [scanF_end 0 s j (by rw [hz]; omega), List.length_cons, List.length_nil]
    omega
  | succ d ih =>
    intro s j h1 h2
    have hb := bl_le ((bs s).drop j) false
    rw [List.length_drop] at hb
    generalize hbb : bl false ((bs s).drop j) = b at hb
    by_cases h : j + b = (bs s).length
    · rw [scanF_end _ s j (by rw [hbb]; exact h), List.length_cons, List.length_nil]
      omega
    · rw [scanF_tok _ s j b hbb h]
      have hx : 0 < (bs (s.extract (j + b) s.size)).length := by rw [bs_drop, List.length_drop]; omega
      have ht := tok_range _ hx
      rw [bs_drop, List.length_drop] at ht
      generalize (tok (s.extract (j + b) s.size)).n = n at ht ⊢
      have := ih s (j + b + n) (by omega) (by omega)
      rw [List.length_cons]
      omega
theorem scan_impl (s : ByteArray) (hn : (bs s).length ≤ 1000000) : ∀ (d j : Nat) (acc : List S37), (bs s).length ≤ j + d → j ≤ (bs s).length → acc.length ≤ j → Ev (fun k => lexer_Scan.l0 k s acc (j : Int)) (acc ++ scanF (d + 1) s j) := by
  intro d
  induction d with
  | zero =>
    intro j acc h1 h2 ha
    have hs := bs_len s
    have hsk := skip_at s hn j h2
    refine Ev.step (fun k => by rw [lexer_Scan.l0]) (Ev.pos (by omega) (Ev.pos (by omega) ?_))
    rw [Int.toNat_natCast]
    refine Ev.bind hsk ?_
    have hz := bl_end s j (by omega)
    rw [scanF_end 0 s j (by rw [hz]; omega), hz, show wrap64 ((j : Int) + ((0 : Nat) : Int)) = ((j + 0 : Nat) : Int) by rw [wrap_id (by omega) (by omega)]; omega]
    exact Ev.pos (by omega) (Ev.pos (by omega) (Ev.now _))
  | succ d ih =>
    intro j acc h1 h2 ha
    have hs := bs_len s
    have hb := bl_le ((bs s).drop j) false
    rw [List.length_drop] at hb
    have hsk := skip_at s hn j h2
    refine Ev.step (fun k => by rw [lexer_Scan.l0]) (Ev.pos (by omega) (Ev.pos (by omega) ?_))
    rw [Int.toNat_natCast]
    refine Ev.bind hsk ?_
    generalize hbb : bl false ((bs s).drop j) = b at hb ⊢
    rw [show wrap64 ((j : Int) + (b : Int)) = ((j + b : Nat) : Int) by rw [wrap_id (by omega) (by omega)]; omega]
    by_cases h : j + b = (bs s).length
    · rw [scanF_end _ s j (by rw [hbb]; exact h), hbb]
      exact Ev.pos (by omega) (Ev.pos (by omega) (Ev.now _))
    · rw [scanF_tok _ s j b hbb h]
      have hx : 0 < (bs (s.extract (j + b) s.size)).length := by rw [bs_drop, List.length_drop]; omega
      have ht := tok_range _ hx
      have hcs := cut_size (s.extract (j + b) s.size) (tok (s.extract (j + b) s.size)).n ht.2
      rw [bs_drop, List.length_drop] at ht
      refine Ev.neg (by omega) (Ev.pos (by omega) (Ev.pos (by omega) ?_))
      rw [Int.toNat_natCast]
      refine Ev.bind (next_ev _ hx (by rw [bs_drop, List.length_drop]; omega)) (Ev.pos (by omega) ?_)
      show Ev (fun k => lexer_Scan.l0 k s (acc ++ [⟨(tok (s.extract (j + b) s.size)).k, cut (s.extract (j + b) s.size) (tok (s.extract (j + b) s.size)).n, (tok (s.extract (j + b) s.size)).v, ((j + b : Nat) : Int)⟩]) (wrap64 (((j + b : Nat) : Int) + ((cut (s.extract (j + b) s.size) (tok (s.extract (j + b) s.size)).n).size : Int)))) _
      rw [hcs, show wrap64 (((j + b : Nat) : Int) + ((tok (s.extract (j + b) s.size)).n : Int)) = ((j + b + (tok (s.extract (j + b) s.size)).n : Nat) : Int) by rw [wrap_id (by omega) (by omega)]; omega]
      refine Ev.cast (ih (j + b + (tok (s.extract (j + b) s.size)).n) _ (by omega) (by omega) (by rw [List.length_append]; simp only [List.length_cons, List.length_nil]; omega)) ?_
      rw [List.append_assoc]
      rfl
theorem scan_ref (s : ByteArray) (hn : (bs s).length ≤ 1000000) : ∀ (d j : Nat) (acc : List S32), (bs s).length ≤ j + d → j ≤ (bs s).length → acc.length ≤ j → Ev (fun k => trickleref15_Scan.l0 k s acc (j : Int)) (acc ++ (scanF (d + 1) s j).map to32) := by
  intro d
  induction d with
  | zero =>
    intro j acc h1 h2 ha
    have hs := bs_len s
    have hsk := blank_at s hn j h2
    refine Ev.step (fun k => by rw [trickleref15_Scan.l0]) (Ev.pos (by omega) (Ev.pos (by omega) ?_))
    rw [Int.toNat_natCast]
    refine Ev.bind hsk ?_
    have hz := bl_end s j (by omega)
    rw [scanF_end 0 s j (by rw [hz]; omega), hz, show wrap64 ((j : Int) + ((0 : Nat) : Int)) = ((j + 0 : Nat) : Int) by rw [wrap_id (by omega) (by omega)]; omega]
    exact Ev.pos (by omega) (Ev.pos (by omega) (Ev.now _))
  | succ d ih =>
    intro j acc h1 h2 ha
    have hs := bs_len s
    have hb := bl_le ((bs s).drop j) false
    rw [List.length_drop] at hb
    have hsk := blank_at s hn j h2
    refine Ev.step (fun k => by rw [trickleref15_Scan.l0]) (Ev.pos (by omega) (Ev.pos (by omega) ?_))
    rw [Int.toNat_natCast]
    refine Ev.bind hsk ?_
    generalize hbb : bl false ((bs s).drop j) = b at hb ⊢
    rw [show wrap64 ((j : Int) + (b : Int)) = ((j + b : Nat) : Int) by rw [wrap_id (by omega) (by omega)]; omega]
    by_cases h : j + b = (bs s).length
    · rw [scanF_end _ s j (by rw [hbb]; exact h), hbb]
      exact Ev.pos (by omega) (Ev.pos (by omega) (Ev.now _))
    · rw [scanF_tok _ s j b hbb h]
      have hx : 0 < (bs (s.extract (j + b) s.size)).length := by rw [bs_drop, List.length_drop]; omega
      have ht := tok_range _ hx
      have hcs := cut_size (s.extract (j + b) s.size) (tok (s.extract (j + b) s.size)).n ht.2
      rw [bs_drop, List.length_drop] at ht
      refine Ev.neg (by omega) (Ev.pos (by omega) (Ev.pos (by omega) ?_))
      rw [Int.toNat_natCast]
      refine Ev.bind (one_ev _ hx (by rw [bs_drop, List.length_drop]; omega)) (Ev.pos (by omega) ?_)
      show Ev (fun k => trickleref15_Scan.l0 k s (acc ++ [⟨(tok (s.extract (j + b) s.size)).k, cut (s.extract (j + b) s.size) (tok (s.extract (j + b) s.size)).n, (tok (s.extract (j + b) s.size)).v, ((j + b : Nat) : Int)⟩]) (wrap64 (((j + b : Nat) : Int) + ((cut (s.extract (j + b) s.size) (tok (s.extract (j + b) s.size)).n).size : Int)))) _
      rw [hcs, show wrap64 (((j + b : Nat) : Int) + ((tok (s.extract (j + b) s.size)).n : Int)) = ((j + b + (tok (s.extract (j + b) s.size)).n : Nat) : Int) by rw [wrap_id (by omega) (by omega)]; omega]
      refine Ev.cast (ih (j + b + (tok (s.extract (j + b) s.size)).n) _ (by omega) (by omega) (by rw [List.length_append]; simp only [List.length_cons, List.length_nil]; omega)) ?_
      rw [List.append_assoc]
      rfl
/-- The tokens of a text. -/
def scan (s : ByteArray) : List S37 := scanF ((bs s).length + 1) s 0
theorem scan_ev (s : ByteArray) (hn : (bs s).length ≤ 1000000) : Ev (fun k => lexer_Scan.f k s) (scan s) := scan_impl s hn (bs s).length 0 [] (by omega) (by omega) (by simp)
theorem rscan_ev (s : ByteArray) (hn : (bs s).length ≤ 1000000) : Ev (fun k => trickleref15_Scan.f k s) ((scan s).map to32) := scan_ref s hn (bs s).length 0 [] (by omega) (by omega) (by simp)
theorem scan_le (s : ByteArray) : (scan s).length ≤ (bs s).length + 1 := scan_len (bs s).length s 0 (by omega) (by omega)
theorem rd_T37_nat (xs : List S37) (j : Nat) (h : j < xs.length) : rd_T37 xs (j : Int) = xs[j] := getD_nat xs z37 j h
theorem rd_T32_nat (xs : List S32) (j : Nat) (h : j < xs.length) : rd_T32 xs (j : Int) = xs[j] := getD_nat xs z32 j h
theorem plain_loop (l : List S37) (hn : l.length ≤ 1000000) : ∀ (d j : Nat) (acc : List S32), j + d = l.length → acc.length ≤ j → Ev (fun k => tricklelaw15_plain.l0 k acc l (l.length : Int) (j : Int)) (acc ++ (l.drop j).map to32)
  | 0, j, acc, hj, ha => by
    rw [List.drop_of_length_le (by omega), List.map_nil, List.append_nil]
    exact Ev.step (fun k => by rw [tricklelaw15_plain.l0]) (Ev.neg (by omega) (Ev.now _))
  | d + 1, j, acc, hj, ha => by
    refine Ev.step (fun k => by rw [tricklelaw15_plain.l0]) (Ev.pos (by omega) (Ev.pos (by omega) (Ev.pos (by omega) (Ev.pos (by omega) ?_))))
    rw [rd_T37_nat l j (by omega), wrap_nat (n := l.length) (by omega) (by omega)]
    refine Ev.cast (plain_loop l hn d (j + 1) _ (by omega) (by simp; omega)) ?_
    rw [drop_cons l j (by omega), List.map_cons, List.append_assoc]
    rfl
theorem plain_ev (l : List S37) (hn : l.length ≤ 1000000) : Ev (fun k => tricklelaw15_plain.f k l) (l.map to32) := by
  have h := plain_loop l hn l.length 0 [] (by omega) (by simp)
  rw [List.drop_zero] at h
  exact h
theorem wakes15 : Ev (fun k => tricklelaw15_wakes.f k) true := Ev.of (k := 80) (fun k => tricklelaw15_wakes.mono k) (by kernel_rfl)
end Go.Proofs.YtmpbkemicfmbaaaDoor.PX
