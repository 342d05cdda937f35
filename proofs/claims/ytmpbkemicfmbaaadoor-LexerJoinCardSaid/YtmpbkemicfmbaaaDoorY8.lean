/- Parts of the proof, merged in build order: PXx26, PXx27, PureLexerJoin. -/
import Derived.Test.YtmpbkemicfmbaaaDoorY1
import Derived.Test.YtmpbkemicfmbaaaDoorY4
import Derived.Test.YtmpbkemicfmbaaaDoorY5
-- Written by a program of this session (wip/xprint.py, over the kit's print tool). Lean checks it.
namespace Go.Proofs.YtmpbkemicfmbaaaDoor.PX
open Go.RowKit Go.Proofs.YtmpbkemicfmbaaaDoorW.PrintWords Go.Proofs.YtmpbkemicfmbaaaDoorW.PrintLast Go.Proofs.YtmpbkemicfmbaaaDoorW.PrintMore
attribute [local go_sem] max2_int min2_int max_two min_two max_three min_three max_four min_four   -- for this text's walks alone
set_option linter.unusedVariables false
set_option linter.unusedSimpArgs false

/-! ### trickleref15_Join: function 17 -/
mutual
def trickleref15_Join.l0 : Nat → List (S32) → ByteArray → ByteArray → Int → Option (ByteArray)
  | 0, _, _, _, _ => none
  | k + 1, x0, x3, x4, x5 => if x5 < (x0.length : Int) then (if 0 ≤ x5 then (if ((rd_T32 x0 x5).f1).toList = ([] : List UInt8) then (trickleref15_Join.l0 k x0 x3 x4 (wrap64 (x5 + 1))) else (if x4.toList = ([] : List UInt8) then (if x3.size + ((rd_T32 x0 x5).f1).size ≤ 9223372036854775807 then (trickleref15_Join.l0 k x0 (x3 ++ ((rd_T32 x0 x5).f1)) ((rd_T32 x0 x5).f1) (wrap64 (x5 + 1))) else (none)) else (if x4.size + ((rd_T32 x0 x5).f1).size ≤ 9223372036854775807 then ((trickleref15_Scan.f k (x4 ++ ((rd_T32 x0 x5).f1))).bind fun t230 => (if (t230.length : Int) = 3 then (if 0 < (t230.length : Int) then (if ((rd_T32 t230 0).f1).toList = x4.toList then (if 1 < (t230.length : Int) then (trickleref15_Join.j1 k x0 x3 x5 ((rd_T32 x0 x5).f1) (((rd_T32 t230 1).f1).toList != ((rd_T32 x0 x5).f1).toList)) else (none)) else (trickleref15_Join.j1 k x0 x3 x5 ((rd_T32 x0 x5).f1) true)) else (none)) else (trickleref15_Join.j1 k x0 x3 x5 ((rd_T32 x0 x5).f1) true))) else (none)))) else (none)) else (some x3)
def trickleref15_Join.j1 : Nat → List (S32) → ByteArray → Int → ByteArray → Bool → Option (ByteArray)
  | 0, _, _, _, _, _ => none
  | k + 1, x0, x3, x5, x6, x45 => if x45 = true then (if x3.size + 1 ≤ 9223372036854775807 then (if (x3 ++ (⟨#[32]⟩ : ByteArray)).size + x6.size ≤ 9223372036854775807 then (trickleref15_Join.l0 k x0 ((x3 ++ (⟨#[32]⟩ : ByteArray)) ++ x6) x6 (wrap64 (x5 + 1))) else (none)) else (none)) else (if x3.size + x6.size ≤ 9223372036854775807 then (trickleref15_Join.l0 k x0 (x3 ++ x6) x6 (wrap64 (x5 + 1))) else (none))
end
def trickleref15_Join.f (k : Nat) (l0 : List (S32)) : Option (ByteArray) := trickleref15_Join.l0 k l0 (⟨#[]⟩ : ByteArray) (⟨#[]⟩ : ByteArray) 0
set_option maxHeartbeats 8000000 in
set_option maxRecDepth 100000 in
theorem trickleref15_Join.calls (k : Nat) (A0 : Option Addr) (c0 : Nat) (l0 : List (S32)) (r : ByteArray) (w : World) (hr0 : Kd.C k32 w A0 l0.length l0) (hc0 : l0.length ≤ c0) (h : trickleref15_Join.f k l0 = some r) :
    Calls Tryd.prog 17 #[.slice A0 l0.length c0] w fun e w' => e = .returned (.string r) ∧ Below w.heap.size w w' := by
  have HR0 := Aside0.mk hr0
  have HC0 := Aside0.mk hc0
  clear hr0 hc0
  have HB := Aside0.mk (Below.refl w.heap.size w)
  have H : (trickleref15_Join.l0 k l0 (⟨#[]⟩ : ByteArray) (⟨#[]⟩ : ByteArray) 0) = some r := h
  clear h
  have H' := Aside0.mk H
  clear H
  go_enter Tryd.func17, Tryd.ntmps17
  go_wp2
  go_loopg [3, 4, 5] k (fun kq v3 v4 v5 w' => ∃ (x3_1 : ByteArray) (x4_1 : ByteArray) (x5_1 : Int), v3 = .string x3_1 ∧ v4 = .string x4_1 ∧ v5 = .int .i64 x5_1 ∧ Aside0 (trickleref15_Join.l0 kq l0 x3_1 x4_1 x5_1 = some r) ∧ Aside0 (kq ≤ k) ∧ Aside0 (Below w.heap.size w w'))
  case atStart => exact ⟨((⟨#[]⟩ : ByteArray)), ((⟨#[]⟩ : ByteArray)), (0), (by first | rfl | (simp; done) | (simp [*]; done)), (by first | rfl | (simp; done) | (simp [*]; done)), (by first | rfl | (simp; done) | (simp [*]; done)), H', ⟨Nat.le_refl _⟩, ⟨by repeat (first | (with_reducible first | exact HB.out | apply below_alloc | apply pw_below_drewN | apply below_drew1) | exact HB.out)⟩⟩
  case round =>
    clear H'
    try clear c1
    obtain ⟨x3_1, x4_1, x5_1, rfl, rfl, rfl, HA, HK1, HB⟩ := hrel
    cases gk with
    | zero => exact absurd HA.out (by simp [trickleref15_Join.l0])
    | succ k1 =>
      have H := HA.out
      clear HA
      simp only [trickleref15_Join.l0] at H
      by_cases c2 : x5_1 < (l0.length : Int)
      · rw [if_pos c2] at H
        have c2b0 : decide (x5_1 < (l0.length : Int)) = true := decide_eq_true c2
        clear c2
        by_cases c3 : 0 ≤ x5_1
        · rw [if_pos c3] at H
          have c3b0 : decide (0 ≤ x5_1) = true := decide_eq_true c3
          clear c3
          by_cases c4 : ((rd_T32 l0 x5_1).f1).toList = ([] : List UInt8)
          · rw [if_pos c4] at H
            have c4b0 : (((rd_T32 l0 x5_1).f1).toList == ([] : List UInt8)) = true := beq_iff_eq.mpr c4
            have c4b1 : (((rd_T32 l0 x5_1).f1).toList != ([] : List UInt8)) = false := bne_eq_false_iff_eq.mpr c4
            clear c4
            have H' := Aside0.mk H
            clear H
            have p229 : 0 ≤ (x5_1 : Int) := of_decide_eq_true (by first | (with_reducible assumption) | assumption)
            have q229 : x5_1 < (l0.length : Int) := of_decide_eq_true (by first | (with_reducible assumption) | assumption)
            obtain ⟨ad229, e229, hx229_0, hx229_1, hx229_2, hx229_3⟩ := at_T32 HR0.out x5_1 p229 q229
            cases e229
            replace hx229_0 := (HB.out.cell (World.block_lt_of_cell? w _ hx229_0)).trans hx229_0
            replace hx229_1 := (HB.out.cell (World.block_lt_of_cell? w _ hx229_1)).trans hx229_1
            replace hx229_2 := (HB.out.cell (World.block_lt_of_cell? w _ hx229_2)).trans hx229_2
            replace hx229_3 := (HB.out.cell (World.block_lt_of_cell? w _ hx229_3)).trans hx229_3
            replace p229 := eq_true p229
            replace q229 := eq_true q229
            go_wp2
            go_roundg k1
            case measure => have := HK1.out; omega
            case rel => exact ⟨(x3_1), (x4_1), (wrap64 (x5_1 + 1)), (by first | rfl | (simp; done) | (simp [*]; done)), (by first | rfl | (simp; done) | (simp [*]; done)), (by first | rfl | (simp; done) | (simp [*]; done)), H', ⟨by have := HK1.out; omega⟩, ⟨by repeat (first | (with_reducible first | exact HB.out | apply below_alloc | apply pw_below_drewN | apply below_drew1) | exact HB.out)⟩⟩
          · rw [if_neg c4] at H
            have c4b0 : (((rd_T32 l0 x5_1).f1).toList == ([] : List UInt8)) = false := beq_eq_false_iff_ne.mpr c4
            have c4b1 : (((rd_T32 l0 x5_1).f1).toList != ([] : List UInt8)) = true := bne_iff_ne.mpr c4
            by_cases c5 : x4_1.toList = ([] : List UInt8)
            · rw [if_pos c5] at H
              have c5b0 : (x4_1.toList == ([] : List UInt8)) = true := beq_iff_eq.mpr c5
              have c5b1 : (x4_1.toList != ([] : List UInt8)) = false := bne_eq_false_iff_eq.mpr c5
              clear c5
              by_cases c6 : x3_1.size + ((rd_T32 l0 x5_1).f1).size ≤ 9223372036854775807
              · rw [if_pos c6] at H
                have c6b0 := eq_true c6
                have c6b1 : decide (x3_1.size + ((rd_T32 l0 x5_1).f1).size ≤ 9223372036854775807) = true := decide_eq_true c6
                try have c6b2 : (9223372036854775807 < x3_1.size + ((rd_T32 l0 x5_1).f1).size) = False := eq_false (Nat.not_lt.2 c6)
                have H' := Aside0.mk H
                clear H
                have p229 : 0 ≤ (x5_1 : Int) := of_decide_eq_true (by first | (with_reducible assumption) | assumption)
                have q229 : x5_1 < (l0.length : Int) := of_decide_eq_true (by first | (with_reducible assumption) | assumption)
                obtain ⟨ad229, e229, hx229_0, hx229_1, hx229_2, hx229_3⟩ := at_T32 HR0.out x5_1 p229 q229
                cases e229
                replace hx229_0 := (HB.out.cell (World.block_lt_of_cell? w _ hx229_0)).trans hx229_0
                replace hx229_1 := (HB.out.cell (World.block_lt_of_cell? w _ hx229_1)).trans hx229_1
                replace hx229_2 := (HB.out.cell (World.block_lt_of_cell? w _ hx229_2)).trans hx229_2
                replace hx229_3 := (HB.out.cell (World.block_lt_of_cell? w _ hx229_3)).trans hx229_3
                replace p229 := eq_true p229
                replace q229 := eq_true q229
                go_wp2
                go_roundg k1
                case measure => have := HK1.out; omega
                case rel => exact ⟨(x3_1 ++ ((rd_T32 l0 x5_1).f1)), ((rd_T32 l0 x5_1).f1), (wrap64 (x5_1 + 1)), (by first | rfl | (simp; done) | (simp [*]; done)), (by first | rfl | (simp; done) | (simp [*]; done)), (by first | rfl | (simp; done) | (simp [*]; done)), H', ⟨by have := HK1.out; omega⟩, ⟨by repeat (first | (with_reducible first | exact HB.out | apply below_alloc | apply pw_below_drewN | apply below_drew1) | exact HB.out)⟩⟩
              · rw [if_neg c6] at H
                exact absurd H (by simp)
            · rw [if_neg c5] at H
              have c5b0 : (x4_1.toList == ([] : List UInt8)) = false := beq_eq_false_iff_ne.mpr c5
              have c5b1 : (x4_1.toList != ([] : List UInt8)) = true := bne_iff_ne.mpr c5
              by_cases c7 : x4_1.size + ((rd_T32 l0 x5_1).f1).size ≤ 9223372036854775807
              · rw [if_pos c7] at H
                have c7b0 := eq_true c7
                have c7b1 : decide (x4_1.size + ((rd_T32 l0 x5_1).f1).size ≤ 9223372036854775807) = true := decide_eq_true c7
                try have c7b2 : (9223372036854775807 < x4_1.size + ((rd_T32 l0 x5_1).f1).size) = False := eq_false (Nat.not_lt.2 c7)
                replace H := Option.bind_eq_some_iff.mp H
                obtain ⟨t230, A80, H⟩ := H
                replace H : (if (t230.length : Int) = 3 then (if 0 < (t230.length : Int) then (if ((rd_T32 t230 0).f1).toList = x4_1.toList then (if 1 < (t230.length : Int) then (trickleref15_Join.j1 k1 l0 x3_1 x5_1 ((rd_T32 l0 x5_1).f1) (((rd_T32 t230 1).f1).toList != ((rd_T32 l0 x5_1).f1).toList)) else (none)) else (trickleref15_Join.j1 k1 l0 x3_1 x5_1 ((rd_T32 l0 x5_1).f1) true)) else (none)) else (trickleref15_Join.j1 k1 l0 x3_1 x5_1 ((rd_T32 l0 x5_1).f1) true)) = some r := H
                have A8 := Aside0.mk A80
                clear A80
                have HC9 := Aside0.mk H
                clear H
                have p229 : 0 ≤ (x5_1 : Int) := of_decide_eq_true (by first | (with_reducible assumption) | assumption)
                have q229 : x5_1 < (l0.length : Int) := of_decide_eq_true (by first | (with_reducible assumption) | assumption)
                obtain ⟨ad229, e229, hx229_0, hx229_1, hx229_2, hx229_3⟩ := at_T32 HR0.out x5_1 p229 q229
                cases e229
                replace hx229_0 := (HB.out.cell (World.block_lt_of_cell? w _ hx229_0)).trans hx229_0
                replace hx229_1 := (HB.out.cell (World.block_lt_of_cell? w _ hx229_1)).trans hx229_1
                replace hx229_2 := (HB.out.cell (World.block_lt_of_cell? w _ hx229_2)).trans hx229_2
                replace hx229_3 := (HB.out.cell (World.block_lt_of_cell? w _ hx229_3)).trans hx229_3
                replace p229 := eq_true p229
                replace q229 := eq_true q229
                go_upto_region 10 with (first | ((with_reducible refine gate_callee (f := 14) rfl ?_); refine goesL_ (some 26) rfl rfl Tryd.func14 (by kernel_rfl) rfl #[.string (x4_1 ++ ((rd_T32 l0 x5_1).f1))] rfl (by (try simp only [List.map_toArray, List.map_cons, List.map_nil]); first | done | rfl | (simp only [List.length_drop, List.length_take]; rfl)) ?_; (with_reducible refine (trickleref15_Scan.calls k1 (x4_1 ++ ((rd_T32 l0 x5_1).f1)) t230 _ A8.out).mono ?_); rintro e w10 ⟨v231, rfl, ho0, hb⟩; refine ⟨_, rfl, ?_⟩; have n0_ := Aside0.mk (Kd.R_lower ho0 (below_size (by repeat (first | (with_reducible first | exact HB.out | apply below_alloc | apply pw_below_drewN | apply below_drew1) | exact HB.out)))); have n1_ := Aside0.mk (below_step (by repeat (first | (with_reducible first | exact HB.out | apply below_alloc | apply pw_below_drewN | apply below_drew1) | exact HB.out)) hb); clear HB; have HO232 := n0_; have HB := n1_; clear n0_ n1_; (try clear hb); (try clear hb2); (try clear hk); (try clear hi); (try clear ho0)))
                (try simp only [Act.put, List.setIfInBounds_toArray, List.set_cons_zero, List.set_cons_succ])
                go_cut [45] (fun v45 wc => ∃ (kq : Nat) (x45_8 : Bool), v45 = .bool x45_8 ∧ Aside0 (trickleref15_Join.j1 kq l0 x3_1 x5_1 ((rd_T32 l0 x5_1).f1) x45_8 = some r) ∧ Aside0 (kq ≤ k1) ∧ Aside0 (Below w.heap.size w wc))
                case first =>
                  have H := HC9.out
                  clear HC9
                  by_cases c11 : (t230.length : Int) = 3
                  · rw [if_pos c11] at H
                    have c11b0 : ((t230.length : Int) == 3) = true := beq_iff_eq.mpr c11
                    have c11b1 : ((t230.length : Int) != 3) = false := bne_eq_false_iff_eq.mpr c11
                    clear c11
                    (first | rw [c11b0] | (simp only [i64_w, i32_w]; rw [c11b0]) | skip)
                    by_cases c12 : 0 < (t230.length : Int)
                    · rw [if_pos c12] at H
                      have c12b0 : decide (0 < (t230.length : Int)) = true := decide_eq_true c12
                      have c12b1 : decide (0 < t230.length) = true := decide_eq_true (by omega)
                      clear c12
                      by_cases c13 : ((rd_T32 t230 0).f1).toList = x4_1.toList
                      · rw [if_pos c13] at H
                        have c13b0 : (((rd_T32 t230 0).f1).toList == x4_1.toList) = true := beq_iff_eq.mpr c13
                        have c13b1 : (((rd_T32 t230 0).f1).toList != x4_1.toList) = false := bne_eq_false_iff_eq.mpr c13
                        clear c13
                        by_cases c14 : 1 < (t230.length : Int)
                        · rw [if_pos c14] at H
                          have c14b0 : decide (1 < (t230.length : Int)) = true := decide_eq_true c14
                          have c14b1 : decide (1 < t230.length) = true := decide_eq_true (by omega)
                          clear c14
                          have H' := Aside0.mk H
                          clear H
                          obtain ⟨Ao15, co15, eo15⟩ := Kd.R_slice HO232.out
                          subst eo15
                          have p233 : 0 ≤ (0 : Int) := (by omega)
                          have q233 : 0 < (t230.length : Int) := of_decide_eq_true (by first | (with_reducible assumption) | assumption)
                          obtain ⟨ad233, e233, hx233_0, hx233_1, hx233_2, hx233_3⟩ := at_T32 (Kd.R_reads' HO232.out).2.2 0 p233 q233
                          cases e233
                          have qi233 : (0 < t230.length) = True := eq_true (by omega)
                          (try rw [show ((0 : Int)).toNat = 0 from rfl] at hx233_0)
                          (try rw [show 0 * 4 = 0 from rfl] at hx233_0)
                          (try rw [Addr.add_zero'] at hx233_0)
                          (try rw [show ((0 : Int)).toNat = 0 from rfl] at hx233_1)
                          (try rw [show 0 * 4 = 0 from rfl] at hx233_1)
                          (try rw [Addr.add_zero'] at hx233_1)
                          (try rw [show ((0 : Int)).toNat = 0 from rfl] at hx233_2)
                          (try rw [show 0 * 4 = 0 from rfl] at hx233_2)
                          (try rw [Addr.add_zero'] at hx233_2)
                          (try rw [show ((0 : Int)).toNat = 0 from rfl] at hx233_3)
                          (try rw [show 0 * 4 = 0 from rfl] at hx233_3)
                          (try rw [Addr.add_zero'] at hx233_3)
                          replace p233 := eq_true p233
                          replace q233 := eq_true q233
                          have p234 : 0 ≤ (1 : Int) := (by omega)
                          have q234 : 1 < (t230.length : Int) := of_decide_eq_true (by first | (with_reducible assumption) | assumption)
                          obtain ⟨ad234, e234, hx234_0, hx234_1, hx234_2, hx234_3⟩ := at_T32 (Kd.R_reads' HO232.out).2.2 1 p234 q234
                          obtain rfl : ad233 = ad234 := (by injection e234)
                          (try simp only [show (1 : Int).toNat = 1 from rfl, Nat.reduceMul, Nat.reduceEqDiff, Go.Addr.add, ↓reduceIte] at hx234_0)
                          (try simp only [show (1 : Int).toNat = 1 from rfl, Nat.reduceMul, Nat.reduceEqDiff, Go.Addr.add, ↓reduceIte] at hx234_1)
                          (try simp only [show (1 : Int).toNat = 1 from rfl, Nat.reduceMul, Nat.reduceEqDiff, Go.Addr.add, ↓reduceIte] at hx234_2)
                          (try simp only [show (1 : Int).toNat = 1 from rfl, Nat.reduceMul, Nat.reduceEqDiff, Go.Addr.add, ↓reduceIte] at hx234_3)
                          have qi234 : (1 < t230.length) = True := eq_true (by omega)
                          (try rw [show ((1 : Int)).toNat = 1 from rfl] at hx234_0)
                          (try rw [show 1 * 4 = 4 from rfl] at hx234_0)
                          (try rw [show ((1 : Int)).toNat = 1 from rfl] at hx234_1)
                          (try rw [show 1 * 4 = 4 from rfl] at hx234_1)
                          (try rw [show ((1 : Int)).toNat = 1 from rfl] at hx234_2)
                          (try rw [show 1 * 4 = 4 from rfl] at hx234_2)
                          (try rw [show ((1 : Int)).toNat = 1 from rfl] at hx234_3)
                          (try rw [show 1 * 4 = 4 from rfl] at hx234_3)
                          replace p234 := eq_true p234
                          replace q234 := eq_true q234
                          go_wp2
                          go_meet
                          case rel => exact ⟨_, ((((rd_T32 t230 1).f1).toList != ((rd_T32 l0 x5_1).f1).toList)), (by first | rfl | (simp; done) | (simp [*]; done)), H', ⟨by have := HK1.out; first | omega | exact Nat.le_refl _⟩, ⟨by repeat (first | (with_reducible first | exact HB.out | apply below_alloc | apply pw_below_drewN | apply below_drew1) | exact HB.out)⟩⟩
                        · rw [if_neg c14] at H
                          exact absurd H (by simp)
                      · rw [if_neg c13] at H
                        have c13b0 : (((rd_T32 t230 0).f1).toList == x4_1.toList) = false := beq_eq_false_iff_ne.mpr c13
                        have c13b1 : (((rd_T32 t230 0).f1).toList != x4_1.toList) = true := bne_iff_ne.mpr c13
                        have H' := Aside0.mk H
                        clear H
                        obtain ⟨Ao16, co16, eo16⟩ := Kd.R_slice HO232.out
                        subst eo16
                        have p233 : 0 ≤ (0 : Int) := (by omega)
                        have q233 : 0 < (t230.length : Int) := of_decide_eq_true (by first | (with_reducible assumption) | assumption)
                        obtain ⟨ad233, e233, hx233_0, hx233_1, hx233_2, hx233_3⟩ := at_T32 (Kd.R_reads' HO232.out).2.2 0 p233 q233
                        cases e233
                        have qi233 : (0 < t230.length) = True := eq_true (by omega)
                        (try rw [show ((0 : Int)).toNat = 0 from rfl] at hx233_0)
                        (try rw [show 0 * 4 = 0 from rfl] at hx233_0)
                        (try rw [Addr.add_zero'] at hx233_0)
                        (try rw [show ((0 : Int)).toNat = 0 from rfl] at hx233_1)
                        (try rw [show 0 * 4 = 0 from rfl] at hx233_1)
                        (try rw [Addr.add_zero'] at hx233_1)
                        (try rw [show ((0 : Int)).toNat = 0 from rfl] at hx233_2)
                        (try rw [show 0 * 4 = 0 from rfl] at hx233_2)
                        (try rw [Addr.add_zero'] at hx233_2)
                        (try rw [show ((0 : Int)).toNat = 0 from rfl] at hx233_3)
                        (try rw [show 0 * 4 = 0 from rfl] at hx233_3)
                        (try rw [Addr.add_zero'] at hx233_3)
                        replace p233 := eq_true p233
                        replace q233 := eq_true q233
                        go_wp2
                        go_meet
                        case rel => exact ⟨_, (true), (by first | rfl | (simp; done) | (simp [*]; done)), H', ⟨by have := HK1.out; first | omega | exact Nat.le_refl _⟩, ⟨by repeat (first | (with_reducible first | exact HB.out | apply below_alloc | apply pw_below_drewN | apply below_drew1) | exact HB.out)⟩⟩
                    · rw [if_neg c12] at H
                      exact absurd H (by simp)
                  · rw [if_neg c11] at H
                    have c11b0 : ((t230.length : Int) == 3) = false := beq_eq_false_iff_ne.mpr c11
                    have c11b1 : ((t230.length : Int) != 3) = true := bne_iff_ne.mpr c11
                    (first | rw [c11b0] | (simp only [i64_w, i32_w]; rw [c11b0]) | skip)
                    have H' := Aside0.mk H
                    clear H
                    obtain ⟨Ao17, co17, eo17⟩ := Kd.R_slice HO232.out
                    subst eo17
                    go_wp2
                    go_meet
                    case rel => exact ⟨_, (true), (by first | rfl | (simp; done) | (simp [*]; done)), H', ⟨by have := HK1.out; first | omega | exact Nat.le_refl _⟩, ⟨by repeat (first | (with_reducible first | exact HB.out | apply below_alloc | apply pw_below_drewN | apply below_drew1) | exact HB.out)⟩⟩
                case rest =>
                  clear HC9
                  try clear c1
                  try clear c2
                  try clear c2b0
                  try clear p2
                  try clear q2
                  try clear hx2
                  try clear qi2
                  try clear c3
                  try clear c3b0
                  try clear c4
                  try clear c4b0
                  try clear c4b1
                  try clear c5
                  try clear c5b0
                  try clear c5b1
                  try clear c6
                  try clear c6b0
                  try clear c6b1
                  try clear c6b2
                  try clear p6
                  try clear c7
                  try clear c7b0
                  try clear c7b1
                  try clear c7b2
                  try clear c11
                  try clear c11b0
                  try clear c11b1
                  try clear c12
                  try clear c12b0
                  try clear c12b1
                  try clear c13
                  try clear c13b0
                  try clear c13b1
                  try clear c14
                  try clear c14b0
                  try clear c14b1
                  try clear c17
                  try clear hx229_0
                  try clear hx229_1
                  try clear hx229_2
                  try clear hx229_3
                  try clear hx233_0
                  try clear hx233_1
                  try clear hx233_2
                  try clear hx233_3
                  try clear hx234_0
                  try clear hx234_1
                  try clear hx234_2
                  try clear hx234_3
                  try clear p229
                  try clear p233
                  try clear p234
                  try clear q229
                  try clear q233
                  try clear q234
                  obtain ⟨kq, x45_8, rfl, HA, HJ8, HB⟩ := hcut
                  cases kq with
                  | zero => exact absurd HA.out (by simp [trickleref15_Join.j1])
                  | succ kj8 =>
                    have H := HA.out
                    clear HA
                    simp only [trickleref15_Join.j1] at H
                    by_cases c18 : x45_8 = true
                    · subst c18
                      have H1 : (if x3_1.size + 1 ≤ 9223372036854775807 then (if (x3_1 ++ (⟨#[32]⟩ : ByteArray)).size + ((rd_T32 l0 x5_1).f1).size ≤ 9223372036854775807 then (trickleref15_Join.l0 kj8 l0 ((x3_1 ++ (⟨#[32]⟩ : ByteArray)) ++ ((rd_T32 l0 x5_1).f1)) ((rd_T32 l0 x5_1).f1) (wrap64 (x5_1 + 1))) else (none)) else (none)) = some r := by rw [if_pos rfl] at H; exact H
                      clear H
                      have H := H1
                      clear H1
                      by_cases c19 : x3_1.size + 1 ≤ 9223372036854775807
                      · rw [if_pos c19] at H
                        have c19b0 := eq_true c19
                        have c19b1 : decide (x3_1.size + 1 ≤ 9223372036854775807) = true := decide_eq_true c19
                        try have c19b2 : (9223372036854775807 < x3_1.size + 1) = False := eq_false (Nat.not_lt.2 c19)
                        by_cases c20 : (x3_1 ++ (⟨#[32]⟩ : ByteArray)).size + ((rd_T32 l0 x5_1).f1).size ≤ 9223372036854775807
                        · rw [if_pos c20] at H
                          have c20b0 := eq_true c20
                          have c20b1 : decide ((x3_1 ++ (⟨#[32]⟩ : ByteArray)).size + ((rd_T32 l0 x5_1).f1).size ≤ 9223372036854775807) = true := decide_eq_true c20
                          try have c20b2 : (9223372036854775807 < (x3_1 ++ (⟨#[32]⟩ : ByteArray)).size + ((rd_T32 l0 x5_1).f1).size) = False := eq_false (Nat.not_lt.2 c20)
                          have H' := Aside0.mk H
                          clear H
                          go_wp2
                          go_roundg kj8
                          case measure => have := HK1.out; have := HJ8.out; omega
                          case rel => exact ⟨((x3_1 ++ (⟨#[32]⟩ : ByteArray)) ++ ((rd_T32 l0 x5_1).f1)), (((rd_T32 l0 x5_1).f1)), (wrap64 (x5_1 + 1)), (by first | rfl | (simp; done) | (simp [*]; done)), (by first | rfl | (simp; done) | (simp [*]; done)), (by first | rfl | (simp; done) | (simp [*]; done)), H', ⟨by have := HK1.out; have := HJ8.out; omega⟩, ⟨by repeat (first | (with_reducible first | exact HB.out | apply below_alloc | apply pw_below_drewN | apply below_drew1) | exact HB.out)⟩⟩
                        · rw [if_neg c20] at H
                          exact absurd H (by simp)
                      · rw [if_neg c19] at H
                        exact absurd H (by simp)
                    · replace c18 := Bool.eq_false_iff.mpr c18
                      subst c18
                      have H1 : (if x3_1.size + ((rd_T32 l0 x5_1).f1).size ≤ 9223372036854775807 then (trickleref15_Join.l0 kj8 l0 (x3_1 ++ ((rd_T32 l0 x5_1).f1)) ((rd_T32 l0 x5_1).f1) (wrap64 (x5_1 + 1))) else (none)) = some r := by rw [if_neg (show ¬ (false = true) by decide)] at H; exact H
                      clear H
                      have H := H1
                      clear H1
                      by_cases c21 : x3_1.size + ((rd_T32 l0 x5_1).f1).size ≤ 9223372036854775807
                      · rw [if_pos c21] at H
                        have c21b0 := eq_true c21
                        have c21b1 : decide (x3_1.size + ((rd_T32 l0 x5_1).f1).size ≤ 9223372036854775807) = true := decide_eq_true c21
                        try have c21b2 : (9223372036854775807 < x3_1.size + ((rd_T32 l0 x5_1).f1).size) = False := eq_false (Nat.not_lt.2 c21)
                        have H' := Aside0.mk H
                        clear H
                        go_wp2
                        go_roundg kj8
                        case measure => have := HK1.out; have := HJ8.out; omega
                        case rel => exact ⟨(x3_1 ++ ((rd_T32 l0 x5_1).f1)), (((rd_T32 l0 x5_1).f1)), (wrap64 (x5_1 + 1)), (by first | rfl | (simp; done) | (simp [*]; done)), (by first | rfl | (simp; done) | (simp [*]; done)), (by first | rfl | (simp; done) | (simp [*]; done)), H', ⟨by have := HK1.out; have := HJ8.out; omega⟩, ⟨by repeat (first | (with_reducible first | exact HB.out | apply below_alloc | apply pw_below_drewN | apply below_drew1) | exact HB.out)⟩⟩
                      · rw [if_neg c21] at H
                        exact absurd H (by simp)
              · rw [if_neg c7] at H
                exact absurd H (by simp)
        · rw [if_neg c3] at H
          exact absurd H (by simp)
      · rw [if_neg c2] at H
        have c2b0 : decide (x5_1 < (l0.length : Int)) = false := decide_eq_false c2
        clear c2
        obtain rfl := Option.some.inj H
        go_wp2
        go_ret
        exact ⟨by first | rfl | (simp [errW_none, errW_some] <;> rfl) | (simp [*, errW_none, errW_some] <;> rfl), by repeat (first | (with_reducible first | exact HB.out | apply below_alloc | apply pw_below_drewN | apply below_drew1) | exact HB.out)⟩

end Go.Proofs.YtmpbkemicfmbaaaDoor.PX
-- Written by a program of this session (wip/xprint.py, over the kit's print tool). Lean checks it.
namespace Go.Proofs.YtmpbkemicfmbaaaDoor.PX
open Go.RowKit Go.Proofs.YtmpbkemicfmbaaaDoorW.PrintWords Go.Proofs.YtmpbkemicfmbaaaDoorW.PrintLast Go.Proofs.YtmpbkemicfmbaaaDoorW.PrintMore
attribute [local go_sem] max2_int min2_int max_two min_two max_three min_three max_four min_four   -- for this text's walks alone
set_option linter.unusedVariables false
set_option linter.unusedSimpArgs false

/-! ### tricklelaw15_LexerJoin: function 4 -/
def tricklelaw15_LexerJoin.l0 : Nat → List (S32) → List (S32) → Int → Int → Option (Bool)
  | 0, _, _, _, _ => none
  | k + 1, x0, x10, x11, x12 => if x12 < x11 then (if 0 ≤ x12 then (if x12 < (x10.length : Int) then (if (((rd_T32 x10 x12).f1).size : Int) > 60 then (some true) else (tricklelaw15_LexerJoin.l0 k x0 x10 x11 (wrap64 (x12 + 1)))) else (none)) else (none)) else ((tricklelaw15_own.f k x0).bind fun t238 => ((lexer_Join.f k t238).bind fun t241 => ((trickleref15_Join.f k x0).bind fun t242 => (some (t241.toList == t242.toList)))))
def tricklelaw15_LexerJoin.f (k : Nat) (l0 : List (S32)) : Option (Bool) := (tricklelaw15_wakes.f k).bind fun t235 => (if t235 = true then (if (l0.length : Int) > 60 then (some true) else (tricklelaw15_LexerJoin.l0 k l0 l0 (l0.length : Int) 0)) else (some false))
set_option maxHeartbeats 8000000 in
set_option maxRecDepth 100000 in
theorem tricklelaw15_LexerJoin.calls (k : Nat) (A0 : Option Addr) (c0 : Nat) (l0 : List (S32)) (r : Bool) (w : World) (hr0 : Kd.C k32 w A0 l0.length l0) (hc0 : l0.length ≤ c0) (hG : GW w) (h : tricklelaw15_LexerJoin.f k l0 = some r) :
    Calls Tryd.prog 4 #[.slice A0 l0.length c0] w fun e w' => e = .returned (.bool r) ∧ Below w.heap.size w w' := by
  have hu32 := Tryd.underlying32
  have HG := Aside0.mk hG
  clear hG
  have HR0 := Aside0.mk hr0
  have HC0 := Aside0.mk hc0
  clear hr0 hc0
  have HB := Aside0.mk (Below.refl w.heap.size w)
  have H : ((tricklelaw15_wakes.f k).bind fun t235 => (if t235 = true then (if (l0.length : Int) > 60 then (some true) else (tricklelaw15_LexerJoin.l0 k l0 l0 (l0.length : Int) 0)) else (some false))) = some r := h
  clear h
  replace H := Option.bind_eq_some_iff.mp H
  obtain ⟨t235, A20, H⟩ := H
  replace H : (if t235 = true then (if (l0.length : Int) > 60 then (some true) else (tricklelaw15_LexerJoin.l0 k l0 l0 (l0.length : Int) 0)) else (some false)) = some r := H
  have A2 := Aside0.mk A20
  clear A20
  by_cases c3 : t235 = true
  · subst c3
    have H1 : (if (l0.length : Int) > 60 then (some true) else (tricklelaw15_LexerJoin.l0 k l0 l0 (l0.length : Int) 0)) = some r := by rw [if_pos rfl] at H; exact H
    clear H
    have H := H1
    clear H1
    by_cases c4 : (l0.length : Int) > 60
    · rw [if_pos c4] at H
      have c4b0 : decide (60 < (l0.length : Int)) = true := decide_eq_true c4
      have c4b1 : decide (60 < l0.length) = true := decide_eq_true (by omega)
      clear c4
      obtain rfl := Option.some.inj H
      go_enter Tryd.func4, Tryd.ntmps4
      go_wp2_with (first | ((with_reducible refine gate_callee (f := 10) rfl ?_); refine goesL_ (some 5) rfl rfl Tryd.func10 (by kernel_rfl) rfl #[] rfl (by (try simp only [List.map_toArray, List.map_cons, List.map_nil]); first | done | rfl | (simp only [List.length_drop, List.length_take]; rfl)) ?_; (with_reducible refine (tricklelaw15_wakes.calls k  true _ ?side1 A2.out).mono ?_); (case side1 => refine GW.below HG.out ?_; repeat (first | (with_reducible first | exact HB.out | apply below_alloc | apply pw_below_drewN | apply below_drew1) | exact HB.out)); rintro e w5 ⟨rfl, hb⟩; refine ⟨_, rfl, ?_⟩; have n0_ := Aside0.mk (below_step (by repeat (first | (with_reducible first | exact HB.out | apply below_alloc | apply pw_below_drewN | apply below_drew1) | exact HB.out)) hb); clear HB; have HB := n0_; clear n0_; (try clear hb); (try clear hb2); (try clear hk); (try clear hi)))
      go_ret
      exact ⟨by first | rfl | (simp [errW_none, errW_some] <;> rfl) | (simp [*, errW_none, errW_some] <;> rfl), by repeat (first | (with_reducible first | exact HB.out | apply below_alloc | apply pw_below_drewN | apply below_drew1) | exact HB.out)⟩
    · rw [if_neg c4] at H
      have c4b0 : decide (60 < (l0.length : Int)) = false := decide_eq_false c4
      have c4b1 : decide (60 < l0.length) = false := decide_eq_false (by omega)
      clear c4
      have H' := Aside0.mk H
      clear H
      go_enter Tryd.func4, Tryd.ntmps4
      go_wp2_with (first | ((with_reducible refine gate_callee (f := 10) rfl ?_); refine goesL_ (some 5) rfl rfl Tryd.func10 (by kernel_rfl) rfl #[] rfl (by (try simp only [List.map_toArray, List.map_cons, List.map_nil]); first | done | rfl | (simp only [List.length_drop, List.length_take]; rfl)) ?_; (with_reducible refine (tricklelaw15_wakes.calls k  true _ ?side1 A2.out).mono ?_); (case side1 => refine GW.below HG.out ?_; repeat (first | (with_reducible first | exact HB.out | apply below_alloc | apply pw_below_drewN | apply below_drew1) | exact HB.out)); rintro e w6 ⟨rfl, hb⟩; refine ⟨_, rfl, ?_⟩; have n0_ := Aside0.mk (below_step (by repeat (first | (with_reducible first | exact HB.out | apply below_alloc | apply pw_below_drewN | apply below_drew1) | exact HB.out)) hb); clear HB; have HB := n0_; clear n0_; (try clear hb); (try clear hb2); (try clear hk); (try clear hi)))
      go_loopg [12] k (fun kq v12 w' => ∃ (x12_1 : Int), v12 = .int .i64 x12_1 ∧ Aside0 (tricklelaw15_LexerJoin.l0 kq l0 l0 (l0.length : Int) x12_1 = some r) ∧ Aside0 (kq ≤ k) ∧ Aside0 (Below w.heap.size w w'))
      case atStart => exact ⟨(0), (by first | rfl | (simp; done) | (simp [*]; done)), H', ⟨Nat.le_refl _⟩, ⟨by repeat (first | (with_reducible first | exact HB.out | apply below_alloc | apply pw_below_drewN | apply below_drew1) | exact HB.out)⟩⟩
      case round =>
        clear H'
        try clear c1
        try clear p2
        try clear c3
        try clear c4
        try clear c4b0
        try clear c4b1
        obtain ⟨x12_1, rfl, HA, HK1, HB⟩ := hrel
        cases gk with
        | zero => exact absurd HA.out (by simp [tricklelaw15_LexerJoin.l0])
        | succ k1 =>
          have H := HA.out
          clear HA
          simp only [tricklelaw15_LexerJoin.l0] at H
          by_cases c7 : x12_1 < (l0.length : Int)
          · rw [if_pos c7] at H
            have c7b0 : decide (x12_1 < (l0.length : Int)) = true := decide_eq_true c7
            clear c7
            by_cases c8 : 0 ≤ x12_1
            · rw [if_pos c8] at H
              have c8b0 : decide (0 ≤ x12_1) = true := decide_eq_true c8
              clear c8
              by_cases c9 : x12_1 < (l0.length : Int)
              · rw [if_pos c9] at H
                have c9b0 : decide (x12_1 < (l0.length : Int)) = true := decide_eq_true c9
                clear c9
                by_cases c10 : (((rd_T32 l0 x12_1).f1).size : Int) > 60
                · rw [if_pos c10] at H
                  have c10b0 : decide (60 < (((rd_T32 l0 x12_1).f1).size : Int)) = true := decide_eq_true c10
                  have c10b1 : decide (60 < ((rd_T32 l0 x12_1).f1).size) = true := decide_eq_true (by omega)
                  clear c10
                  obtain rfl := Option.some.inj H
                  have p236 : 0 ≤ (x12_1 : Int) := of_decide_eq_true (by first | (with_reducible assumption) | assumption)
                  have q236 : x12_1 < (l0.length : Int) := of_decide_eq_true (by first | (with_reducible assumption) | assumption)
                  obtain ⟨ad236, e236, hx236_0, hx236_1, hx236_2, hx236_3⟩ := at_T32 HR0.out x12_1 p236 q236
                  cases e236
                  replace hx236_0 := (HB.out.cell (World.block_lt_of_cell? w _ hx236_0)).trans hx236_0
                  replace hx236_1 := (HB.out.cell (World.block_lt_of_cell? w _ hx236_1)).trans hx236_1
                  replace hx236_2 := (HB.out.cell (World.block_lt_of_cell? w _ hx236_2)).trans hx236_2
                  replace hx236_3 := (HB.out.cell (World.block_lt_of_cell? w _ hx236_3)).trans hx236_3
                  replace p236 := eq_true p236
                  replace q236 := eq_true q236
                  go_wp2_with (first | ((with_reducible refine gate_dst (N := 4) rfl ?_); refine box_event ?hg (N := 4) ?hd (cs := #[.int .i64 0, .string (⟨#[]⟩ : ByteArray), .int .i16 0, .int .i64 0]) (t := 32) ?hr ?_; (case hd => rfl); (case hg => rfl); (case hr => first | (go_simp; done) | (go_simp; rfl)); intro gb237 hg w11 hbox hb; have n0_ := Aside0.mk (below_step (by repeat (first | (with_reducible first | exact HB.out | apply below_alloc | apply pw_below_drewN | apply below_drew1) | exact HB.out)) hb); have n1_ := Aside0.mk (hbox); have n2_ := Aside0.mk ((by rw [hg]; exact (below_size (by repeat (first | (with_reducible first | exact HB.out | apply below_alloc | apply pw_below_drewN | apply below_drew1) | exact HB.out))) : w.heap.size ≤ gb237)); have n3_ := Aside0.mk ((by rw [hg]; exact (below_size (by repeat (first | (with_reducible first | exact HB.out | apply below_alloc | apply pw_below_drewN | apply below_drew1) | exact HB.out))) : w.heap.size ≤ gb237)); clear HB; have HB := n0_; have BK237 := n1_; have GW237 := n2_; have GE237 := n3_; clear n0_ n1_ n2_ n3_; clear hb hbox hg; have hcz12_0 : w11.cell? ⟨gb237, 0, none⟩ = some (.int .i64 0) := (blk_cell BK237.out 0).trans rfl; have hcz12_1 : w11.cell? ⟨gb237, 1, none⟩ = some (.string (⟨#[]⟩ : ByteArray)) := (blk_cell BK237.out 1).trans rfl; have hcz12_2 : w11.cell? ⟨gb237, 2, none⟩ = some (.int .i16 0) := (blk_cell BK237.out 2).trans rfl; have hcz12_3 : w11.cell? ⟨gb237, 3, none⟩ = some (.int .i64 0) := (blk_cell BK237.out 3).trans rfl; have hfz12_0 := blk_frozen BK237.out 0; have hfz12_1 := blk_frozen BK237.out 1; have hfz12_2 := blk_frozen BK237.out 2; have hfz12_3 := blk_frozen BK237.out 3))
                  go_ret
                  exact ⟨by first | rfl | (simp [errW_none, errW_some] <;> rfl) | (simp [*, errW_none, errW_some] <;> rfl), by repeat (first | (with_reducible first | exact HB.out | apply below_alloc | apply pw_below_drewN | apply below_drew1 | refine below_set ?_ GE237.out) | exact HB.out)⟩
                · rw [if_neg c10] at H
                  have c10b0 : decide (60 < (((rd_T32 l0 x12_1).f1).size : Int)) = false := decide_eq_false c10
                  have c10b1 : decide (60 < ((rd_T32 l0 x12_1).f1).size) = false := decide_eq_false (by omega)
                  clear c10
                  have H' := Aside0.mk H
                  clear H
                  have p236 : 0 ≤ (x12_1 : Int) := of_decide_eq_true (by first | (with_reducible assumption) | assumption)
                  have q236 : x12_1 < (l0.length : Int) := of_decide_eq_true (by first | (with_reducible assumption) | assumption)
                  obtain ⟨ad236, e236, hx236_0, hx236_1, hx236_2, hx236_3⟩ := at_T32 HR0.out x12_1 p236 q236
                  cases e236
                  replace hx236_0 := (HB.out.cell (World.block_lt_of_cell? w _ hx236_0)).trans hx236_0
                  replace hx236_1 := (HB.out.cell (World.block_lt_of_cell? w _ hx236_1)).trans hx236_1
                  replace hx236_2 := (HB.out.cell (World.block_lt_of_cell? w _ hx236_2)).trans hx236_2
                  replace hx236_3 := (HB.out.cell (World.block_lt_of_cell? w _ hx236_3)).trans hx236_3
                  replace p236 := eq_true p236
                  replace q236 := eq_true q236
                  go_wp2_with (first | ((with_reducible refine gate_dst (N := 4) rfl ?_); refine box_event ?hg (N := 4) ?hd (cs := #[.int .i64 0, .string (⟨#[]⟩ : ByteArray), .int .i16 0, .int .i64 0]) (t := 32) ?hr ?_; (case hd => rfl); (case hg => rfl); (case hr => first | (go_simp; done) | (go_simp; rfl)); intro gb237 hg w13 hbox hb; have n0_ := Aside0.mk (below_step (by repeat (first | (with_reducible first | exact HB.out | apply below_alloc | apply pw_below_drewN | apply below_drew1) | exact HB.out)) hb); have n1_ := Aside0.mk (hbox); have n2_ := Aside0.mk ((by rw [hg]; exact (below_size (by repeat (first | (with_reducible first | exact HB.out | apply below_alloc | apply pw_below_drewN | apply below_drew1) | exact HB.out))) : w.heap.size ≤ gb237)); have n3_ := Aside0.mk ((by rw [hg]; exact (below_size (by repeat (first | (with_reducible first | exact HB.out | apply below_alloc | apply pw_below_drewN | apply below_drew1) | exact HB.out))) : w.heap.size ≤ gb237)); clear HB; have HB := n0_; have BK237 := n1_; have GW237 := n2_; have GE237 := n3_; clear n0_ n1_ n2_ n3_; clear hb hbox hg; have hcz14_0 : w13.cell? ⟨gb237, 0, none⟩ = some (.int .i64 0) := (blk_cell BK237.out 0).trans rfl; have hcz14_1 : w13.cell? ⟨gb237, 1, none⟩ = some (.string (⟨#[]⟩ : ByteArray)) := (blk_cell BK237.out 1).trans rfl; have hcz14_2 : w13.cell? ⟨gb237, 2, none⟩ = some (.int .i16 0) := (blk_cell BK237.out 2).trans rfl; have hcz14_3 : w13.cell? ⟨gb237, 3, none⟩ = some (.int .i64 0) := (blk_cell BK237.out 3).trans rfl; have hfz14_0 := blk_frozen BK237.out 0; have hfz14_1 := blk_frozen BK237.out 1; have hfz14_2 := blk_frozen BK237.out 2; have hfz14_3 := blk_frozen BK237.out 3))
                  go_roundg k1
                  case measure => have := HK1.out; omega
                  case rel => exact ⟨(wrap64 (x12_1 + 1)), (by first | rfl | (simp; done) | (simp [*]; done)), H', ⟨by have := HK1.out; omega⟩, ⟨by repeat (first | (with_reducible first | exact HB.out | apply below_alloc | apply pw_below_drewN | apply below_drew1 | refine below_set ?_ GE237.out) | exact HB.out)⟩⟩
              · rw [if_neg c9] at H
                exact absurd H (by simp)
            · rw [if_neg c8] at H
              exact absurd H (by simp)
          · rw [if_neg c7] at H
            have c7b0 : decide (x12_1 < (l0.length : Int)) = false := decide_eq_false c7
            clear c7
            replace H := Option.bind_eq_some_iff.mp H
            obtain ⟨t238, A150, H⟩ := H
            replace H : ((lexer_Join.f k1 t238).bind fun t241 => ((trickleref15_Join.f k1 l0).bind fun t242 => (some (t241.toList == t242.toList)))) = some r := H
            have A15 := Aside0.mk A150
            clear A150
            replace H := Option.bind_eq_some_iff.mp H
            obtain ⟨t241, A160, H⟩ := H
            replace H : ((trickleref15_Join.f k1 l0).bind fun t242 => (some (t241.toList == t242.toList))) = some r := H
            have A16 := Aside0.mk A160
            clear A160
            replace H := Option.bind_eq_some_iff.mp H
            obtain ⟨t242, A170, H⟩ := H
            replace H : (some (t241.toList == t242.toList)) = some r := H
            have A17 := Aside0.mk A170
            clear A170
            obtain rfl := Option.some.inj H
            go_wp2_with (first | ((with_reducible refine gate_callee (f := 16) rfl ?_); refine goesL_ (some 22) rfl rfl Tryd.func16 (by kernel_rfl) rfl #[.slice A0 l0.length c0] rfl (by (try simp only [List.map_toArray, List.map_cons, List.map_nil]); first | done | rfl | (simp only [List.length_drop, List.length_take]; rfl)) ?_; (with_reducible refine (tricklelaw15_own.calls k1 _ _ l0 t238 _ ?side1 ?side2 A15.out).mono ?_); (case side1 => repeat (first | exact (Kd.C_below HR0.out HB.out) | (with_reducible refine Kd.C_alloc ?_ _) | (with_reducible refine Kd.C_drewN ?_ _) | (with_reducible refine Kd.C_drew ?_))); (case side2 => exact HC0.out); rintro e w18 ⟨v239, rfl, ho0, hb⟩; refine ⟨_, rfl, ?_⟩; have n0_ := Aside0.mk (Kd.R_lower ho0 (below_size (by repeat (first | (with_reducible first | exact HB.out | apply below_alloc | apply pw_below_drewN | apply below_drew1) | exact HB.out)))); have n1_ := Aside0.mk (below_step (by repeat (first | (with_reducible first | exact HB.out | apply below_alloc | apply pw_below_drewN | apply below_drew1) | exact HB.out)) hb); clear HB; have HO240 := n0_; have HB := n1_; clear n0_ n1_; (try clear hb); (try clear hb2); (try clear hk); (try clear hi); (try clear ho0); obtain ⟨Ao19, co19, eo19⟩ := Kd.R_slice HO240.out; subst eo19) | ((with_reducible refine gate_callee (f := 15) rfl ?_); refine goesL_ (some 23) rfl rfl Tryd.func15 (by kernel_rfl) rfl #[.slice Ao19 t238.length co19] rfl (by (try simp only [List.map_toArray, List.map_cons, List.map_nil]); first | done | rfl | (simp only [List.length_drop, List.length_take]; rfl)) ?_; (with_reducible refine (lexer_Join.calls k1 _ _ t238 t241 _ ?side1 ?side2 ?side3 A16.out).mono ?_); (case side1 => repeat (first | exact (Kd.R_reads' HO240.out).2.2 | (with_reducible refine Kd.C_alloc ?_ _) | (with_reducible refine Kd.C_drewN ?_ _) | (with_reducible refine Kd.C_drew ?_))); (case side2 => exact (Kd.R_reads' HO240.out).2.1); (case side3 => refine GW.below HG.out ?_; repeat (first | (with_reducible first | exact HB.out | apply below_alloc | apply pw_below_drewN | apply below_drew1) | exact HB.out)); rintro e w20 ⟨rfl, hb⟩; refine ⟨_, rfl, ?_⟩; have n0_ := Aside0.mk (Kd.R_below (by (with_reducible repeat (first | apply Kd.R_alloc | apply Kd.R_drewN | apply Kd.R_drew)); exact HO240.out) hb); have n1_ := Aside0.mk (below_step (by repeat (first | (with_reducible first | exact HB.out | apply below_alloc | apply pw_below_drewN | apply below_drew1) | exact HB.out)) hb); clear HO240; clear HB; have HO240 := n0_; have HB := n1_; clear n0_ n1_; (try clear hb); (try clear hb2); (try clear hk); (try clear hi)) | ((with_reducible refine gate_callee (f := 17) rfl ?_); refine goesL_ (some 25) rfl rfl Tryd.func17 (by kernel_rfl) rfl #[.slice A0 l0.length c0] rfl (by (try simp only [List.map_toArray, List.map_cons, List.map_nil]); first | done | rfl | (simp only [List.length_drop, List.length_take]; rfl)) ?_; (with_reducible refine (trickleref15_Join.calls k1 _ _ l0 t242 _ ?side1 ?side2 A17.out).mono ?_); (case side1 => repeat (first | exact (Kd.C_below HR0.out HB.out) | (with_reducible refine Kd.C_alloc ?_ _) | (with_reducible refine Kd.C_drewN ?_ _) | (with_reducible refine Kd.C_drew ?_))); (case side2 => exact HC0.out); rintro e w21 ⟨rfl, hb⟩; refine ⟨_, rfl, ?_⟩; have n0_ := Aside0.mk (Kd.R_below (by (with_reducible repeat (first | apply Kd.R_alloc | apply Kd.R_drewN | apply Kd.R_drew)); exact HO240.out) hb); have n1_ := Aside0.mk (below_step (by repeat (first | (with_reducible first | exact HB.out | apply below_alloc | apply pw_below_drewN | apply below_drew1) | exact HB.out)) hb); clear HO240; clear HB; have HO240 := n0_; have HB := n1_; clear n0_ n1_; (try clear hb); (try clear hb2); (try clear hk); (try clear hi)))
            go_ret
            exact ⟨by first | rfl | (simp [errW_none, errW_some] <;> rfl) | (simp [*, errW_none, errW_some] <;> rfl), by repeat (first | (with_reducible first | exact HB.out | apply below_alloc | apply pw_below_drewN | apply below_drew1) | exact HB.out)⟩
  · replace c3 := Bool.eq_false_iff.mpr c3
    subst c3
    have H1 : (some false) = some r := by rw [if_neg (show ¬ (false = true) by decide)] at H; exact H
    clear H
    have H := H1
    clear H1
    obtain rfl := Option.some.inj H
    go_enter Tryd.func4, Tryd.ntmps4
    go_wp2_with (first | ((with_reducible refine gate_callee (f := 10) rfl ?_); refine goesL_ (some 5) rfl rfl Tryd.func10 (by kernel_rfl) rfl #[] rfl (by (try simp only [List.map_toArray, List.map_cons, List.map_nil]); first | done | rfl | (simp only [List.length_drop, List.length_take]; rfl)) ?_; (with_reducible refine (tricklelaw15_wakes.calls k  false _ ?side1 A2.out).mono ?_); (case side1 => refine GW.below HG.out ?_; repeat (first | (with_reducible first | exact HB.out | apply below_alloc | apply pw_below_drewN | apply below_drew1) | exact HB.out)); rintro e w22 ⟨rfl, hb⟩; refine ⟨_, rfl, ?_⟩; have n0_ := Aside0.mk (below_step (by repeat (first | (with_reducible first | exact HB.out | apply below_alloc | apply pw_below_drewN | apply below_drew1) | exact HB.out)) hb); clear HB; have HB := n0_; clear n0_; (try clear hb); (try clear hb2); (try clear hk); (try clear hi)))
    go_ret
    exact ⟨by first | rfl | (simp [errW_none, errW_some] <;> rfl) | (simp [*, errW_none, errW_some] <;> rfl), by repeat (first | (with_reducible first | exact HB.out | apply below_alloc | apply pw_below_drewN | apply below_drew1) | exact HB.out)⟩

end Go.Proofs.YtmpbkemicfmbaaaDoor.PX
/- LexerJoin in plain words: both put a space between two texts exactly if their Scan says so. -/
namespace Go.Proofs.YtmpbkemicfmbaaaDoor.PX
open Go.RowKit Go.Proofs.YtmpbkemicfmbaaaDoorW.PrintWords Go.Proofs.YtmpbkemicfmbaaaDoorW.PrintLast Go.Proofs.YtmpbkemicfmbaaaDoorW.PrintMore
set_option linter.unusedVariables false
set_option linter.unusedSimpArgs false
theorem bs_app (a b : ByteArray) : bs (a ++ b) = bs a ++ bs b := by show (a ++ b).data.toList = _; rw [ByteArray.data_append, Array.toList_append]
/-- Whether two texts want a space between them. -/
def sepB (a b : ByteArray) : Bool := if (scan (a ++ b)).length = 3 then (if (rd_T37 (scan (a ++ b)) 0).f1.toList = a.toList then ((rd_T37 (scan (a ++ b)) 1).f1.toList != b.toList) else true) else true
theorem apart_ev (a b : ByteArray) (ha : (bs a).length ≤ 1000) (hb : (bs b).length ≤ 1000) : Ev (fun k => lexer_apart.f k a b) (sepB a b) := by
  have h1 := bs_len a
  have h2 := bs_len b
  refine Ev.congr (fun k => by rw [lexer_apart.f]) (Ev.pos (by omega) (Ev.bind (scan_ev (a ++ b) (by rw [bs_app, List.length_append]; omega)) ?_))
  by_cases h3 : (scan (a ++ b)).length = 3
  · refine Ev.pos (by omega) (Ev.pos (by omega) ?_)
    by_cases h4 : (rd_T37 (scan (a ++ b)) 0).f1.toList = a.toList
    · have hsp : sepB a b = ((rd_T37 (scan (a ++ b)) 1).f1.toList != b.toList) := (if_pos h3).trans (if_pos h4)
      rw [hsp]
      exact Ev.pos h4 (Ev.pos (by omega) (Ev.now _))
    · have hsp : sepB a b = true := (if_pos h3).trans (if_neg h4)
      rw [hsp]
      exact Ev.neg h4 (Ev.now _)
  · have hsp : sepB a b = true := if_neg h3
    rw [hsp]
    exact Ev.neg (by omega) (Ev.now _)
def joinP : ByteArray → List UInt8 → List S32 → List UInt8
  | _, out, [] => out
  | last, out, t :: r => if t.f1.toList = ([] : List UInt8) then joinP last out r else if last.toList = ([] : List UInt8) then joinP t.f1 (out ++ bs t.f1) r else joinP t.f1 ((if sepB last t.f1 = true then out ++ [32] else out) ++ bs t.f1) r
theorem join_impl (l : List S32) (hs : ∀ x ∈ l, x.f1.size ≤ 60) : ∀ (last : ByteArray) (out : List UInt8), last.size ≤ 60 → out.length + 61 * l.length ≤ 100000 → Ev (fun k => joinL k last out (l.map to37)) (joinP last out l) := by
  induction l with
  | nil => intro last out _ _; exact Ev.congr (f := fun _ => some out) (fun k => by rw [List.map_nil, joinL]) (Ev.now out)
  | cons t r ih =>
    intro last out hl ho
    have ht := hs t (.head _)
    have hr : ∀ x ∈ r, x.f1.size ≤ 60 := fun x hx => hs x (.tail _ hx)
    have hbl := bs_len t.f1
    have hbl2 := bs_len last
    have hdl : t.f1.data.toList.length = t.f1.size := hbl
    rw [List.length_cons] at ho
    rw [joinP]
    refine Ev.congr (fun k => by rw [List.map_cons, joinL]) ?_
    show Ev (fun k => if t.f1.toList = ([] : List UInt8) then joinL k last out (r.map to37) else if out.length + t.f1.size + 1 ≤ 140737488355328 then (if last.toList = ([] : List UInt8) then joinL k t.f1 (out ++ t.f1.data.toList) (r.map to37) else (lexer_apart.f k last t.f1).bind fun ap => joinL k t.f1 ((if ap = true then out ++ [32] else out) ++ t.f1.data.toList) (r.map to37)) else none) _
    by_cases h1 : t.f1.toList = ([] : List UInt8)
    · rw [if_pos h1]
      exact Ev.pos h1 (ih hr last out hl (by omega))
    · rw [if_neg h1]
      refine Ev.neg h1 (Ev.pos (by omega) ?_)
      by_cases h2 : last.toList = ([] : List UInt8)
      · rw [if_pos h2]
        exact Ev.pos h2 (ih hr t.f1 _ ht (by rw [List.length_append]; omega))
      · rw [if_neg h2]
        refine Ev.neg h2 (Ev.bind (apart_ev last t.f1 (by omega) (by omega)) (ih hr t.f1 _ ht ?_))
        rw [List.length_append]
        split
        · rw [List.length_append]; simp only [List.length_cons, List.length_nil]; omega
        · omega
theorem join_ref (l : List S32) (hs : ∀ x ∈ l, x.f1.size ≤ 60) (hn : l.length ≤ 1000) : ∀ (d j : Nat) (out last : ByteArray), j + d = l.length → last.size ≤ 60 → (bs out).length + 61 * d ≤ 100000 → ∃ R, Ev (fun k => trickleref15_Join.l0 k l out last (j : Int)) R ∧ bs R = joinP last (bs out) (l.drop j)
  | 0, j, out, last, hj, hl, ho => ⟨out, Ev.step (fun k => by rw [trickleref15_Join.l0]) (Ev.neg (by omega) (Ev.now _)), by rw [List.drop_of_length_le (by omega)]; rfl⟩
  | d + 1, j, out, last, hj, hl, ho => by
    have hjl : j < l.length := by omega
    have ht := hs l[j] (List.getElem_mem hjl)
    have hrd := rd_T32_nat l j hjl
    have hb1 := bs_len l[j].f1
    have hb2 := bs_len out
    have hb3 := bs_len last
    have hwr := wrap_nat (n := l.length) hjl (by omega)
    rw [drop_cons l j hjl, joinP]
    by_cases h1 : l[j].f1.toList = ([] : List UInt8)
    · obtain ⟨R, hR, hB⟩ := join_ref l hs hn d (j + 1) out last (by omega) hl (by omega)
      refine ⟨R, Ev.step (fun k => by rw [trickleref15_Join.l0]) (Ev.pos (by omega) (Ev.pos (by omega) ?_)), ?_⟩
      · rw [hrd, hwr]
        exact Ev.pos h1 hR
      · rw [if_pos h1]; exact hB
    rw [if_neg h1]
    by_cases h2 : last.toList = ([] : List UInt8)
    · obtain ⟨R, hR, hB⟩ := join_ref l hs hn d (j + 1) (out ++ l[j].f1) l[j].f1 (by omega) ht (by rw [bs_app, List.length_append]; omega)
      refine ⟨R, Ev.step (fun k => by rw [trickleref15_Join.l0]) (Ev.pos (by omega) (Ev.pos (by omega) ?_)), ?_⟩
      · rw [hrd, hwr]
        exact Ev.neg h1 (Ev.pos h2 (Ev.pos (by omega) hR))
      · rw [if_pos h2, ← bs_app]; exact hB
    rw [if_neg h2]
    -- the reference's own look at the two texts
    have look : ∀ (R : ByteArray), Ev (fun k => trickleref15_Join.j1 k l out (j : Int) l[j].f1 (sepB last l[j].f1)) R → Ev (fun k => trickleref15_Join.l0 k l out last (j : Int)) R := by
      intro R hR
      refine Ev.step (fun k => by rw [trickleref15_Join.l0]) (Ev.pos (by omega) (Ev.pos (by omega) ?_))
      rw [hrd]
      refine Ev.neg h1 (Ev.neg h2 (Ev.pos (by omega) (Ev.bind (rscan_ev (last ++ l[j].f1) (by rw [bs_app, List.length_append]; omega)) ?_)))
      rw [List.length_map]
      unfold sepB at hR
      by_cases h3 : (scan (last ++ l[j].f1)).length = 3
      · rw [if_pos h3] at hR
        have r0 := rd_T32_nat ((scan (last ++ l[j].f1)).map to32) 0 (by rw [List.length_map]; omega)
        have r1 := rd_T32_nat ((scan (last ++ l[j].f1)).map to32) 1 (by rw [List.length_map]; omega)
        have q0 := rd_T37_nat (scan (last ++ l[j].f1)) 0 (by omega)
        have q1 := rd_T37_nat (scan (last ++ l[j].f1)) 1 (by omega)
        rw [List.getElem_map, ← q0] at r0
        rw [List.getElem_map, ← q1] at r1
        rw [show ((0 : Nat) : Int) = 0 from rfl] at r0
        rw [show ((1 : Nat) : Int) = 1 from rfl] at r1
        refine Ev.pos (by omega) (Ev.pos (by omega) ?_)
        rw [r0, r1]
        by_cases h4 : (rd_T37 (scan (last ++ l[j].f1)) 0).f1.toList = last.toList
        · rw [if_pos h4] at hR
          exact Ev.pos h4 (Ev.pos (by omega) hR)
        · rw [if_neg h4] at hR
          exact Ev.neg h4 hR
      · rw [if_neg h3] at hR
        exact Ev.neg (by omega) hR
    cases hsp : sepB last l[j].f1 with
    | true =>
      obtain ⟨R, hR, hB⟩ := join_ref l hs hn d (j + 1) ((out ++ (⟨#[32]⟩ : ByteArray)) ++ l[j].f1) l[j].f1 (by omega) ht (by rw [bs_app, bs_app, List.length_append, List.length_append]; show (bs out).length + 1 + _ + _ ≤ _; omega)
      refine ⟨R, look R ?_, ?_⟩
      · rw [hsp]
        have hsz : (out ++ (⟨#[32]⟩ : ByteArray)).size = out.size + 1 := by rw [← bs_len, bs_app, List.length_append, hb2]; rfl
        refine Ev.step (fun k => by rw [trickleref15_Join.j1]) (Ev.pos rfl (Ev.pos (by omega) (Ev.pos (by omega) ?_)))
        rw [hwr]
        exact hR
      · rw [if_pos rfl, hB, bs_app, bs_app]
    | false =>
      obtain ⟨R, hR, hB⟩ := join_ref l hs hn d (j + 1) (out ++ l[j].f1) l[j].f1 (by omega) ht (by rw [bs_app, List.length_append]; omega)
      refine ⟨R, look R ?_, ?_⟩
      · rw [hsp]
        refine Ev.step (fun k => by rw [trickleref15_Join.j1]) (Ev.neg (by decide) (Ev.pos (by omega) ?_))
        rw [hwr]
        exact hR
      · rw [if_neg (by decide), hB, bs_app]
theorem law_loop (l : List S32) (hn : l.length ≤ 60) : ∀ (d j : Nat), j + d = l.length → (∀ i (h : i < l.length), i < j → l[i].f1.size ≤ 60) → Ev (fun k => tricklelaw15_LexerJoin.l0 k l l (l.length : Int) (j : Int)) true
  | 0, j, hj, hs => by
    have hs' : ∀ x ∈ l, x.f1.size ≤ 60 := fun x hx => by
      obtain ⟨i, hi, rfl⟩ := List.getElem_of_mem hx
      exact hs i hi (by omega)
    have hi := join_impl l hs' ⟨#[]⟩ [] (by decide) (by simp; omega)
    obtain ⟨R, hR, hB⟩ := join_ref l hs' (by omega) l.length 0 ⟨#[]⟩ ⟨#[]⟩ (by omega) (by decide) (by show 0 + _ ≤ _; omega)
    refine Ev.step (fun k => by rw [tricklelaw15_LexerJoin.l0]) (Ev.neg (by omega) ?_)
    refine Ev.bind (own_ev l (by omega)) (Ev.bind (a := ⟨(joinP ⟨#[]⟩ [] l).toArray⟩) (Ev.congr (fun k => by rw [lexer_Join.f]) (Ev.bind hi (Ev.now _))) (Ev.bind hR (Ev.cast (Ev.now _) ?_)))
    rw [beq_iff_eq, toList_bs, toList_bs, hB, List.drop_zero]
  | d + 1, j, hj, hs => by
    have hjl : j < l.length := by omega
    refine Ev.step (fun k => by rw [tricklelaw15_LexerJoin.l0]) (Ev.pos (by omega) (Ev.pos (by omega) (Ev.pos (by omega) ?_)))
    rw [rd_T32_nat l j hjl, wrap_nat (n := l.length) hjl (by omega)]
    by_cases h : (l[j].f1.size : Int) > 60
    · exact Ev.pos h (Ev.now _)
    · refine Ev.neg h (law_loop l hn d (j + 1) (by omega) (fun i hi hij => ?_))
      by_cases he : i = j
      · subst he; omega
      · exact hs i hi (by omega)
end Go.Proofs.YtmpbkemicfmbaaaDoor.PX
namespace Go.Proofs.YtmpbkemicfmbaaaDoor.Pure
open Go.RowKit Go.Proofs.YtmpbkemicfmbaaaDoor.PX Go.Proofs.YtmpbkemicfmbaaaDoorW.PrintWords Go.Proofs.YtmpbkemicfmbaaaDoorW.PrintLast
set_option linter.unusedVariables false
theorem LexerJoin (l0 : List S32) (hw : ∀ x ∈ l0, Wf32 x) : ∃ k, tricklelaw15_LexerJoin.f k l0 = some true := by
  refine Ev.rounds (Ev.congr (fun k => by rw [tricklelaw15_LexerJoin.f]) (Ev.bind wakes15 (Ev.pos rfl ?_)))
  by_cases h : (l0.length : Int) > 60
  · exact Ev.pos h (Ev.now _)
  · exact Ev.neg h (law_loop l0 (by omega) l0.length 0 (by omega) (fun i _ h => by omega))
end Go.Proofs.YtmpbkemicfmbaaaDoor.Pure
