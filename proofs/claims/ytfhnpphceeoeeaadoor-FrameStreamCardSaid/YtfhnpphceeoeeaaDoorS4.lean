/- Parts of the proof, merged in build order: St6. -/
import Derived.Test.YtfhnpphceeoeeaaDoorS1
import Derived.Test.YtfhnpphceeoeeaaDoorS2
import Derived.Test.YtfhnpphceeoeeaaDoorS3
-- Written by a program of this session (wip/xprint.py, over the kit's print tool). Lean checks it.
namespace Go.Proofs.YtfhnpphceeoeeaaDoor.PX
open Go.RowKit Go.Proofs.YtfhnpphceeoeeaaDoorW.PrintWords Go.Proofs.YtfhnpphceeoeeaaDoorW.PrintLast Go.Proofs.YtfhnpphceeoeeaaDoorW.PrintMore
attribute [local go_sem] max2_int min2_int max_two min_two max_three min_three max_four min_four   -- for this text's walks alone
set_option linter.unusedVariables false
set_option linter.unusedSimpArgs false

/-! ### trickleref03_SamePackets: function 37 -/
def trickleref03_SamePackets.l0 : Nat → List (List Int) → List (List Int) → Int → Option (Bool)
  | 0, _, _, _ => none
  | k + 1, x0, x1, x5 => if x5 < (x0.length : Int) then (if 0 ≤ x5 then (if x5 < (x1.length : Int) then ((trickleref03_Same.f (rd_L1 x0 x5) (rd_L1 x1 x5)).bind fun t236 => (if t236 = true then (trickleref03_SamePackets.l0 k x0 x1 (wrap64 (x5 + 1))) else (some false))) else (none)) else (none)) else (some true)
def trickleref03_SamePackets.f (k : Nat) (l0 : List (List Int)) (l1 : List (List Int)) : Option (Bool) := if (l0.length : Int) = (l1.length : Int) then (trickleref03_SamePackets.l0 k l0 l1 0) else (some false)
set_option maxHeartbeats 8000000 in
set_option maxRecDepth 100000 in
theorem trickleref03_SamePackets.calls (k : Nat) (A0 : Option Addr) (c0 : Nat) (l0 : List (List Int)) (A1 : Option Addr) (c1 : Nat) (l1 : List (List Int)) (r : Bool) (w : World) (hr0 : Kd.C (Kd.slice 5 (Kd.int .u8)) w A0 l0.length l0) (hc0 : l0.length ≤ c0) (hr1 : Kd.C (Kd.slice 5 (Kd.int .u8)) w A1 l1.length l1) (hc1 : l1.length ≤ c1) (h : trickleref03_SamePackets.f k l0 l1 = some r) :
    Calls Tryd.prog 37 #[.slice A0 l0.length c0, .slice A1 l1.length c1] w fun e w' => e = .returned (.bool r) ∧ Drawn0 w w' := by
  have HR0 := Aside0.mk hr0
  have HC0 := Aside0.mk hc0
  clear hr0 hc0
  have HR1 := Aside0.mk hr1
  have HC1 := Aside0.mk hc1
  clear hr1 hc1
  have H : (if (l0.length : Int) = (l1.length : Int) then (trickleref03_SamePackets.l0 k l0 l1 0) else (some false)) = some r := h
  clear h
  by_cases c3 : (l0.length : Int) = (l1.length : Int)
  · rw [if_pos c3] at H
    have c3b0 : ((l0.length : Int) == (l1.length : Int)) = true := beq_iff_eq.mpr c3
    have c3b1 : ((l0.length : Int) != (l1.length : Int)) = false := bne_eq_false_iff_eq.mpr c3
    have c3b2 : (l0.length == l1.length) = true := by first | simpa using c3 | (simp at c3 ⊢; omega)
    clear c3
    have H' := Aside0.mk H
    clear H
    go_enter Tryd.func37, Tryd.ntmps37
    go_wp2
    repeat (go_quiet (fail); try go_wp2)
    go_loopg [5] k (fun kq v5 w' => ∃ (x5_1 : Int), v5 = .int .i64 x5_1 ∧ Aside0 (trickleref03_SamePackets.l0 kq l0 l1 x5_1 = some r) ∧ Aside0 (kq ≤ k) ∧ Drawn0 w w')
    case atStart => exact ⟨(0), (by first | rfl | (simp; done) | (simp [*]; done)), H', ⟨Nat.le_refl _⟩, by repeat (first | exact Drawn0.refl _ | apply Drawn0.step)⟩
    case round =>
      clear H'
      try clear c1
      try clear p2
      try clear c3
      try clear c3b0
      try clear c3b1
      try clear c3b2
      obtain ⟨x5_1, rfl, HA, HK1, ⟨m1, rfl⟩⟩ := hrel
      cases gk with
      | zero => exact absurd HA.out (by simp [trickleref03_SamePackets.l0])
      | succ k1 =>
        have H := HA.out
        clear HA
        simp only [trickleref03_SamePackets.l0] at H
        by_cases c4 : x5_1 < (l0.length : Int)
        · rw [if_pos c4] at H
          have c4b0 : decide (x5_1 < (l0.length : Int)) = true := decide_eq_true c4
          clear c4
          by_cases c5 : 0 ≤ x5_1
          · rw [if_pos c5] at H
            have c5b0 : decide (0 ≤ x5_1) = true := decide_eq_true c5
            clear c5
            by_cases c6 : x5_1 < (l1.length : Int)
            · rw [if_pos c6] at H
              have c6b0 : decide (x5_1 < (l1.length : Int)) = true := decide_eq_true c6
              clear c6
              replace H := Option.bind_eq_some_iff.mp H
              obtain ⟨t236, A70, H⟩ := H
              replace H : (if t236 = true then (trickleref03_SamePackets.l0 k1 l0 l1 (wrap64 (x5_1 + 1))) else (some false)) = some r := H
              have A7 := Aside0.mk A70
              clear A70
              by_cases c8 : t236 = true
              · subst c8
                have H1 : (trickleref03_SamePackets.l0 k1 l0 l1 (wrap64 (x5_1 + 1))) = some r := by rw [if_pos rfl] at H; exact H
                clear H
                have H := H1
                clear H1
                have H' := Aside0.mk H
                clear H
                have p234 : 0 ≤ (x5_1 : Int) := of_decide_eq_true (by first | (with_reducible assumption) | assumption)
                have q234 : x5_1 < (l0.length : Int) := of_decide_eq_true (by first | (with_reducible assumption) | assumption)
                obtain ⟨ad234, A234_0, c234_0, e234, hx234_0, hl234_0, hi234_0⟩ := at_L1 HR0.out x5_1 p234 q234
                cases e234
                have HR234_0 := Aside0.mk hi234_0
                have HC234_0 := Aside0.mk hl234_0
                clear hi234_0 hl234_0
                replace p234 := eq_true p234
                replace q234 := eq_true q234
                have p235 : 0 ≤ (x5_1 : Int) := of_decide_eq_true (by first | (with_reducible assumption) | assumption)
                have q235 : x5_1 < (l1.length : Int) := of_decide_eq_true (by first | (with_reducible assumption) | assumption)
                obtain ⟨ad235, A235_0, c235_0, e235, hx235_0, hl235_0, hi235_0⟩ := at_L1 HR1.out x5_1 p235 q235
                cases e235
                have HR235_0 := Aside0.mk hi235_0
                have HC235_0 := Aside0.mk hl235_0
                clear hi235_0 hl235_0
                replace p235 := eq_true p235
                replace q235 := eq_true q235
                go_wp2_with (first | (go_at_call 58; (with_reducible refine (trickleref03_Same.calls _ _ (rd_L1 l0 x5_1) _ _ (rd_L1 l1 x5_1) true _ ?side1 ?side2 ?side3 ?side4 A7.out).mono ?_); (case side1 => repeat (first | exact HR234_0.out | (with_reducible refine Kd.C_alloc ?_ _) | (with_reducible refine Kd.C_drewN ?_ _) | (with_reducible refine Kd.C_drew ?_))); (case side2 => exact HC234_0.out); (case side3 => repeat (first | exact HR235_0.out | (with_reducible refine Kd.C_alloc ?_ _) | (with_reducible refine Kd.C_drewN ?_ _) | (with_reducible refine Kd.C_drew ?_))); (case side4 => exact HC235_0.out); rintro e w' ⟨rfl, ⟨nd, rfl⟩⟩; (try first | exact ⟨rfl, _, World.drewN_drewN _ _ _⟩ | exact ⟨rfl, _, Eq.trans (World.drewN_drewN _ _ _) (congrArg (World.drewN _) (Nat.add_assoc _ _ _))⟩)))
                repeat (go_quiet (first | (go_at_call 58; (with_reducible refine (trickleref03_Same.calls _ _ (rd_L1 l0 x5_1) _ _ (rd_L1 l1 x5_1) true _ ?side1 ?side2 ?side3 ?side4 A7.out).mono ?_); (case side1 => repeat (first | exact HR234_0.out | (with_reducible refine Kd.C_alloc ?_ _) | (with_reducible refine Kd.C_drewN ?_ _) | (with_reducible refine Kd.C_drew ?_))); (case side2 => exact HC234_0.out); (case side3 => repeat (first | exact HR235_0.out | (with_reducible refine Kd.C_alloc ?_ _) | (with_reducible refine Kd.C_drewN ?_ _) | (with_reducible refine Kd.C_drew ?_))); (case side4 => exact HC235_0.out); rintro e w' ⟨rfl, ⟨nd, rfl⟩⟩; (try first | exact ⟨rfl, _, World.drewN_drewN _ _ _⟩ | exact ⟨rfl, _, Eq.trans (World.drewN_drewN _ _ _) (congrArg (World.drewN _) (Nat.add_assoc _ _ _))⟩))); try go_wp2_with (first | (go_at_call 58; (with_reducible refine (trickleref03_Same.calls _ _ (rd_L1 l0 x5_1) _ _ (rd_L1 l1 x5_1) true _ ?side1 ?side2 ?side3 ?side4 A7.out).mono ?_); (case side1 => repeat (first | exact HR234_0.out | (with_reducible refine Kd.C_alloc ?_ _) | (with_reducible refine Kd.C_drewN ?_ _) | (with_reducible refine Kd.C_drew ?_))); (case side2 => exact HC234_0.out); (case side3 => repeat (first | exact HR235_0.out | (with_reducible refine Kd.C_alloc ?_ _) | (with_reducible refine Kd.C_drewN ?_ _) | (with_reducible refine Kd.C_drew ?_))); (case side4 => exact HC235_0.out); rintro e w' ⟨rfl, ⟨nd, rfl⟩⟩; (try first | exact ⟨rfl, _, World.drewN_drewN _ _ _⟩ | exact ⟨rfl, _, Eq.trans (World.drewN_drewN _ _ _) (congrArg (World.drewN _) (Nat.add_assoc _ _ _))⟩))))
                go_roundg k1
                case measure => have := HK1.out; omega
                case rel => exact ⟨(wrap64 (x5_1 + 1)), (by first | rfl | (simp; done) | (simp [*]; done)), H', ⟨by have := HK1.out; omega⟩, by repeat (first | exact Drawn0.refl _ | apply Drawn0.step)⟩
              · replace c8 := Bool.eq_false_iff.mpr c8
                subst c8
                have H1 : (some false) = some r := by rw [if_neg (show ¬ (false = true) by decide)] at H; exact H
                clear H
                have H := H1
                clear H1
                obtain rfl := Option.some.inj H
                have p234 : 0 ≤ (x5_1 : Int) := of_decide_eq_true (by first | (with_reducible assumption) | assumption)
                have q234 : x5_1 < (l0.length : Int) := of_decide_eq_true (by first | (with_reducible assumption) | assumption)
                obtain ⟨ad234, A234_0, c234_0, e234, hx234_0, hl234_0, hi234_0⟩ := at_L1 HR0.out x5_1 p234 q234
                cases e234
                have HR234_0 := Aside0.mk hi234_0
                have HC234_0 := Aside0.mk hl234_0
                clear hi234_0 hl234_0
                replace p234 := eq_true p234
                replace q234 := eq_true q234
                have p235 : 0 ≤ (x5_1 : Int) := of_decide_eq_true (by first | (with_reducible assumption) | assumption)
                have q235 : x5_1 < (l1.length : Int) := of_decide_eq_true (by first | (with_reducible assumption) | assumption)
                obtain ⟨ad235, A235_0, c235_0, e235, hx235_0, hl235_0, hi235_0⟩ := at_L1 HR1.out x5_1 p235 q235
                cases e235
                have HR235_0 := Aside0.mk hi235_0
                have HC235_0 := Aside0.mk hl235_0
                clear hi235_0 hl235_0
                replace p235 := eq_true p235
                replace q235 := eq_true q235
                go_wp2_with (first | (go_at_call 58; (with_reducible refine (trickleref03_Same.calls _ _ (rd_L1 l0 x5_1) _ _ (rd_L1 l1 x5_1) false _ ?side1 ?side2 ?side3 ?side4 A7.out).mono ?_); (case side1 => repeat (first | exact HR234_0.out | (with_reducible refine Kd.C_alloc ?_ _) | (with_reducible refine Kd.C_drewN ?_ _) | (with_reducible refine Kd.C_drew ?_))); (case side2 => exact HC234_0.out); (case side3 => repeat (first | exact HR235_0.out | (with_reducible refine Kd.C_alloc ?_ _) | (with_reducible refine Kd.C_drewN ?_ _) | (with_reducible refine Kd.C_drew ?_))); (case side4 => exact HC235_0.out); rintro e w' ⟨rfl, ⟨nd, rfl⟩⟩; (try first | exact ⟨rfl, _, World.drewN_drewN _ _ _⟩ | exact ⟨rfl, _, Eq.trans (World.drewN_drewN _ _ _) (congrArg (World.drewN _) (Nat.add_assoc _ _ _))⟩)))
                repeat (go_quiet (first | (go_at_call 58; (with_reducible refine (trickleref03_Same.calls _ _ (rd_L1 l0 x5_1) _ _ (rd_L1 l1 x5_1) false _ ?side1 ?side2 ?side3 ?side4 A7.out).mono ?_); (case side1 => repeat (first | exact HR234_0.out | (with_reducible refine Kd.C_alloc ?_ _) | (with_reducible refine Kd.C_drewN ?_ _) | (with_reducible refine Kd.C_drew ?_))); (case side2 => exact HC234_0.out); (case side3 => repeat (first | exact HR235_0.out | (with_reducible refine Kd.C_alloc ?_ _) | (with_reducible refine Kd.C_drewN ?_ _) | (with_reducible refine Kd.C_drew ?_))); (case side4 => exact HC235_0.out); rintro e w' ⟨rfl, ⟨nd, rfl⟩⟩; (try first | exact ⟨rfl, _, World.drewN_drewN _ _ _⟩ | exact ⟨rfl, _, Eq.trans (World.drewN_drewN _ _ _) (congrArg (World.drewN _) (Nat.add_assoc _ _ _))⟩))); try go_wp2_with (first | (go_at_call 58; (with_reducible refine (trickleref03_Same.calls _ _ (rd_L1 l0 x5_1) _ _ (rd_L1 l1 x5_1) false _ ?side1 ?side2 ?side3 ?side4 A7.out).mono ?_); (case side1 => repeat (first | exact HR234_0.out | (with_reducible refine Kd.C_alloc ?_ _) | (with_reducible refine Kd.C_drewN ?_ _) | (with_reducible refine Kd.C_drew ?_))); (case side2 => exact HC234_0.out); (case side3 => repeat (first | exact HR235_0.out | (with_reducible refine Kd.C_alloc ?_ _) | (with_reducible refine Kd.C_drewN ?_ _) | (with_reducible refine Kd.C_drew ?_))); (case side4 => exact HC235_0.out); rintro e w' ⟨rfl, ⟨nd, rfl⟩⟩; (try first | exact ⟨rfl, _, World.drewN_drewN _ _ _⟩ | exact ⟨rfl, _, Eq.trans (World.drewN_drewN _ _ _) (congrArg (World.drewN _) (Nat.add_assoc _ _ _))⟩))))
                go_ret
                exact ⟨by first | rfl | (simp; done) | (simp [*]; done), by repeat (first | exact Drawn0.refl _ | apply Drawn0.step)⟩
            · rw [if_neg c6] at H
              exact absurd H (by simp)
          · rw [if_neg c5] at H
            exact absurd H (by simp)
        · rw [if_neg c4] at H
          have c4b0 : decide (x5_1 < (l0.length : Int)) = false := decide_eq_false c4
          clear c4
          obtain rfl := Option.some.inj H
          go_wp2
          repeat (go_quiet (fail); try go_wp2)
          go_ret
          exact ⟨by first | rfl | (simp; done) | (simp [*]; done), by repeat (first | exact Drawn0.refl _ | apply Drawn0.step)⟩
  · rw [if_neg c3] at H
    have c3b0 : ((l0.length : Int) == (l1.length : Int)) = false := beq_eq_false_iff_ne.mpr c3
    have c3b1 : ((l0.length : Int) != (l1.length : Int)) = true := bne_iff_ne.mpr c3
    have c3b2 : (l0.length == l1.length) = false := by first | simpa using c3 | (simp at c3 ⊢; omega)
    obtain rfl := Option.some.inj H
    go_enter Tryd.func37, Tryd.ntmps37
    go_wp2
    repeat (go_quiet (fail); try go_wp2)
    go_ret
    exact ⟨by first | rfl | (simp; done) | (simp [*]; done), by repeat (first | exact Drawn0.refl _ | apply Drawn0.step)⟩

-- NOT PRINTED: function 59 (cobs_NewSplitter)

/-! ### cobs_Decode: function 70 -/
mutual
def cobs_Decode.j0 : Nat → List Int → Bool → Option (List Int × Int)
  | 0, _, _ => none
  | k + 1, x0, x18 => if x18 = true then (some (([] : List Int), 3)) else (if 0 ≤ (wrap64 ((x0.length : Int) - 1)) then (if (wrap64 ((x0.length : Int) - 1)) ≤ (x0.length : Int) then (cobs_Decode.l0 k x0 ([] : List Int) (x0.take ((wrap64 ((x0.length : Int) - 1)) : Int).toNat)) else (none)) else (none))
def cobs_Decode.l0 : Nat → List Int → List Int → List Int → Option (List Int × Int)
  | 0, _, _, _ => none
  | k + 1, x0, x4, x5 => if (x5.length : Int) > 0 then (if 0 < (x5.length : Int) then (if (wrap64 ((wrap64 (rd x5 0)) - 1)) < 0 then (cobs_Decode.j2 k x0 x4 x5 (wrap64 ((wrap64 (rd x5 0)) - 1)) true) else (cobs_Decode.j2 k x0 x4 x5 (wrap64 ((wrap64 (rd x5 0)) - 1)) (decide ((wrap64 ((wrap64 (rd x5 0)) - 1)) ≥ (x5.length : Int))))) else (none)) else ((cobs_Encode.f k x4).bind fun t260 => ((bytes_Equal.f t260 x0).bind fun t263 => (if t263 = true then (some (x4, 0)) else (some (([] : List Int), 2)))))
def cobs_Decode.j2 : Nat → List Int → List Int → List Int → Int → Bool → Option (List Int × Int)
  | 0, _, _, _, _, _ => none
  | k + 1, x0, x4, x5, x6, x39 => if x39 = true then (some (([] : List Int), 2)) else (if 1 ≤ (wrap64 (1 + x6)) then (if (wrap64 (1 + x6)) ≤ (x5.length : Int) then ((some ((x5.take ((wrap64 (1 + x6)) : Int).toNat).drop 1 : List Int)).bind fun y244 => (if x4.length + y244.length < 140737488355328 then ((some (x4 ++ y244 : List Int)).bind fun y249 => (if 0 ≤ (wrap64 (1 + x6)) then ((some (x5.drop ((wrap64 (1 + x6)) : Int).toNat : List Int)).bind fun y252 => (if (y252.length : Int) > 0 then (if x6 < 254 then (if y249.length < 140737488355328 then (cobs_Decode.l0 k x0 (y249 ++ [0]) y252) else (none)) else (cobs_Decode.l0 k x0 y249 y252)) else (cobs_Decode.l0 k x0 y249 y252))) else (none))) else (none))) else (none)) else (none))
end
def cobs_Decode.f (k : Nat) (l0 : List Int) : Option (List Int × Int) := if (l0.length : Int) = 0 then (cobs_Decode.j0 k l0 true) else (if 0 ≤ (wrap64 ((l0.length : Int) - 1)) then (if (wrap64 ((l0.length : Int) - 1)) < (l0.length : Int) then (cobs_Decode.j0 k l0 ((rd l0 (wrap64 ((l0.length : Int) - 1))) != 0)) else (none)) else (none))
set_option maxHeartbeats 8000000 in
set_option maxRecDepth 100000 in
theorem cobs_Decode.calls (k : Nat) (P0_ : Nat → Prop) (A0 : Option Addr) (c0 : Nat) (l0 : List Int) (r1 : List Int) (r2 : Int) (w : World) (hs0 : Kd.V (Kd.int .u8) 5 w w.heap.size (fun k_ => P0_ k_) (.slice A0 l0.length c0) l0) (h : cobs_Decode.f k l0 = some (r1, r2)) :
    Calls Tryd.prog 70 #[.slice A0 l0.length c0] w fun e w' => ∃ v0_ : Value, e = .returned (.tuple #[v0_, .int .i64 r2]) ∧ Kd.R (Kd.int .u8) 5 w' w.heap.size (fun k_ => (w.heap.size ≤ k_)) v0_ r1 ∧ Below w.heap.size w w' := by
  have HO0 := Aside0.mk (show Kd.V (Kd.int .u8) 5 w w.heap.size (fun k_ => (P0_ k_ ∨ w.heap.size ≤ k_)) (.slice A0 l0.length c0) l0 from Kd.V_mono hs0 (fun k_ hk => .inl hk))
  have HB := Aside0.mk (Below.refl w.heap.size w)
  have H : (if (l0.length : Int) = 0 then (cobs_Decode.j0 k l0 true) else (if 0 ≤ (wrap64 ((l0.length : Int) - 1)) then (if (wrap64 ((l0.length : Int) - 1)) < (l0.length : Int) then (cobs_Decode.j0 k l0 ((rd l0 (wrap64 ((l0.length : Int) - 1))) != 0)) else (none)) else (none))) = some (r1, r2) := h
  clear h
  have HC2 := Aside0.mk H
  clear H
  go_enter Tryd.func70, Tryd.ntmps70
  go_upto_region 1 with (fail)
  go_cut [18] (fun v18 wc => ∃ (kq : Nat) (x18_1 : Bool), v18 = .bool x18_1 ∧ Aside0 (cobs_Decode.j0 kq l0 x18_1 = some (r1, r2)) ∧ Aside0 (kq ≤ k) ∧ Aside0 (Kd.V (Kd.int .u8) 5 wc w.heap.size (fun k_ => (P0_ k_ ∨ w.heap.size ≤ k_)) (.slice A0 l0.length c0) l0) ∧ Aside0 (Below w.heap.size w wc))
  case first =>
    have H := HC2.out
    clear HC2
    by_cases c3 : (l0.length : Int) = 0
    · rw [if_pos c3] at H
      have c3b0 : ((l0.length : Int) == 0) = true := beq_iff_eq.mpr c3
      have c3b1 : ((l0.length : Int) != 0) = false := bne_eq_false_iff_eq.mpr c3
      clear c3
      (first | rw [c3b0] | (simp only [i64_w, i32_w]; rw [c3b0]) | skip)
      have H' := Aside0.mk H
      clear H
      go_wp2
      go_meet
      case rel => exact ⟨_, (true), (by first | rfl | (simp; done) | (simp [*]; done)), H', ⟨by first | omega | exact Nat.le_refl _⟩, ⟨by (with_reducible repeat (first | apply Kd.V_alloc | apply Kd.V_drewN | apply Kd.V_drew)); exact HO0.out⟩, ⟨by repeat (first | (with_reducible first | exact HB.out | apply below_alloc | apply pw_below_drewN | apply below_drew1) | exact HB.out)⟩⟩
    · rw [if_neg c3] at H
      have c3b0 : ((l0.length : Int) == 0) = false := beq_eq_false_iff_ne.mpr c3
      have c3b1 : ((l0.length : Int) != 0) = true := bne_iff_ne.mpr c3
      have c3b2 : ¬ (l0 = []) := fun h_ => c3 (by rw [h_]; rfl)
      (first | rw [c3b0] | (simp only [i64_w, i32_w]; rw [c3b0]) | skip)
      obtain ⟨ji4, hji4⟩ : ∃ j_ : Int, (wrap64 ((l0.length : Int) - 1)) = j_ := ⟨_, rfl⟩
      replace H : (if 0 ≤ (ji4) then (if (ji4) < (l0.length : Int) then (cobs_Decode.j0 k l0 ((rd l0 (ji4)) != 0)) else (none)) else (none)) = some (r1, r2) := by first | (rw [hji4] at H; exact H) | (simp only [hji4] at H ⊢; exact H)
      have hji4w : (IntKind.i64.wrap ((l0.length : Int) - 1)) = ji4 := (i64_w _).trans hji4
      by_cases c5 : 0 ≤ (ji4)
      · rw [if_pos c5] at H
        have c5b0 : decide (0 ≤ (ji4)) = true := decide_eq_true c5
        clear c5
        by_cases c6 : (ji4) < (l0.length : Int)
        · rw [if_pos c6] at H
          have c6b0 : decide ((ji4) < (l0.length : Int)) = true := decide_eq_true c6
          clear c6
          have H' := Aside0.mk H
          clear H
          have p237 : 0 ≤ ((ji4) : Int) := of_decide_eq_true (by first | (with_reducible assumption) | assumption)
          have q237 : (ji4) < (l0.length : Int) := of_decide_eq_true (by first | (with_reducible assumption) | assumption)
          obtain ⟨ad237, e237, hx237_0⟩ := Kd.at_int (Kd.V_reads' HO0.out).2.2 (ji4) p237 q237
          cases e237
          replace p237 := eq_true p237
          replace q237 := eq_true q237
          go_wp2
          go_meet
          case rel => exact ⟨_, (((rd l0 (ji4)) != 0)), (by first | rfl | (simp; done) | (simp only [← hji4] <;> (first | rfl | simp)) | (simp [*]; done)), H', ⟨by first | omega | exact Nat.le_refl _⟩, ⟨by (with_reducible repeat (first | apply Kd.V_alloc | apply Kd.V_drewN | apply Kd.V_drew)); exact HO0.out⟩, ⟨by repeat (first | (with_reducible first | exact HB.out | apply below_alloc | apply pw_below_drewN | apply below_drew1) | exact HB.out)⟩⟩
        · rw [if_neg c6] at H
          exact absurd H (by simp)
      · rw [if_neg c5] at H
        exact absurd H (by simp)
  case rest =>
    clear HC2
    try clear p2
    try clear q2
    try clear hx2
    try clear c3
    try clear c3b0
    try clear c3b1
    try clear c3b2
    try clear c5
    try clear c5b0
    try clear c6
    try clear c6b0
    try clear p6
    try clear hx237_0
    try clear p237
    try clear q237
    obtain ⟨kq, x18_1, rfl, HA, HJ1, HO_0, HB⟩ := hcut
    cases kq with
    | zero => exact absurd HA.out (by simp [cobs_Decode.j0])
    | succ kj1 =>
      have H := HA.out
      clear HA
      simp only [cobs_Decode.j0] at H
      by_cases c7 : x18_1 = true
      · subst c7
        have H1 : (some (([] : List Int), 3)) = some (r1, r2) := by rw [if_pos rfl] at H; exact H
        clear H
        have H := H1
        clear H1
        simp only [Option.some.injEq, Prod.mk.injEq] at H
        obtain ⟨rfl, rfl⟩ := H
        go_wp2
        go_ret2
        exact ⟨_, by first | rfl | (simp [errW_none, errW_some] <;> rfl) | (simp [*, errW_none, errW_some] <;> rfl), by first | exact Kd.R_nil _ _ _ _ _ | exact Kd.N_nil _ _ _ _ _ | exact Kd.V_nil _ _ _ _ _ | exact Kd.Q_nil _ _ _ _ _ | exact Kd.S_nil _ _ _ _ _, by repeat (first | (with_reducible first | exact HB.out | apply below_alloc | apply pw_below_drewN | apply below_drew1) | exact HB.out)⟩
      · replace c7 := Bool.eq_false_iff.mpr c7
        subst c7
        have H1 : (if 0 ≤ (wrap64 ((l0.length : Int) - 1)) then (if (wrap64 ((l0.length : Int) - 1)) ≤ (l0.length : Int) then (cobs_Decode.l0 kj1 l0 ([] : List Int) (l0.take ((wrap64 ((l0.length : Int) - 1)) : Int).toNat)) else (none)) else (none)) = some (r1, r2) := by rw [if_neg (show ¬ (false = true) by decide)] at H; exact H
        clear H
        have H := H1
        clear H1
        obtain ⟨ji8, hji8⟩ : ∃ j_ : Int, (wrap64 ((l0.length : Int) - 1)) = j_ := ⟨_, rfl⟩
        replace H : (if 0 ≤ (ji8) then (if (ji8) ≤ (l0.length : Int) then (cobs_Decode.l0 kj1 l0 ([] : List Int) (l0.take ((ji8) : Int).toNat)) else (none)) else (none)) = some (r1, r2) := by first | (rw [hji8] at H; exact H) | (simp only [hji8] at H ⊢; exact H)
        have hji8w : (IntKind.i64.wrap ((l0.length : Int) - 1)) = ji8 := (i64_w _).trans hji8
        by_cases c9 : 0 ≤ (ji8)
        · rw [if_pos c9] at H
          have c9b0 := eq_true c9
          have c9b1 : decide (0 ≤ (ji8)) = true := decide_eq_true c9
          clear c9
          by_cases c10 : (ji8) ≤ (l0.length : Int)
          · rw [if_pos c10] at H
            have c10b0 := eq_true c10
            have c10b1 : decide ((ji8) ≤ (l0.length : Int)) = true := decide_eq_true c10
            clear c10
            obtain ⟨y238, hy238⟩ : ∃ y_ : List Int, y_ = (l0.take ((ji8) : Int).toNat) := ⟨_, rfl⟩
            replace H : (cobs_Decode.l0 kj1 l0 ([] : List Int) y238) = some (r1, r2) := by first | (rw [hy238]; with_reducible exact H) | (have H2_ := (Option.bind_some _ _).symm.trans H; rw [hy238]; with_reducible exact H2_) | (have H2_ := (Option.bind_some _ _).symm.trans H; with_reducible exact H2_) | with_reducible exact H | (rw [hy238]; exact H) | exact H
            have Ny238 := Aside0.mk hy238
            clear hy238
            have H' := Aside0.mk H
            clear H
            have q11 : ((ji8) : Int) ≤ ((l0.length : Int) : Int) := of_decide_eq_true (by first | (with_reducible assumption) | assumption)
            obtain ⟨i011, hi011, _, hsz11, _⟩ := info_parts info5
            have hroom11 : l0.length ≤ c0 := (Kd.V_reads' HO_0.out).2.1
            have hC11 : Kd.F (Kd.int .u8) _ _ A0 l0.length l0 := (Kd.V_at (base := w.heap.size) HO_0.out).2.2
            have hcut11 := cut_to (P := Tryd.prog) 24 5 .i64 Tryd.underlying24 hi011 A0 l0.length c0 (ji8) (of_decide_eq_true (by first | (with_reducible assumption) | assumption)) q11 hroom11
            have hr11 := Kd.F_take (m := ((ji8) : Int).toNat) hC11 (by omega)
            have hy11 : y238.length = ((ji8) : Int).toNat := (by rw [Ny238.out, List.length_take]; omega)
            rw [← Ny238.out] at hr11
            rw [← hy11] at hcut11
            have HO242 := Aside0.mk (show Kd.V (Kd.int .u8) 5 _ w.heap.size _ (.slice A0 y238.length c0) y238 from Kd.V_mk (by omega) hr11)
            have HC242 := Aside0.mk (show y238.length ≤ c0 from by omega)
            clear hr11 hC11 hroom11 hi011 hsz11
            have KY11 := Aside0.mk hy11
            clear hy11
            replace q11 := eq_true q11
            go_wp2
            go_loopg [4, 5] kj1 (fun kq v4 v5 w' => ∃ (x4_2 : List Int) (x5_2 : List Int), Aside0 (cobs_Decode.l0 kq l0 x4_2 x5_2 = some (r1, r2)) ∧ Aside0 (kq ≤ kj1) ∧ Aside0 (Kd.V (Kd.int .u8) 5 w' w.heap.size (fun k_ => (P0_ k_ ∨ w.heap.size ≤ k_) ∧ some k_ ≠ (v4 : Value).ownBlock) (.slice A0 l0.length c0) l0) ∧ Aside0 (Kd.R (Kd.int .u8) 5 w' w.heap.size (fun k_ => (w.heap.size ≤ k_)) v4 x4_2) ∧ Aside0 (Kd.V (Kd.int .u8) 5 w' w.heap.size (fun k_ => (P0_ k_ ∨ w.heap.size ≤ k_) ∧ some k_ ≠ (v4 : Value).ownBlock) v5 x5_2) ∧ Aside0 (Below w.heap.size w w'))
            case atStart => exact ⟨(([] : List Int)), (y238), H', ⟨Nat.le_refl _⟩, ⟨by (with_reducible repeat (first | apply Kd.V_alloc | apply Kd.V_drewN | apply Kd.V_drew)); exact Kd.V_mono HO_0.out (fun _ hk => ⟨hk, (by simp [Value.ownBlock])⟩)⟩, ⟨by first | exact Kd.R_nil _ _ _ _ _ | exact Kd.N_nil _ _ _ _ _ | exact Kd.V_nil _ _ _ _ _ | exact Kd.Q_nil _ _ _ _ _ | exact Kd.S_nil _ _ _ _ _⟩, ⟨by (with_reducible repeat (first | apply Kd.V_alloc | apply Kd.V_drewN | apply Kd.V_drew)); exact Kd.V_mono HO242.out (fun _ hk => ⟨hk, (by simp [Value.ownBlock])⟩)⟩, ⟨by repeat (first | (with_reducible first | exact HB.out | apply below_alloc | apply pw_below_drewN | apply below_drew1) | exact HB.out)⟩⟩
            case round =>
              clear H'
              try clear c1
              try clear q1
              try clear p2
              try clear q2
              try clear hx2
              try clear c3
              try clear c3b0
              try clear c3b1
              try clear c3b2
              try clear c5
              try clear c5b0
              try clear c6
              try clear c6b0
              try clear p6
              try clear c7
              try clear c9
              try clear c9b0
              try clear c9b1
              try clear c10
              try clear c10b0
              try clear c10b1
              try clear q11
              try clear hx237_0
              try clear p2
              try clear p237
              try clear p6
              try clear q11
              try clear q2
              try clear q237
              obtain ⟨x4_2, x5_2, HA, HK2, HO_0, HO_4, HO_5, HB⟩ := hrel
              cases gk with
              | zero => exact absurd HA.out (by simp [cobs_Decode.l0])
              | succ k2 =>
                have H := HA.out
                clear HA
                simp only [cobs_Decode.l0] at H
                by_cases c12 : (x5_2.length : Int) > 0
                · rw [if_pos c12] at H
                  have c12b0 : decide (0 < (x5_2.length : Int)) = true := decide_eq_true c12
                  have c12b1 : decide (0 < x5_2.length) = true := decide_eq_true (by omega)
                  clear c12
                  by_cases c13 : 0 < (x5_2.length : Int)
                  · rw [if_pos c13] at H
                    have c13b0 : decide (0 < (x5_2.length : Int)) = true := decide_eq_true c13
                    have c13b1 : decide (0 < x5_2.length) = true := decide_eq_true (by omega)
                    clear c13
                    have HC14 := Aside0.mk H
                    clear H
                    obtain ⟨Ao15, co15, eo15⟩ := Kd.V_slice HO_5.out
                    subst eo15
                    have p243 : 0 ≤ (0 : Int) := (by omega)
                    have q243 : 0 < (x5_2.length : Int) := of_decide_eq_true (by first | (with_reducible assumption) | assumption)
                    obtain ⟨ad243, e243, hx243_0⟩ := Kd.at_int (Kd.V_reads' HO_5.out).2.2 0 p243 q243
                    cases e243
                    have qi243 : (0 < x5_2.length) = True := eq_true (by omega)
                    (try rw [show ((0 : Int)).toNat = 0 from rfl] at hx243_0)
                    (try rw [Addr.add_zero'] at hx243_0)
                    replace p243 := eq_true p243
                    replace q243 := eq_true q243
                    go_upto_region 7 with (fail)
                    go_cut [39] (fun v39 wc => ∃ (kq : Nat) (x39_13 : Bool), v39 = .bool x39_13 ∧ Aside0 (cobs_Decode.j2 kq l0 x4_2 x5_2 (wrap64 ((wrap64 (rd x5_2 0)) - 1)) x39_13 = some (r1, r2)) ∧ Aside0 (kq ≤ k2) ∧ Aside0 (Kd.V (Kd.int .u8) 5 wc w.heap.size (fun k_ => (P0_ k_ ∨ w.heap.size ≤ k_) ∧ some k_ ≠ (u4 : Value).ownBlock) (.slice A0 l0.length c0) l0) ∧ Aside0 (Kd.R (Kd.int .u8) 5 wc w.heap.size (fun k_ => (w.heap.size ≤ k_)) u4 x4_2) ∧ Aside0 (Kd.V (Kd.int .u8) 5 wc w.heap.size (fun k_ => (P0_ k_ ∨ w.heap.size ≤ k_) ∧ some k_ ≠ (u4 : Value).ownBlock) (.slice (some ad243) x5_2.length co15) x5_2) ∧ Aside0 (Below w.heap.size w wc))
                    case first =>
                      have H := HC14.out
                      clear HC14
                      by_cases c16 : (wrap64 ((wrap64 (rd x5_2 0)) - 1)) < 0
                      · rw [if_pos c16] at H
                        have c16b0 : decide ((wrap64 ((wrap64 (rd x5_2 0)) - 1)) < 0) = true := decide_eq_true c16
                        clear c16
                        (first | rw [c16b0] | (simp only [i64_w, i32_w]; rw [c16b0]) | skip)
                        have H' := Aside0.mk H
                        clear H
                        go_wp2
                        go_meet
                        case rel => exact ⟨_, (true), (by first | rfl | (simp; done) | (simp [*]; done)), H', ⟨by have := HJ1.out; have := HK2.out; first | omega | exact Nat.le_refl _⟩, ⟨by (with_reducible repeat (first | apply Kd.V_alloc | apply Kd.V_drewN | apply Kd.V_drew)); exact HO_0.out⟩, ⟨by (with_reducible repeat (first | apply Kd.R_alloc | apply Kd.R_drewN | apply Kd.R_drew)); exact HO_4.out⟩, ⟨by (with_reducible repeat (first | apply Kd.V_alloc | apply Kd.V_drewN | apply Kd.V_drew)); exact HO_5.out⟩, ⟨by repeat (first | (with_reducible first | exact HB.out | apply below_alloc | apply pw_below_drewN | apply below_drew1) | exact HB.out)⟩⟩
                      · rw [if_neg c16] at H
                        have c16b0 : decide ((wrap64 ((wrap64 (rd x5_2 0)) - 1)) < 0) = false := decide_eq_false c16
                        clear c16
                        (first | rw [c16b0] | (simp only [i64_w, i32_w]; rw [c16b0]) | skip)
                        have H' := Aside0.mk H
                        clear H
                        go_wp2
                        go_meet
                        case rel => exact ⟨_, (decide ((wrap64 ((wrap64 (rd x5_2 0)) - 1)) ≥ (x5_2.length : Int))), (by first | rfl | (simp; done) | (simp [*]; done)), H', ⟨by have := HJ1.out; have := HK2.out; first | omega | exact Nat.le_refl _⟩, ⟨by (with_reducible repeat (first | apply Kd.V_alloc | apply Kd.V_drewN | apply Kd.V_drew)); exact HO_0.out⟩, ⟨by (with_reducible repeat (first | apply Kd.R_alloc | apply Kd.R_drewN | apply Kd.R_drew)); exact HO_4.out⟩, ⟨by (with_reducible repeat (first | apply Kd.V_alloc | apply Kd.V_drewN | apply Kd.V_drew)); exact HO_5.out⟩, ⟨by repeat (first | (with_reducible first | exact HB.out | apply below_alloc | apply pw_below_drewN | apply below_drew1) | exact HB.out)⟩⟩
                    case rest =>
                      clear HC14
                      try clear c1
                      try clear q1
                      try clear p2
                      try clear q2
                      try clear hx2
                      try clear qi2
                      try clear c3
                      try clear c3b0
                      try clear c3b1
                      try clear c3b2
                      try clear c5
                      try clear c5b0
                      try clear c6
                      try clear c6b0
                      try clear p6
                      try clear c7
                      try clear c9
                      try clear c9b0
                      try clear c9b1
                      try clear c10
                      try clear c10b0
                      try clear c10b1
                      try clear q11
                      try clear c12
                      try clear c12b0
                      try clear c12b1
                      try clear c13
                      try clear c13b0
                      try clear c13b1
                      try clear c16
                      try clear c16b0
                      try clear hx237_0
                      try clear hx243_0
                      try clear p2
                      try clear p237
                      try clear p243
                      try clear p6
                      try clear q1
                      try clear q11
                      try clear q2
                      try clear q237
                      try clear q243
                      obtain ⟨kq, x39_13, rfl, HA, HJ13, HO_0, HO_4, HO_5, HB⟩ := hcut
                      cases kq with
                      | zero => exact absurd HA.out (by simp [cobs_Decode.j2])
                      | succ kj13 =>
                        have H := HA.out
                        clear HA
                        simp only [cobs_Decode.j2] at H
                        by_cases c17 : x39_13 = true
                        · subst c17
                          have H1 : (some (([] : List Int), 2)) = some (r1, r2) := by rw [if_pos rfl] at H; exact H
                          clear H
                          have H := H1
                          clear H1
                          simp only [Option.some.injEq, Prod.mk.injEq] at H
                          obtain ⟨rfl, rfl⟩ := H
                          go_wp2
                          go_ret2
                          exact ⟨_, by first | rfl | (simp [errW_none, errW_some] <;> rfl) | (simp only [← hji8]; first | rfl | (simp [errW_none, errW_some] <;> rfl)) | (simp [*, errW_none, errW_some] <;> rfl), by first | exact Kd.R_nil _ _ _ _ _ | exact Kd.N_nil _ _ _ _ _ | exact Kd.V_nil _ _ _ _ _ | exact Kd.Q_nil _ _ _ _ _ | exact Kd.S_nil _ _ _ _ _, by repeat (first | (with_reducible first | exact HB.out | apply below_alloc | apply pw_below_drewN | apply below_drew1) | exact HB.out)⟩
                        · replace c17 := Bool.eq_false_iff.mpr c17
                          subst c17
                          have H1 : (if 1 ≤ (wrap64 (1 + (wrap64 ((wrap64 (rd x5_2 0)) - 1)))) then (if (wrap64 (1 + (wrap64 ((wrap64 (rd x5_2 0)) - 1)))) ≤ (x5_2.length : Int) then ((some ((x5_2.take ((wrap64 (1 + (wrap64 ((wrap64 (rd x5_2 0)) - 1)))) : Int).toNat).drop 1 : List Int)).bind fun y244 => (if x4_2.length + y244.length < 140737488355328 then ((some (x4_2 ++ y244 : List Int)).bind fun y249 => (if 0 ≤ (wrap64 (1 + (wrap64 ((wrap64 (rd x5_2 0)) - 1)))) then ((some (x5_2.drop ((wrap64 (1 + (wrap64 ((wrap64 (rd x5_2 0)) - 1)))) : Int).toNat : List Int)).bind fun y252 => (if (y252.length : Int) > 0 then (if (wrap64 ((wrap64 (rd x5_2 0)) - 1)) < 254 then (if y249.length < 140737488355328 then (cobs_Decode.l0 kj13 l0 (y249 ++ [0]) y252) else (none)) else (cobs_Decode.l0 kj13 l0 y249 y252)) else (cobs_Decode.l0 kj13 l0 y249 y252))) else (none))) else (none))) else (none)) else (none)) = some (r1, r2) := by rw [if_neg (show ¬ (false = true) by decide)] at H; exact H
                          clear H
                          have H := H1
                          clear H1
                          by_cases c18 : 1 ≤ (wrap64 (1 + (wrap64 ((wrap64 (rd x5_2 0)) - 1))))
                          · rw [if_pos c18] at H
                            have c18b0 := eq_true c18
                            have c18b1 : decide (1 ≤ (wrap64 (1 + (wrap64 ((wrap64 (rd x5_2 0)) - 1))))) = true := decide_eq_true c18
                            by_cases c19 : (wrap64 (1 + (wrap64 ((wrap64 (rd x5_2 0)) - 1)))) ≤ (x5_2.length : Int)
                            · rw [if_pos c19] at H
                              have c19b0 := eq_true c19
                              have c19b1 : decide ((wrap64 (1 + (wrap64 ((wrap64 (rd x5_2 0)) - 1)))) ≤ (x5_2.length : Int)) = true := decide_eq_true c19
                              obtain ⟨y244, hy244⟩ : ∃ y_ : List Int, y_ = ((x5_2.take ((wrap64 (1 + (wrap64 ((wrap64 (rd x5_2 0)) - 1)))) : Int).toNat).drop 1) := ⟨_, rfl⟩
                              replace H : (if x4_2.length + y244.length < 140737488355328 then ((some (x4_2 ++ y244 : List Int)).bind fun y249 => (if 0 ≤ (wrap64 (1 + (wrap64 ((wrap64 (rd x5_2 0)) - 1)))) then ((some (x5_2.drop ((wrap64 (1 + (wrap64 ((wrap64 (rd x5_2 0)) - 1)))) : Int).toNat : List Int)).bind fun y252 => (if (y252.length : Int) > 0 then (if (wrap64 ((wrap64 (rd x5_2 0)) - 1)) < 254 then (if y249.length < 140737488355328 then (cobs_Decode.l0 kj13 l0 (y249 ++ [0]) y252) else (none)) else (cobs_Decode.l0 kj13 l0 y249 y252)) else (cobs_Decode.l0 kj13 l0 y249 y252))) else (none))) else (none)) = some (r1, r2) := by first | (rw [hy244]; with_reducible exact H) | (have H2_ := (Option.bind_some _ _).symm.trans H; rw [hy244]; with_reducible exact H2_) | (have H2_ := (Option.bind_some _ _).symm.trans H; with_reducible exact H2_) | with_reducible exact H | (rw [hy244]; exact H) | exact H
                              have Ny244 := Aside0.mk hy244
                              clear hy244
                              by_cases c20 : x4_2.length + y244.length < 140737488355328
                              · rw [if_pos c20] at H
                                have LMc20 := Aside0.mk c20
                                clear c20
                                obtain ⟨y249, hy249⟩ : ∃ y_ : List Int, y_ = (x4_2 ++ y244) := ⟨_, rfl⟩
                                replace H : (if 0 ≤ (wrap64 (1 + (wrap64 ((wrap64 (rd x5_2 0)) - 1)))) then ((some (x5_2.drop ((wrap64 (1 + (wrap64 ((wrap64 (rd x5_2 0)) - 1)))) : Int).toNat : List Int)).bind fun y252 => (if (y252.length : Int) > 0 then (if (wrap64 ((wrap64 (rd x5_2 0)) - 1)) < 254 then (if y249.length < 140737488355328 then (cobs_Decode.l0 kj13 l0 (y249 ++ [0]) y252) else (none)) else (cobs_Decode.l0 kj13 l0 y249 y252)) else (cobs_Decode.l0 kj13 l0 y249 y252))) else (none)) = some (r1, r2) := by first | (rw [hy249]; with_reducible exact H) | (have H2_ := (Option.bind_some _ _).symm.trans H; rw [hy249]; with_reducible exact H2_) | (have H2_ := (Option.bind_some _ _).symm.trans H; with_reducible exact H2_) | with_reducible exact H | (rw [hy249]; exact H) | exact H
                                have Ny249 := Aside0.mk hy249
                                clear hy249
                                obtain ⟨ji21, hji21⟩ : ∃ j_ : Int, (wrap64 (1 + (wrap64 ((wrap64 (rd x5_2 0)) - 1)))) = j_ := ⟨_, rfl⟩
                                replace H : (if 0 ≤ (ji21) then ((some (x5_2.drop ((ji21) : Int).toNat : List Int)).bind fun y252 => (if (y252.length : Int) > 0 then (if (wrap64 ((wrap64 (rd x5_2 0)) - 1)) < 254 then (if y249.length < 140737488355328 then (cobs_Decode.l0 kj13 l0 (y249 ++ [0]) y252) else (none)) else (cobs_Decode.l0 kj13 l0 y249 y252)) else (cobs_Decode.l0 kj13 l0 y249 y252))) else (none)) = some (r1, r2) := by first | (rw [hji21] at H; exact H) | (simp only [hji21] at H ⊢; exact H)
                                (try rw [hji21] at c18b0)
                                (try rw [hji21] at c18b1)
                                (try rw [hji21] at c18)
                                (try rw [hji21] at c19b0)
                                (try rw [hji21] at c19b1)
                                (try rw [hji21] at c19)
                                (try rw [hji21] at Ny244)
                                (try rw [hji21] at Ny244)
                                have hji21w : (IntKind.i64.wrap (1 + (wrap64 ((wrap64 (rd x5_2 0)) - 1)))) = ji21 := (i64_w _).trans hji21
                                by_cases c22 : 0 ≤ (ji21)
                                · rw [if_pos c22] at H
                                  have c22b0 := eq_true c22
                                  have c22b1 : decide (0 ≤ (ji21)) = true := decide_eq_true c22
                                  clear c22
                                  have c23b0 := eq_true (of_decide_eq_true (by first | (with_reducible assumption) | assumption) : (ji21) ≤ (x5_2.length : Int))
                                  obtain ⟨y252, hy252⟩ : ∃ y_ : List Int, y_ = (x5_2.drop ((ji21) : Int).toNat) := ⟨_, rfl⟩
                                  replace H : (if (y252.length : Int) > 0 then (if (wrap64 ((wrap64 (rd x5_2 0)) - 1)) < 254 then (if y249.length < 140737488355328 then (cobs_Decode.l0 kj13 l0 (y249 ++ [0]) y252) else (none)) else (cobs_Decode.l0 kj13 l0 y249 y252)) else (cobs_Decode.l0 kj13 l0 y249 y252)) = some (r1, r2) := by first | (rw [hy252]; with_reducible exact H) | (have H2_ := (Option.bind_some _ _).symm.trans H; rw [hy252]; with_reducible exact H2_) | (have H2_ := (Option.bind_some _ _).symm.trans H; with_reducible exact H2_) | with_reducible exact H | (rw [hy252]; exact H) | exact H
                                  have Ny252 := Aside0.mk hy252
                                  clear hy252
                                  by_cases c24 : (y252.length : Int) > 0
                                  · rw [if_pos c24] at H
                                    have c24b0 : decide (0 < (y252.length : Int)) = true := decide_eq_true c24
                                    have c24b1 : decide (0 < y252.length) = true := decide_eq_true (by omega)
                                    clear c24
                                    by_cases c25 : (wrap64 ((wrap64 (rd x5_2 0)) - 1)) < 254
                                    · rw [if_pos c25] at H
                                      have c25b0 : decide ((wrap64 ((wrap64 (rd x5_2 0)) - 1)) < 254) = true := decide_eq_true c25
                                      clear c25
                                      by_cases c26 : y249.length < 140737488355328
                                      · rw [if_pos c26] at H
                                        have LMc26 := Aside0.mk c26
                                        clear c26
                                        obtain ⟨y257, hy257⟩ : ∃ y_ : List Int, y_ = (y249 ++ [0]) := ⟨_, rfl⟩
                                        replace H : (cobs_Decode.l0 kj13 l0 y257 y252) = some (r1, r2) := by first | (rw [hy257]; with_reducible exact H) | (have H2_ := (Option.bind_some _ _).symm.trans H; rw [hy257]; with_reducible exact H2_) | (have H2_ := (Option.bind_some _ _).symm.trans H; with_reducible exact H2_) | with_reducible exact H | (rw [hy257]; exact H) | exact H
                                        have Ny257 := Aside0.mk hy257
                                        clear hy257
                                        have H' := Aside0.mk H
                                        clear H
                                        have q27 : ((ji21) : Int) ≤ ((x5_2.length : Int) : Int) := of_decide_eq_true (by first | (with_reducible assumption) | assumption)
                                        obtain ⟨i027, hi027, _, hsz27, _⟩ := info_parts info5
                                        have hroom27 : x5_2.length ≤ co15 := (Kd.V_reads' HO_5.out).2.1
                                        have hC27 : Kd.F (Kd.int .u8) _ _ (some ad243) x5_2.length x5_2 := (Kd.V_at (base := w.heap.size) HO_5.out).2.2
                                        have ql27 : (1 : Int) ≤ ((ji21) : Int) := of_decide_eq_true (by first | (with_reducible assumption) | assumption)
                                        have hcut27 := cut_mid (P := Tryd.prog) 24 5 .i64 .i64 Tryd.underlying24 hi027 1 hsz27 (some ad243) x5_2.length co15 1 (ji21) (by omega) ql27 q27 hroom27
                                        have hr27 := Kd.F_mid (lo := (1 : Int).toNat) (hi := ((ji21) : Int).toNat) (c := co15) hC27 (by omega) (by omega) hroom27
                                        obtain ⟨A27, hA27⟩ : ∃ A1, A1 = (if co15 = (1 : Int).toNat then (some ad243) else ((some ad243) : Option Addr).map (·.add ((1 : Int).toNat * 1))) := ⟨_, rfl⟩
                                        obtain ⟨c27, hc27⟩ : ∃ c1, c1 = co15 - (1 : Int).toNat := ⟨_, rfl⟩
                                        have hy27 : y244.length = ((ji21) : Int).toNat - (1 : Int).toNat := (by rw [Ny244.out, List.length_drop, List.length_take] <;> omega)
                                        rw [show ((x5_2).take ((ji21) : Int).toNat).drop (1 : Int).toNat = y244 from Ny244.out.symm] at hr27
                                        replace hr27 : Kd.F (Kd.int .u8) _ _ A27 y244.length y244 := (by rw [hA27]; exact hr27)
                                        rw [← hy27, ← hA27, ← hc27] at hcut27
                                        have HO248 := Aside0.mk (show Kd.V (Kd.int .u8) 5 _ w.heap.size _ (.slice A27 y244.length c27) y244 from Kd.V_mk (by rw [hy27, hc27]; exact Nat.sub_le_sub_right (Nat.le_trans (by omega) hroom27) _) hr27)
                                        have HC248 := Aside0.mk (show y244.length ≤ c27 from by rw [hy27, hc27]; exact Nat.sub_le_sub_right (Nat.le_trans (by omega) hroom27) _)
                                        clear hr27 hC27 hroom27 hi027 hsz27 hc27
                                        have KY27 := Aside0.mk hy27
                                        have KA27 := Aside0.mk hA27
                                        clear hy27 hA27
                                        replace q27 := eq_true q27
                                        go_wp2_with (first | ((with_reducible refine gate_builtin (b := .append) (xs := #[.tmp 40, .tmp 44]) rfl ?_); (try (refine gate_guard (by rfl) ?_; dsimp only)); at_builtin; refine Kd.R_append_rows (Kd.int .u8) (w0 := w) w.heap.size rfl (.tmp 40) (.tmp 44) 24 5 (.int .u8 0) 1 rfl Tryd.underlying24 info5 rfl (by decide) (by omega) u4 x4_2 y244 _ _ _ (fun k_ => (w.heap.size ≤ k_)) (fun _ => False) rfl rfl ?aO ?aR (fun _ _ h => h) (fun _ h => h.elim) ?aF ?aB ?aS ?aL ?_; (case aR => repeat (first | exact (Kd.V_reads' HO248.out).2.2 | (with_reducible refine Kd.C_alloc ?_ _) | (with_reducible refine Kd.C_drewN ?_ _) | (with_reducible refine Kd.C_drew ?_))); (case aB => exact (by repeat (first | (with_reducible first | exact HB.out | apply below_alloc | apply pw_below_drewN | apply below_drew1) | exact HB.out))); (case aF => exact (fun k_ hk => (Nat.le_trans (below_size (by repeat (first | (with_reducible first | exact HB.out | apply below_alloc | apply pw_below_drewN | apply below_drew1) | exact HB.out))) hk))); (case aO => exact (by (with_reducible repeat (first | apply Kd.R_alloc | apply Kd.R_drewN | apply Kd.R_drew)); exact HO_4.out)); (case aS => exact (below_size (by repeat (first | (with_reducible first | exact HB.out | apply below_alloc | apply pw_below_drewN | apply below_drew1) | exact HB.out)))); (case aL => have := LMc20.out; omega); intro v250 w28 ho hb hg hat; rw [← Ny249.out] at ho; have n0_ := Aside0.mk (Kd.V_afterv (ok := (fun k_ => (P0_ k_ ∨ w.heap.size ≤ k_))) (by (with_reducible repeat (first | apply Kd.V_alloc | apply Kd.V_drewN | apply Kd.V_drew)); exact HO_0.out) hg hat); have n1_ := Aside0.mk (Kd.V_afterv (ok := (fun k_ => (P0_ k_ ∨ w.heap.size ≤ k_))) (by (with_reducible repeat (first | apply Kd.V_alloc | apply Kd.V_drewN | apply Kd.V_drew)); exact HO_5.out) hg hat); have n2_ := Aside0.mk (Kd.V_afterv (ok := (fun k_ => (P0_ k_ ∨ w.heap.size ≤ k_))) (by (with_reducible repeat (first | apply Kd.V_alloc | apply Kd.V_drewN | apply Kd.V_drew)); exact HO248.out) hg hat); have n3_ := Aside0.mk (hb); have n4_ := Aside0.mk (ho); clear HO_0; clear HO_5; clear HO248; clear HB; clear HO_4; have HO_0 := n0_; have HO_5 := n1_; have HO248 := n2_; have HB := n3_; have HO251 := n4_; clear n0_ n1_ n2_ n3_ n4_; clear ho hb hg hat; have q29 : ((ji21) : Int) ≤ ((x5_2.length : Int) : Int) := of_decide_eq_true (by first | (with_reducible assumption) | assumption); obtain ⟨i029, hi029, _, hsz29, _⟩ := info_parts info5; have hroom29 : x5_2.length ≤ co15 := (Kd.V_reads' HO_5.out).2.1; have hC29 : Kd.F (Kd.int .u8) _ _ (some ad243) x5_2.length x5_2 := (Kd.V_at (base := w.heap.size) HO_5.out).2.2; have q029 : (0 : Int) ≤ ((ji21) : Int) := of_decide_eq_true (by first | (with_reducible assumption) | assumption); have hcut29 := cut_from (P := Tryd.prog) 24 5 .i64 Tryd.underlying24 hi029 1 hsz29 (some ad243) x5_2.length co15 (ji21) q029 q29; have hr29 := Kd.F_cut (m := ((ji21) : Int).toNat) (c := co15) hC29 (by omega) hroom29; obtain ⟨A29, hA29⟩ : ∃ A1, A1 = (if co15 = ((ji21) : Int).toNat then (some ad243) else ((some ad243) : Option Addr).map (·.add (((ji21) : Int).toNat * 1))) := ⟨_, rfl⟩; obtain ⟨c29, hc29⟩ : ∃ c1, c1 = co15 - ((ji21) : Int).toNat := ⟨_, rfl⟩; have hy29 : y252.length = x5_2.length - ((ji21) : Int).toNat := (by rw [Ny252.out, List.length_drop] <;> omega); rw [show (x5_2).drop ((ji21) : Int).toNat = y252 from Ny252.out.symm] at hr29; replace hr29 : Kd.F (Kd.int .u8) _ _ A29 y252.length y252 := (by rw [hA29]; exact hr29); rw [← hy29, ← hA29, ← hc29] at hcut29; have HO256 := Aside0.mk (show Kd.V (Kd.int .u8) 5 _ w.heap.size _ (.slice A29 y252.length c29) y252 from Kd.V_mk (by rw [hy29, hc29]; exact Nat.sub_le_sub_right hroom29 _) hr29); have HC256 := Aside0.mk (show y252.length ≤ c29 from by rw [hy29, hc29]; exact Nat.sub_le_sub_right hroom29 _); clear hr29 hC29 hroom29 hi029 hsz29 hc29; have KY29 := Aside0.mk hy29; have KA29 := Aside0.mk hA29; clear hy29 hA29; replace q29 := eq_true q29) | ((with_reducible refine gate_builtin (b := .append) (xs := #[.tmp 57, .tmp 58]) rfl ?_); (try (refine gate_guard (by rfl) ?_; dsimp only)); at_builtin; refine Kd.R_append (Kd.int .u8) (w0 := w) w.heap.size rfl (.tmp 57) (.tmp 58) 24 5 (.int .u8 0) 1 rfl Tryd.underlying24 info5 rfl (by decide) (by omega) v250 y249 0 [.int .u8 0] (fun k_ => (w.heap.size ≤ k_)) (fun _ => False) rfl rfl ?aP (fun _ hk => hk.elim) ?aF ?aO ?aB ?aS ?aL ?_; (case aP => exact rfl); (case aB => exact (by repeat (first | (with_reducible first | exact HB.out | apply below_alloc | apply pw_below_drewN | apply below_drew1) | exact HB.out))); (case aF => exact (fun k_ hk => (Nat.le_trans (below_size (by repeat (first | (with_reducible first | exact HB.out | apply below_alloc | apply pw_below_drewN | apply below_drew1) | exact HB.out))) hk))); (case aO => exact (by (with_reducible repeat (first | apply Kd.R_alloc | apply Kd.R_drewN | apply Kd.R_drew)); exact HO251.out)); (case aS => exact (below_size (by repeat (first | (with_reducible first | exact HB.out | apply below_alloc | apply pw_below_drewN | apply below_drew1) | exact HB.out)))); (case aL => have := LMc26.out; omega); intro v258 w30 ho hb hg hat; rw [← Ny257.out] at ho; have n0_ := Aside0.mk (Kd.V_afterv (ok := (fun k_ => (P0_ k_ ∨ w.heap.size ≤ k_))) (by (with_reducible repeat (first | apply Kd.V_alloc | apply Kd.V_drewN | apply Kd.V_drew)); exact HO_0.out) hg hat); have n1_ := Aside0.mk (Kd.V_afterv (ok := (fun k_ => (P0_ k_ ∨ w.heap.size ≤ k_))) (by (with_reducible repeat (first | apply Kd.V_alloc | apply Kd.V_drewN | apply Kd.V_drew)); exact HO_5.out) hg hat); have n2_ := Aside0.mk (Kd.V_afterv (ok := (fun k_ => (P0_ k_ ∨ w.heap.size ≤ k_))) (by (with_reducible repeat (first | apply Kd.V_alloc | apply Kd.V_drewN | apply Kd.V_drew)); exact HO248.out) hg hat); have n3_ := Aside0.mk (Kd.V_afterv (ok := (fun k_ => (P0_ k_ ∨ w.heap.size ≤ k_))) (by (with_reducible repeat (first | apply Kd.V_alloc | apply Kd.V_drewN | apply Kd.V_drew)); exact HO256.out) hg hat); have n4_ := Aside0.mk (hb); have n5_ := Aside0.mk (ho); clear HO_0; clear HO_5; clear HO248; clear HO256; clear HB; clear HO251; have HO_0 := n0_; have HO_5 := n1_; have HO248 := n2_; have HO256 := n3_; have HB := n4_; have HO259 := n5_; clear n0_ n1_ n2_ n3_ n4_ n5_; clear ho hb hg hat))
                                        go_roundg kj13
                                        case measure => have := HJ1.out; have := HK2.out; have := HJ13.out; omega
                                        case rel => exact ⟨(y257), (y252), H', ⟨by have := HJ1.out; have := HK2.out; have := HJ13.out; omega⟩, ⟨by (with_reducible repeat (first | apply Kd.V_alloc | apply Kd.V_drewN | apply Kd.V_drew)); exact HO_0.out⟩, ⟨by (with_reducible repeat (first | apply Kd.R_alloc | apply Kd.R_drewN | apply Kd.R_drew)); exact HO259.out⟩, ⟨by (with_reducible repeat (first | apply Kd.V_alloc | apply Kd.V_drewN | apply Kd.V_drew)); exact HO256.out⟩, ⟨by repeat (first | (with_reducible first | exact HB.out | apply below_alloc | apply pw_below_drewN | apply below_drew1) | exact HB.out)⟩⟩
                                      · rw [if_neg c26] at H
                                        exact absurd H (by simp)
                                    · rw [if_neg c25] at H
                                      have c25b0 : decide ((wrap64 ((wrap64 (rd x5_2 0)) - 1)) < 254) = false := decide_eq_false c25
                                      clear c25
                                      have H' := Aside0.mk H
                                      clear H
                                      have q31 : ((ji21) : Int) ≤ ((x5_2.length : Int) : Int) := of_decide_eq_true (by first | (with_reducible assumption) | assumption)
                                      obtain ⟨i031, hi031, _, hsz31, _⟩ := info_parts info5
                                      have hroom31 : x5_2.length ≤ co15 := (Kd.V_reads' HO_5.out).2.1
                                      have hC31 : Kd.F (Kd.int .u8) _ _ (some ad243) x5_2.length x5_2 := (Kd.V_at (base := w.heap.size) HO_5.out).2.2
                                      have ql31 : (1 : Int) ≤ ((ji21) : Int) := of_decide_eq_true (by first | (with_reducible assumption) | assumption)
                                      have hcut31 := cut_mid (P := Tryd.prog) 24 5 .i64 .i64 Tryd.underlying24 hi031 1 hsz31 (some ad243) x5_2.length co15 1 (ji21) (by omega) ql31 q31 hroom31
                                      have hr31 := Kd.F_mid (lo := (1 : Int).toNat) (hi := ((ji21) : Int).toNat) (c := co15) hC31 (by omega) (by omega) hroom31
                                      obtain ⟨A31, hA31⟩ : ∃ A1, A1 = (if co15 = (1 : Int).toNat then (some ad243) else ((some ad243) : Option Addr).map (·.add ((1 : Int).toNat * 1))) := ⟨_, rfl⟩
                                      obtain ⟨c31, hc31⟩ : ∃ c1, c1 = co15 - (1 : Int).toNat := ⟨_, rfl⟩
                                      have hy31 : y244.length = ((ji21) : Int).toNat - (1 : Int).toNat := (by rw [Ny244.out, List.length_drop, List.length_take] <;> omega)
                                      rw [show ((x5_2).take ((ji21) : Int).toNat).drop (1 : Int).toNat = y244 from Ny244.out.symm] at hr31
                                      replace hr31 : Kd.F (Kd.int .u8) _ _ A31 y244.length y244 := (by rw [hA31]; exact hr31)
                                      rw [← hy31, ← hA31, ← hc31] at hcut31
                                      have HO248 := Aside0.mk (show Kd.V (Kd.int .u8) 5 _ w.heap.size _ (.slice A31 y244.length c31) y244 from Kd.V_mk (by rw [hy31, hc31]; exact Nat.sub_le_sub_right (Nat.le_trans (by omega) hroom31) _) hr31)
                                      have HC248 := Aside0.mk (show y244.length ≤ c31 from by rw [hy31, hc31]; exact Nat.sub_le_sub_right (Nat.le_trans (by omega) hroom31) _)
                                      clear hr31 hC31 hroom31 hi031 hsz31 hc31
                                      have KY31 := Aside0.mk hy31
                                      have KA31 := Aside0.mk hA31
                                      clear hy31 hA31
                                      replace q31 := eq_true q31
                                      go_wp2_with (first | ((with_reducible refine gate_builtin (b := .append) (xs := #[.tmp 40, .tmp 44]) rfl ?_); (try (refine gate_guard (by rfl) ?_; dsimp only)); at_builtin; refine Kd.R_append_rows (Kd.int .u8) (w0 := w) w.heap.size rfl (.tmp 40) (.tmp 44) 24 5 (.int .u8 0) 1 rfl Tryd.underlying24 info5 rfl (by decide) (by omega) u4 x4_2 y244 _ _ _ (fun k_ => (w.heap.size ≤ k_)) (fun _ => False) rfl rfl ?aO ?aR (fun _ _ h => h) (fun _ h => h.elim) ?aF ?aB ?aS ?aL ?_; (case aR => repeat (first | exact (Kd.V_reads' HO248.out).2.2 | (with_reducible refine Kd.C_alloc ?_ _) | (with_reducible refine Kd.C_drewN ?_ _) | (with_reducible refine Kd.C_drew ?_))); (case aB => exact (by repeat (first | (with_reducible first | exact HB.out | apply below_alloc | apply pw_below_drewN | apply below_drew1) | exact HB.out))); (case aF => exact (fun k_ hk => (Nat.le_trans (below_size (by repeat (first | (with_reducible first | exact HB.out | apply below_alloc | apply pw_below_drewN | apply below_drew1) | exact HB.out))) hk))); (case aO => exact (by (with_reducible repeat (first | apply Kd.R_alloc | apply Kd.R_drewN | apply Kd.R_drew)); exact HO_4.out)); (case aS => exact (below_size (by repeat (first | (with_reducible first | exact HB.out | apply below_alloc | apply pw_below_drewN | apply below_drew1) | exact HB.out)))); (case aL => have := LMc20.out; omega); intro v250 w32 ho hb hg hat; rw [← Ny249.out] at ho; have n0_ := Aside0.mk (Kd.V_afterv (ok := (fun k_ => (P0_ k_ ∨ w.heap.size ≤ k_))) (by (with_reducible repeat (first | apply Kd.V_alloc | apply Kd.V_drewN | apply Kd.V_drew)); exact HO_0.out) hg hat); have n1_ := Aside0.mk (Kd.V_afterv (ok := (fun k_ => (P0_ k_ ∨ w.heap.size ≤ k_))) (by (with_reducible repeat (first | apply Kd.V_alloc | apply Kd.V_drewN | apply Kd.V_drew)); exact HO_5.out) hg hat); have n2_ := Aside0.mk (Kd.V_afterv (ok := (fun k_ => (P0_ k_ ∨ w.heap.size ≤ k_))) (by (with_reducible repeat (first | apply Kd.V_alloc | apply Kd.V_drewN | apply Kd.V_drew)); exact HO248.out) hg hat); have n3_ := Aside0.mk (hb); have n4_ := Aside0.mk (ho); clear HO_0; clear HO_5; clear HO248; clear HB; clear HO_4; have HO_0 := n0_; have HO_5 := n1_; have HO248 := n2_; have HB := n3_; have HO251 := n4_; clear n0_ n1_ n2_ n3_ n4_; clear ho hb hg hat; have q33 : ((ji21) : Int) ≤ ((x5_2.length : Int) : Int) := of_decide_eq_true (by first | (with_reducible assumption) | assumption); obtain ⟨i033, hi033, _, hsz33, _⟩ := info_parts info5; have hroom33 : x5_2.length ≤ co15 := (Kd.V_reads' HO_5.out).2.1; have hC33 : Kd.F (Kd.int .u8) _ _ (some ad243) x5_2.length x5_2 := (Kd.V_at (base := w.heap.size) HO_5.out).2.2; have q033 : (0 : Int) ≤ ((ji21) : Int) := of_decide_eq_true (by first | (with_reducible assumption) | assumption); have hcut33 := cut_from (P := Tryd.prog) 24 5 .i64 Tryd.underlying24 hi033 1 hsz33 (some ad243) x5_2.length co15 (ji21) q033 q33; have hr33 := Kd.F_cut (m := ((ji21) : Int).toNat) (c := co15) hC33 (by omega) hroom33; obtain ⟨A33, hA33⟩ : ∃ A1, A1 = (if co15 = ((ji21) : Int).toNat then (some ad243) else ((some ad243) : Option Addr).map (·.add (((ji21) : Int).toNat * 1))) := ⟨_, rfl⟩; obtain ⟨c33, hc33⟩ : ∃ c1, c1 = co15 - ((ji21) : Int).toNat := ⟨_, rfl⟩; have hy33 : y252.length = x5_2.length - ((ji21) : Int).toNat := (by rw [Ny252.out, List.length_drop] <;> omega); rw [show (x5_2).drop ((ji21) : Int).toNat = y252 from Ny252.out.symm] at hr33; replace hr33 : Kd.F (Kd.int .u8) _ _ A33 y252.length y252 := (by rw [hA33]; exact hr33); rw [← hy33, ← hA33, ← hc33] at hcut33; have HO256 := Aside0.mk (show Kd.V (Kd.int .u8) 5 _ w.heap.size _ (.slice A33 y252.length c33) y252 from Kd.V_mk (by rw [hy33, hc33]; exact Nat.sub_le_sub_right hroom33 _) hr33); have HC256 := Aside0.mk (show y252.length ≤ c33 from by rw [hy33, hc33]; exact Nat.sub_le_sub_right hroom33 _); clear hr33 hC33 hroom33 hi033 hsz33 hc33; have KY33 := Aside0.mk hy33; have KA33 := Aside0.mk hA33; clear hy33 hA33; replace q33 := eq_true q33))
                                      go_roundg kj13
                                      case measure => have := HJ1.out; have := HK2.out; have := HJ13.out; omega
                                      case rel => exact ⟨(y249), (y252), H', ⟨by have := HJ1.out; have := HK2.out; have := HJ13.out; omega⟩, ⟨by (with_reducible repeat (first | apply Kd.V_alloc | apply Kd.V_drewN | apply Kd.V_drew)); exact HO_0.out⟩, ⟨by (with_reducible repeat (first | apply Kd.R_alloc | apply Kd.R_drewN | apply Kd.R_drew)); exact HO251.out⟩, ⟨by (with_reducible repeat (first | apply Kd.V_alloc | apply Kd.V_drewN | apply Kd.V_drew)); exact HO256.out⟩, ⟨by repeat (first | (with_reducible first | exact HB.out | apply below_alloc | apply pw_below_drewN | apply below_drew1) | exact HB.out)⟩⟩
                                  · rw [if_neg c24] at H
                                    have c24b0 : decide (0 < (y252.length : Int)) = false := decide_eq_false c24
                                    have c24b1 : decide (0 < y252.length) = false := decide_eq_false (by omega)
                                    clear c24
                                    have H' := Aside0.mk H
                                    clear H
                                    have q34 : ((ji21) : Int) ≤ ((x5_2.length : Int) : Int) := of_decide_eq_true (by first | (with_reducible assumption) | assumption)
                                    obtain ⟨i034, hi034, _, hsz34, _⟩ := info_parts info5
                                    have hroom34 : x5_2.length ≤ co15 := (Kd.V_reads' HO_5.out).2.1
                                    have hC34 : Kd.F (Kd.int .u8) _ _ (some ad243) x5_2.length x5_2 := (Kd.V_at (base := w.heap.size) HO_5.out).2.2
                                    have ql34 : (1 : Int) ≤ ((ji21) : Int) := of_decide_eq_true (by first | (with_reducible assumption) | assumption)
                                    have hcut34 := cut_mid (P := Tryd.prog) 24 5 .i64 .i64 Tryd.underlying24 hi034 1 hsz34 (some ad243) x5_2.length co15 1 (ji21) (by omega) ql34 q34 hroom34
                                    have hr34 := Kd.F_mid (lo := (1 : Int).toNat) (hi := ((ji21) : Int).toNat) (c := co15) hC34 (by omega) (by omega) hroom34
                                    obtain ⟨A34, hA34⟩ : ∃ A1, A1 = (if co15 = (1 : Int).toNat then (some ad243) else ((some ad243) : Option Addr).map (·.add ((1 : Int).toNat * 1))) := ⟨_, rfl⟩
                                    obtain ⟨c34, hc34⟩ : ∃ c1, c1 = co15 - (1 : Int).toNat := ⟨_, rfl⟩
                                    have hy34 : y244.length = ((ji21) : Int).toNat - (1 : Int).toNat := (by rw [Ny244.out, List.length_drop, List.length_take] <;> omega)
                                    rw [show ((x5_2).take ((ji21) : Int).toNat).drop (1 : Int).toNat = y244 from Ny244.out.symm] at hr34
                                    replace hr34 : Kd.F (Kd.int .u8) _ _ A34 y244.length y244 := (by rw [hA34]; exact hr34)
                                    rw [← hy34, ← hA34, ← hc34] at hcut34
                                    have HO248 := Aside0.mk (show Kd.V (Kd.int .u8) 5 _ w.heap.size _ (.slice A34 y244.length c34) y244 from Kd.V_mk (by rw [hy34, hc34]; exact Nat.sub_le_sub_right (Nat.le_trans (by omega) hroom34) _) hr34)
                                    have HC248 := Aside0.mk (show y244.length ≤ c34 from by rw [hy34, hc34]; exact Nat.sub_le_sub_right (Nat.le_trans (by omega) hroom34) _)
                                    clear hr34 hC34 hroom34 hi034 hsz34 hc34
                                    have KY34 := Aside0.mk hy34
                                    have KA34 := Aside0.mk hA34
                                    clear hy34 hA34
                                    replace q34 := eq_true q34
                                    go_wp2_with (first | ((with_reducible refine gate_builtin (b := .append) (xs := #[.tmp 40, .tmp 44]) rfl ?_); (try (refine gate_guard (by rfl) ?_; dsimp only)); at_builtin; refine Kd.R_append_rows (Kd.int .u8) (w0 := w) w.heap.size rfl (.tmp 40) (.tmp 44) 24 5 (.int .u8 0) 1 rfl Tryd.underlying24 info5 rfl (by decide) (by omega) u4 x4_2 y244 _ _ _ (fun k_ => (w.heap.size ≤ k_)) (fun _ => False) rfl rfl ?aO ?aR (fun _ _ h => h) (fun _ h => h.elim) ?aF ?aB ?aS ?aL ?_; (case aR => repeat (first | exact (Kd.V_reads' HO248.out).2.2 | (with_reducible refine Kd.C_alloc ?_ _) | (with_reducible refine Kd.C_drewN ?_ _) | (with_reducible refine Kd.C_drew ?_))); (case aB => exact (by repeat (first | (with_reducible first | exact HB.out | apply below_alloc | apply pw_below_drewN | apply below_drew1) | exact HB.out))); (case aF => exact (fun k_ hk => (Nat.le_trans (below_size (by repeat (first | (with_reducible first | exact HB.out | apply below_alloc | apply pw_below_drewN | apply below_drew1) | exact HB.out))) hk))); (case aO => exact (by (with_reducible repeat (first | apply Kd.R_alloc | apply Kd.R_drewN | apply Kd.R_drew)); exact HO_4.out)); (case aS => exact (below_size (by repeat (first | (with_reducible first | exact HB.out | apply below_alloc | apply pw_below_drewN | apply below_drew1) | exact HB.out)))); (case aL => have := LMc20.out; omega); intro v250 w35 ho hb hg hat; rw [← Ny249.out] at ho; have n0_ := Aside0.mk (Kd.V_afterv (ok := (fun k_ => (P0_ k_ ∨ w.heap.size ≤ k_))) (by (with_reducible repeat (first | apply Kd.V_alloc | apply Kd.V_drewN | apply Kd.V_drew)); exact HO_0.out) hg hat); have n1_ := Aside0.mk (Kd.V_afterv (ok := (fun k_ => (P0_ k_ ∨ w.heap.size ≤ k_))) (by (with_reducible repeat (first | apply Kd.V_alloc | apply Kd.V_drewN | apply Kd.V_drew)); exact HO_5.out) hg hat); have n2_ := Aside0.mk (Kd.V_afterv (ok := (fun k_ => (P0_ k_ ∨ w.heap.size ≤ k_))) (by (with_reducible repeat (first | apply Kd.V_alloc | apply Kd.V_drewN | apply Kd.V_drew)); exact HO248.out) hg hat); have n3_ := Aside0.mk (hb); have n4_ := Aside0.mk (ho); clear HO_0; clear HO_5; clear HO248; clear HB; clear HO_4; have HO_0 := n0_; have HO_5 := n1_; have HO248 := n2_; have HB := n3_; have HO251 := n4_; clear n0_ n1_ n2_ n3_ n4_; clear ho hb hg hat; have q36 : ((ji21) : Int) ≤ ((x5_2.length : Int) : Int) := of_decide_eq_true (by first | (with_reducible assumption) | assumption); obtain ⟨i036, hi036, _, hsz36, _⟩ := info_parts info5; have hroom36 : x5_2.length ≤ co15 := (Kd.V_reads' HO_5.out).2.1; have hC36 : Kd.F (Kd.int .u8) _ _ (some ad243) x5_2.length x5_2 := (Kd.V_at (base := w.heap.size) HO_5.out).2.2; have q036 : (0 : Int) ≤ ((ji21) : Int) := of_decide_eq_true (by first | (with_reducible assumption) | assumption); have hcut36 := cut_from (P := Tryd.prog) 24 5 .i64 Tryd.underlying24 hi036 1 hsz36 (some ad243) x5_2.length co15 (ji21) q036 q36; have hr36 := Kd.F_cut (m := ((ji21) : Int).toNat) (c := co15) hC36 (by omega) hroom36; obtain ⟨A36, hA36⟩ : ∃ A1, A1 = (if co15 = ((ji21) : Int).toNat then (some ad243) else ((some ad243) : Option Addr).map (·.add (((ji21) : Int).toNat * 1))) := ⟨_, rfl⟩; obtain ⟨c36, hc36⟩ : ∃ c1, c1 = co15 - ((ji21) : Int).toNat := ⟨_, rfl⟩; have hy36 : y252.length = x5_2.length - ((ji21) : Int).toNat := (by rw [Ny252.out, List.length_drop] <;> omega); rw [show (x5_2).drop ((ji21) : Int).toNat = y252 from Ny252.out.symm] at hr36; replace hr36 : Kd.F (Kd.int .u8) _ _ A36 y252.length y252 := (by rw [hA36]; exact hr36); rw [← hy36, ← hA36, ← hc36] at hcut36; have HO256 := Aside0.mk (show Kd.V (Kd.int .u8) 5 _ w.heap.size _ (.slice A36 y252.length c36) y252 from Kd.V_mk (by rw [hy36, hc36]; exact Nat.sub_le_sub_right hroom36 _) hr36); have HC256 := Aside0.mk (show y252.length ≤ c36 from by rw [hy36, hc36]; exact Nat.sub_le_sub_right hroom36 _); clear hr36 hC36 hroom36 hi036 hsz36 hc36; have KY36 := Aside0.mk hy36; have KA36 := Aside0.mk hA36; clear hy36 hA36; replace q36 := eq_true q36))
                                    go_roundg kj13
                                    case measure => have := HJ1.out; have := HK2.out; have := HJ13.out; omega
                                    case rel => exact ⟨(y249), (y252), H', ⟨by have := HJ1.out; have := HK2.out; have := HJ13.out; omega⟩, ⟨by (with_reducible repeat (first | apply Kd.V_alloc | apply Kd.V_drewN | apply Kd.V_drew)); exact HO_0.out⟩, ⟨by (with_reducible repeat (first | apply Kd.R_alloc | apply Kd.R_drewN | apply Kd.R_drew)); exact HO251.out⟩, ⟨by (with_reducible repeat (first | apply Kd.V_alloc | apply Kd.V_drewN | apply Kd.V_drew)); exact HO256.out⟩, ⟨by repeat (first | (with_reducible first | exact HB.out | apply below_alloc | apply pw_below_drewN | apply below_drew1) | exact HB.out)⟩⟩
                                · rw [if_neg c22] at H
                                  exact absurd H (by simp)
                              · rw [if_neg c20] at H
                                exact absurd H (by simp)
                            · rw [if_neg c19] at H
                              exact absurd H (by simp)
                          · rw [if_neg c18] at H
                            exact absurd H (by simp)
                  · rw [if_neg c13] at H
                    exact absurd H (by simp)
                · rw [if_neg c12] at H
                  have c12b0 : decide (0 < (x5_2.length : Int)) = false := decide_eq_false c12
                  have c12b1 : decide (0 < x5_2.length) = false := decide_eq_false (by omega)
                  clear c12
                  replace H := Option.bind_eq_some_iff.mp H
                  obtain ⟨t260, A370, H⟩ := H
                  replace H : ((bytes_Equal.f t260 l0).bind fun t263 => (if t263 = true then (some (x4_2, 0)) else (some (([] : List Int), 2)))) = some (r1, r2) := H
                  have A37 := Aside0.mk A370
                  clear A370
                  replace H := Option.bind_eq_some_iff.mp H
                  obtain ⟨t263, A380, H⟩ := H
                  replace H : (if t263 = true then (some (x4_2, 0)) else (some (([] : List Int), 2))) = some (r1, r2) := H
                  have A38 := Aside0.mk A380
                  clear A380
                  by_cases c39 : t263 = true
                  · subst c39
                    have H1 : (some (x4_2, 0)) = some (r1, r2) := by rw [if_pos rfl] at H; exact H
                    clear H
                    have H := H1
                    clear H1
                    simp only [Option.some.injEq, Prod.mk.injEq] at H
                    obtain ⟨rfl, rfl⟩ := H
                    obtain ⟨Ao40, co40, eo40⟩ := Kd.V_slice HO_5.out
                    subst eo40
                    obtain ⟨Ao41, co41, eo41⟩ := Kd.R_slice HO_4.out
                    subst eo41
                    go_wp2_with (first | ((with_reducible refine gate_callee (f := 56) rfl ?_); refine goesL_ (some 61) rfl rfl Tryd.func56 (by kernel_rfl) rfl #[.slice Ao41 x4_2.length co41] rfl (by (try simp only [List.map_toArray, List.map_cons, List.map_nil]); first | done | rfl | (simp only [List.length_drop, List.length_take]; rfl)) ?_; (with_reducible refine (cobs_Encode.calls k2 (fun k_ => some k_ = (.slice Ao41 x4_2.length co41 : Value).ownBlock) _ _ x4_2 t260 _ ?side1 A37.out).mono ?_); (case side1 => exact Kd.R_V (Kd.R_tight rfl (HO_4.out))); rintro e w42 ⟨v261, rfl, ho0, hb⟩; refine ⟨_, rfl, ?_⟩; have n0_ := Aside0.mk (Kd.V_elder' (by (with_reducible repeat (first | apply Kd.V_alloc | apply Kd.V_drewN | apply Kd.V_drew)); exact HO_0.out) (Kd.R_base ho0) hb); have n1_ := Aside0.mk (Kd.R_elder' (by (with_reducible repeat (first | apply Kd.R_alloc | apply Kd.R_drewN | apply Kd.R_drew)); exact HO_4.out) (Kd.R_base ho0) hb); have n2_ := Aside0.mk (Kd.V_elder' (by (with_reducible repeat (first | apply Kd.V_alloc | apply Kd.V_drewN | apply Kd.V_drew)); exact HO_5.out) (Kd.R_base ho0) hb); have n3_ := Aside0.mk (Kd.R_lower (Kd.R_new' (Kd.R_newM (M := fun k_ => (w.heap.size ≤ k_)) (Kd.R_mono (ok' := fun k_ => True) ho0 (fun _ hk_ => trivial)) (below_size (by repeat (first | (with_reducible first | exact HB.out | apply below_alloc | apply pw_below_drewN | apply below_drew1) | exact HB.out))) (fun k_ h_ => h_)) (Kd.R_lt (by (with_reducible repeat (first | apply Kd.R_alloc | apply Kd.R_drewN | apply Kd.R_drew)); exact HO_4.out))) (below_size (by repeat (first | (with_reducible first | exact HB.out | apply below_alloc | apply pw_below_drewN | apply below_drew1) | exact HB.out)))); have n4_ := Aside0.mk (below_step (by repeat (first | (with_reducible first | exact HB.out | apply below_alloc | apply pw_below_drewN | apply below_drew1) | exact HB.out)) hb); clear HO_0; clear HO_4; clear HO_5; clear HB; have HO_0 := n0_; have HO_4 := n1_; have HO_5 := n2_; have HO262 := n3_; have HB := n4_; clear n0_ n1_ n2_ n3_ n4_; (try clear hb); (try clear hb2); (try clear hk); (try clear hi); (try clear ho0); obtain ⟨Ao43, co43, eo43⟩ := Kd.R_slice HO262.out; subst eo43) | ((with_reducible refine gate_callee (f := 55) rfl ?_); refine goesL_ (some 63) rfl rfl Tryd.func55 (by kernel_rfl) rfl #[.slice Ao43 t260.length co43, .slice A0 l0.length c0] rfl (by (try simp only [List.map_toArray, List.map_cons, List.map_nil]); first | done | rfl | (simp only [List.length_drop, List.length_take]; rfl)) ?_; (with_reducible refine (bytes_Equal.calls _ _ t260 _ _ l0 true _ ?side1 ?side2 ?side3 ?side4 A38.out).mono ?_); (case side1 => repeat (first | exact (Kd.R_reads' HO262.out).2.2 | (with_reducible refine Kd.C_alloc ?_ _) | (with_reducible refine Kd.C_drewN ?_ _) | (with_reducible refine Kd.C_drew ?_))); (case side2 => exact (Kd.R_reads' HO262.out).2.1); (case side3 => repeat (first | exact (Kd.V_reads' HO_0.out).2.2 | (with_reducible refine Kd.C_alloc ?_ _) | (with_reducible refine Kd.C_drewN ?_ _) | (with_reducible refine Kd.C_drew ?_))); (case side4 => exact (Kd.V_reads' HO_0.out).2.1); rintro e w' ⟨rfl, ⟨nd, rfl⟩⟩; refine ⟨_, rfl, ?_⟩))
                    go_ret2
                    exact ⟨_, by first | rfl | (simp [errW_none, errW_some] <;> rfl) | (simp only [← hji8]; first | rfl | (simp [errW_none, errW_some] <;> rfl)) | (simp [*, errW_none, errW_some] <;> rfl), by (with_reducible repeat (first | apply Kd.R_alloc | apply Kd.R_drewN | apply Kd.R_drew)); exact Kd.R_mono HO_4.out (fun _ hk => hk.1), by repeat (first | (with_reducible first | exact HB.out | apply below_alloc | apply pw_below_drewN | apply below_drew1) | exact HB.out)⟩
                  · replace c39 := Bool.eq_false_iff.mpr c39
                    subst c39
                    have H1 : (some (([] : List Int), 2)) = some (r1, r2) := by rw [if_neg (show ¬ (false = true) by decide)] at H; exact H
                    clear H
                    have H := H1
                    clear H1
                    simp only [Option.some.injEq, Prod.mk.injEq] at H
                    obtain ⟨rfl, rfl⟩ := H
                    obtain ⟨Ao44, co44, eo44⟩ := Kd.V_slice HO_5.out
                    subst eo44
                    obtain ⟨Ao45, co45, eo45⟩ := Kd.R_slice HO_4.out
                    subst eo45
                    go_wp2_with (first | ((with_reducible refine gate_callee (f := 56) rfl ?_); refine goesL_ (some 61) rfl rfl Tryd.func56 (by kernel_rfl) rfl #[.slice Ao45 x4_2.length co45] rfl (by (try simp only [List.map_toArray, List.map_cons, List.map_nil]); first | done | rfl | (simp only [List.length_drop, List.length_take]; rfl)) ?_; (with_reducible refine (cobs_Encode.calls k2 (fun k_ => some k_ = (.slice Ao45 x4_2.length co45 : Value).ownBlock) _ _ x4_2 t260 _ ?side1 A37.out).mono ?_); (case side1 => exact Kd.R_V (Kd.R_tight rfl (HO_4.out))); rintro e w46 ⟨v261, rfl, ho0, hb⟩; refine ⟨_, rfl, ?_⟩; have n0_ := Aside0.mk (Kd.V_elder' (by (with_reducible repeat (first | apply Kd.V_alloc | apply Kd.V_drewN | apply Kd.V_drew)); exact HO_0.out) (Kd.R_base ho0) hb); have n1_ := Aside0.mk (Kd.R_elder' (by (with_reducible repeat (first | apply Kd.R_alloc | apply Kd.R_drewN | apply Kd.R_drew)); exact HO_4.out) (Kd.R_base ho0) hb); have n2_ := Aside0.mk (Kd.V_elder' (by (with_reducible repeat (first | apply Kd.V_alloc | apply Kd.V_drewN | apply Kd.V_drew)); exact HO_5.out) (Kd.R_base ho0) hb); have n3_ := Aside0.mk (Kd.R_lower (Kd.R_new' (Kd.R_newM (M := fun k_ => (w.heap.size ≤ k_)) (Kd.R_mono (ok' := fun k_ => True) ho0 (fun _ hk_ => trivial)) (below_size (by repeat (first | (with_reducible first | exact HB.out | apply below_alloc | apply pw_below_drewN | apply below_drew1) | exact HB.out))) (fun k_ h_ => h_)) (Kd.R_lt (by (with_reducible repeat (first | apply Kd.R_alloc | apply Kd.R_drewN | apply Kd.R_drew)); exact HO_4.out))) (below_size (by repeat (first | (with_reducible first | exact HB.out | apply below_alloc | apply pw_below_drewN | apply below_drew1) | exact HB.out)))); have n4_ := Aside0.mk (below_step (by repeat (first | (with_reducible first | exact HB.out | apply below_alloc | apply pw_below_drewN | apply below_drew1) | exact HB.out)) hb); clear HO_0; clear HO_4; clear HO_5; clear HB; have HO_0 := n0_; have HO_4 := n1_; have HO_5 := n2_; have HO262 := n3_; have HB := n4_; clear n0_ n1_ n2_ n3_ n4_; (try clear hb); (try clear hb2); (try clear hk); (try clear hi); (try clear ho0); obtain ⟨Ao47, co47, eo47⟩ := Kd.R_slice HO262.out; subst eo47) | ((with_reducible refine gate_callee (f := 55) rfl ?_); refine goesL_ (some 63) rfl rfl Tryd.func55 (by kernel_rfl) rfl #[.slice Ao47 t260.length co47, .slice A0 l0.length c0] rfl (by (try simp only [List.map_toArray, List.map_cons, List.map_nil]); first | done | rfl | (simp only [List.length_drop, List.length_take]; rfl)) ?_; (with_reducible refine (bytes_Equal.calls _ _ t260 _ _ l0 false _ ?side1 ?side2 ?side3 ?side4 A38.out).mono ?_); (case side1 => repeat (first | exact (Kd.R_reads' HO262.out).2.2 | (with_reducible refine Kd.C_alloc ?_ _) | (with_reducible refine Kd.C_drewN ?_ _) | (with_reducible refine Kd.C_drew ?_))); (case side2 => exact (Kd.R_reads' HO262.out).2.1); (case side3 => repeat (first | exact (Kd.V_reads' HO_0.out).2.2 | (with_reducible refine Kd.C_alloc ?_ _) | (with_reducible refine Kd.C_drewN ?_ _) | (with_reducible refine Kd.C_drew ?_))); (case side4 => exact (Kd.V_reads' HO_0.out).2.1); rintro e w' ⟨rfl, ⟨nd, rfl⟩⟩; refine ⟨_, rfl, ?_⟩))
                    go_ret2
                    exact ⟨_, by first | rfl | (simp [errW_none, errW_some] <;> rfl) | (simp only [← hji8]; first | rfl | (simp [errW_none, errW_some] <;> rfl)) | (simp [*, errW_none, errW_some] <;> rfl), by first | exact Kd.R_nil _ _ _ _ _ | exact Kd.N_nil _ _ _ _ _ | exact Kd.V_nil _ _ _ _ _ | exact Kd.Q_nil _ _ _ _ _ | exact Kd.S_nil _ _ _ _ _, by repeat (first | (with_reducible first | exact HB.out | apply below_alloc | apply pw_below_drewN | apply below_drew1) | exact HB.out)⟩
          · rw [if_neg c10] at H
            exact absurd H (by simp)
        · rw [if_neg c9] at H
          exact absurd H (by simp)

-- NOT PRINTED: function 60 (cobs_Splitter_Write)

end Go.Proofs.YtfhnpphceeoeeaaDoor.PX
