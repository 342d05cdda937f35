/- Parts of the proof, merged in build order: PXx21, PXx22, Lx2, Lx3, MGen. -/
import Derived.Test.YtmpbkemicfmbaaaDoorY1
import Derived.Test.YtmpbkemicfmbaaaDoorY2
-- Written by a program of this session (wip/xprint.py, over the kit's print tool). Lean checks it.
namespace Go.Proofs.YtmpbkemicfmbaaaDoor.PX
open Go.RowKit Go.Proofs.YtmpbkemicfmbaaaDoorW.PrintWords Go.Proofs.YtmpbkemicfmbaaaDoorW.PrintLast Go.Proofs.YtmpbkemicfmbaaaDoorW.PrintMore
attribute [local go_sem] max2_int min2_int max_two min_two max_three min_three max_four min_four   -- for this text's walks alone
set_option linter.unusedVariables false
set_option linter.unusedSimpArgs false

/-! ### trickleref15_mark: function 48 -/
mutual
def trickleref15_mark.l0 : Nat → ByteArray → List ByteArray → Int → Int → Option (Int)
  | 0, _, _, _, _ => none
  | k + 1, x0, x3, x4, x5 => if x5 < (x3.length : Int) then (if 0 ≤ x5 then (if ((rdOf ByteArray.empty x3 x5).size : Int) ≤ (x0.size : Int) then (if 0 ≤ ((rdOf ByteArray.empty x3 x5).size : Int) then (if (x0.extract 0 (((rdOf ByteArray.empty x3 x5).size : Int) : Int).toNat).toList = (rdOf ByteArray.empty x3 x5).toList then (trickleref15_mark.j1 k x0 x3 x4 x5 (decide (((rdOf ByteArray.empty x3 x5).size : Int) > x4))) else (trickleref15_mark.j1 k x0 x3 x4 x5 false)) else (none)) else (trickleref15_mark.j1 k x0 x3 x4 x5 false)) else (none)) else (some x4)
def trickleref15_mark.j1 : Nat → ByteArray → List ByteArray → Int → Int → Bool → Option (Int)
  | 0, _, _, _, _, _ => none
  | k + 1, x0, x3, x4, x5, x43 => if x43 = true then (if 0 ≤ x5 then (if x5 < (x3.length : Int) then (trickleref15_mark.l0 k x0 x3 ((rdOf ByteArray.empty x3 x5).size : Int) (wrap64 (x5 + 1))) else (none)) else (none)) else (trickleref15_mark.l0 k x0 x3 x4 (wrap64 (x5 + 1)))
end
def trickleref15_mark.f (k : Nat) (a0 : ByteArray) : Option (Int) := (trickleref15_Punctuation.f).bind fun t185 => (trickleref15_mark.l0 k a0 t185 0 0)
set_option maxHeartbeats 8000000 in
set_option maxRecDepth 100000 in
theorem trickleref15_mark.calls (k : Nat) (a0 : ByteArray) (r : Int) (w : World) (h : trickleref15_mark.f k a0 = some r) :
    Calls Tryd.prog 48 #[.string a0] w fun e w' => e = .returned (.int .i64 r) ∧ Below w.heap.size w w' := by
  have HB := Aside0.mk (Below.refl w.heap.size w)
  have H : ((trickleref15_Punctuation.f).bind fun t185 => (trickleref15_mark.l0 k a0 t185 0 0)) = some r := h
  clear h
  replace H := Option.bind_eq_some_iff.mp H
  obtain ⟨t185, A20, H⟩ := H
  replace H : (trickleref15_mark.l0 k a0 t185 0 0) = some r := H
  have A2 := Aside0.mk A20
  clear A20
  have H' := Aside0.mk H
  clear H
  go_enter Tryd.func48, Tryd.ntmps48
  go_wp2_with (first | (go_at_call 22; (with_reducible refine (trickleref15_Punctuation.calls  t185 _ A2.out).mono ?_); rintro e w3 ⟨v186, rfl, ho0, hb⟩; have n0_ := Aside0.mk (Kd.R_lower ho0 (below_size (by repeat (first | (with_reducible first | exact HB.out | apply below_alloc | apply pw_below_drewN | apply below_drew1) | exact HB.out)))); have n1_ := Aside0.mk (below_step (by repeat (first | (with_reducible first | exact HB.out | apply below_alloc | apply pw_below_drewN | apply below_drew1) | exact HB.out)) hb); clear HB; have HO187 := n0_; have HB := n1_; clear n0_ n1_; (try clear hb); (try clear hb2); (try clear hk); (try clear hi); (try clear ho0)))
  repeat (go_quiet (first | (go_at_call 22; (with_reducible refine (trickleref15_Punctuation.calls  t185 _ A2.out).mono ?_); rintro e w3 ⟨v186, rfl, ho0, hb⟩; have n0_ := Aside0.mk (Kd.R_lower ho0 (below_size (by repeat (first | (with_reducible first | exact HB.out | apply below_alloc | apply pw_below_drewN | apply below_drew1) | exact HB.out)))); have n1_ := Aside0.mk (below_step (by repeat (first | (with_reducible first | exact HB.out | apply below_alloc | apply pw_below_drewN | apply below_drew1) | exact HB.out)) hb); clear HB; have HO187 := n0_; have HB := n1_; clear n0_ n1_; (try clear hb); (try clear hb2); (try clear hk); (try clear hi); (try clear ho0))); try go_wp2_with (first | (go_at_call 22; (with_reducible refine (trickleref15_Punctuation.calls  t185 _ A2.out).mono ?_); rintro e w3 ⟨v186, rfl, ho0, hb⟩; have n0_ := Aside0.mk (Kd.R_lower ho0 (below_size (by repeat (first | (with_reducible first | exact HB.out | apply below_alloc | apply pw_below_drewN | apply below_drew1) | exact HB.out)))); have n1_ := Aside0.mk (below_step (by repeat (first | (with_reducible first | exact HB.out | apply below_alloc | apply pw_below_drewN | apply below_drew1) | exact HB.out)) hb); clear HB; have HO187 := n0_; have HB := n1_; clear n0_ n1_; (try clear hb); (try clear hb2); (try clear hk); (try clear hi); (try clear ho0))))
  go_loopg [4, 5] k (fun kq v4 v5 w' => ∃ (x4_1 : Int) (x5_1 : Int), v4 = .int .i64 x4_1 ∧ v5 = .int .i64 x5_1 ∧ Aside0 (trickleref15_mark.l0 kq a0 t185 x4_1 x5_1 = some r) ∧ Aside0 (kq ≤ k) ∧ Aside0 (Kd.R Kd.string 9 w' w.heap.size (fun _ => True) v186 t185) ∧ Aside0 (Below w.heap.size w w'))
  case atStart => exact ⟨(0), (0), (by first | rfl | (simp; done) | (simp [*]; done)), (by first | rfl | (simp; done) | (simp [*]; done)), H', ⟨Nat.le_refl _⟩, ⟨by (with_reducible repeat (first | apply Kd.R_alloc | apply Kd.R_drewN | apply Kd.R_drew)); exact HO187.out⟩, ⟨by repeat (first | (with_reducible first | exact HB.out | apply below_alloc | apply pw_below_drewN | apply below_drew1) | exact HB.out)⟩⟩
  case round =>
    clear H'
    try clear p2
    obtain ⟨x4_1, x5_1, rfl, rfl, HA, HK1, HO_3, HB⟩ := hrel
    cases gk with
    | zero => exact absurd HA.out (by simp [trickleref15_mark.l0])
    | succ k1 =>
      have H := HA.out
      clear HA
      simp only [trickleref15_mark.l0] at H
      by_cases c4 : x5_1 < (t185.length : Int)
      · rw [if_pos c4] at H
        have c4b0 : decide (x5_1 < (t185.length : Int)) = true := decide_eq_true c4
        clear c4
        have HC5 := Aside0.mk H
        clear H
        obtain ⟨Ao6, co6, eo6⟩ := Kd.R_slice HO_3.out
        subst eo6
        go_upto_region 6 with (fail)
        repeat (go_quiet (fail); go_upto_region 6 with (fail))
        go_cut [43] (fun v43 wc => ∃ (kq : Nat) (x43_4 : Bool), v43 = .bool x43_4 ∧ Aside0 (trickleref15_mark.j1 kq a0 t185 x4_1 x5_1 x43_4 = some r) ∧ Aside0 (kq ≤ k1) ∧ Aside0 (Kd.R Kd.string 9 wc w.heap.size (fun _ => True) (.slice Ao6 t185.length co6) t185) ∧ Aside0 (Below w.heap.size w wc))
        case first =>
          have H := HC5.out
          clear HC5
          by_cases c7 : 0 ≤ x5_1
          · rw [if_pos c7] at H
            have c7b0 : decide (0 ≤ x5_1) = true := decide_eq_true c7
            clear c7
            (first | rw [c7b0] | (simp only [i64_w, i32_w]; rw [c7b0]) | skip)
            by_cases c8 : ((rdOf ByteArray.empty t185 x5_1).size : Int) ≤ (a0.size : Int)
            · rw [if_pos c8] at H
              have c8b0 : decide (((rdOf ByteArray.empty t185 x5_1).size : Int) ≤ (a0.size : Int)) = true := decide_eq_true c8
              have c8b1 : decide ((rdOf ByteArray.empty t185 x5_1).size ≤ a0.size) = true := decide_eq_true (Int.ofNat_le.mp c8)
              have c8n := eq_true (Int.ofNat_le.mp c8)
              clear c8
              by_cases c9 : 0 ≤ ((rdOf ByteArray.empty t185 x5_1).size : Int)
              · rw [if_pos c9] at H
                have c9b0 := eq_true c9
                have c9b1 : decide (0 ≤ ((rdOf ByteArray.empty t185 x5_1).size : Int)) = true := decide_eq_true c9
                clear c9
                have c10b0 := eq_true (of_decide_eq_true (by first | (with_reducible assumption) | assumption) : ((rdOf ByteArray.empty t185 x5_1).size : Int) ≤ (a0.size : Int))
                by_cases c11 : (a0.extract 0 (((rdOf ByteArray.empty t185 x5_1).size : Int) : Int).toNat).toList = (rdOf ByteArray.empty t185 x5_1).toList
                · rw [if_pos c11] at H
                  have c11b0 : ((a0.extract 0 (((rdOf ByteArray.empty t185 x5_1).size : Int) : Int).toNat).toList == (rdOf ByteArray.empty t185 x5_1).toList) = true := beq_iff_eq.mpr c11
                  have c11n : ((a0.extract 0 (rdOf ByteArray.empty t185 x5_1).size).toList == (rdOf ByteArray.empty t185 x5_1).toList) = true := c11b0
                  have c11b1 : ((a0.extract 0 (((rdOf ByteArray.empty t185 x5_1).size : Int) : Int).toNat).toList != (rdOf ByteArray.empty t185 x5_1).toList) = false := bne_eq_false_iff_eq.mpr c11
                  clear c11
                  have H' := Aside0.mk H
                  clear H
                  have p188 : 0 ≤ (x5_1 : Int) := of_decide_eq_true (by first | (with_reducible assumption) | assumption)
                  have q188 : x5_1 < (t185.length : Int) := of_decide_eq_true (by first | (with_reducible assumption) | assumption)
                  obtain ⟨ad188, e188, hx188_0⟩ := Kd.at_string (Kd.R_reads' HO_3.out).2.2 x5_1 p188 q188
                  cases e188
                  replace p188 := eq_true p188
                  replace q188 := eq_true q188
                  have p189 : 0 ≤ (x5_1 : Int) := of_decide_eq_true (by first | (with_reducible assumption) | assumption)
                  have q189 : x5_1 < (t185.length : Int) := of_decide_eq_true (by first | (with_reducible assumption) | assumption)
                  obtain ⟨ad189, e189, hx189_0⟩ := Kd.at_string (Kd.R_reads' HO_3.out).2.2 x5_1 p189 q189
                  obtain rfl : ad188 = ad189 := (by injection e189)
                  replace p189 := eq_true p189
                  replace q189 := eq_true q189
                  have p190 : 0 ≤ (x5_1 : Int) := of_decide_eq_true (by first | (with_reducible assumption) | assumption)
                  have q190 : x5_1 < (t185.length : Int) := of_decide_eq_true (by first | (with_reducible assumption) | assumption)
                  obtain ⟨ad190, e190, hx190_0⟩ := Kd.at_string (Kd.R_reads' HO_3.out).2.2 x5_1 p190 q190
                  obtain rfl : ad188 = ad190 := (by injection e190)
                  replace p190 := eq_true p190
                  replace q190 := eq_true q190
                  have p191 : 0 ≤ (x5_1 : Int) := of_decide_eq_true (by first | (with_reducible assumption) | assumption)
                  have q191 : x5_1 < (t185.length : Int) := of_decide_eq_true (by first | (with_reducible assumption) | assumption)
                  obtain ⟨ad191, e191, hx191_0⟩ := Kd.at_string (Kd.R_reads' HO_3.out).2.2 x5_1 p191 q191
                  obtain rfl : ad188 = ad191 := (by injection e191)
                  replace p191 := eq_true p191
                  replace q191 := eq_true q191
                  go_wp2
                  repeat (go_quiet (fail); try go_wp2)
                  go_meet
                  case rel => exact ⟨_, (decide (((rdOf ByteArray.empty t185 x5_1).size : Int) > x4_1)), (by first | rfl | (simp; done) | (simp [*]; done)), H', ⟨by have := HK1.out; first | omega | exact Nat.le_refl _⟩, ⟨by (with_reducible repeat (first | apply Kd.R_alloc | apply Kd.R_drewN | apply Kd.R_drew)); exact HO_3.out⟩, ⟨by repeat (first | (with_reducible first | exact HB.out | apply below_alloc | apply pw_below_drewN | apply below_drew1) | exact HB.out)⟩⟩
                · rw [if_neg c11] at H
                  have c11b0 : ((a0.extract 0 (((rdOf ByteArray.empty t185 x5_1).size : Int) : Int).toNat).toList == (rdOf ByteArray.empty t185 x5_1).toList) = false := beq_eq_false_iff_ne.mpr c11
                  have c11n : ((a0.extract 0 (rdOf ByteArray.empty t185 x5_1).size).toList == (rdOf ByteArray.empty t185 x5_1).toList) = false := c11b0
                  have c11b1 : ((a0.extract 0 (((rdOf ByteArray.empty t185 x5_1).size : Int) : Int).toNat).toList != (rdOf ByteArray.empty t185 x5_1).toList) = true := bne_iff_ne.mpr c11
                  have H' := Aside0.mk H
                  clear H
                  have p188 : 0 ≤ (x5_1 : Int) := of_decide_eq_true (by first | (with_reducible assumption) | assumption)
                  have q188 : x5_1 < (t185.length : Int) := of_decide_eq_true (by first | (with_reducible assumption) | assumption)
                  obtain ⟨ad188, e188, hx188_0⟩ := Kd.at_string (Kd.R_reads' HO_3.out).2.2 x5_1 p188 q188
                  cases e188
                  replace p188 := eq_true p188
                  replace q188 := eq_true q188
                  have p189 : 0 ≤ (x5_1 : Int) := of_decide_eq_true (by first | (with_reducible assumption) | assumption)
                  have q189 : x5_1 < (t185.length : Int) := of_decide_eq_true (by first | (with_reducible assumption) | assumption)
                  obtain ⟨ad189, e189, hx189_0⟩ := Kd.at_string (Kd.R_reads' HO_3.out).2.2 x5_1 p189 q189
                  obtain rfl : ad188 = ad189 := (by injection e189)
                  replace p189 := eq_true p189
                  replace q189 := eq_true q189
                  have p190 : 0 ≤ (x5_1 : Int) := of_decide_eq_true (by first | (with_reducible assumption) | assumption)
                  have q190 : x5_1 < (t185.length : Int) := of_decide_eq_true (by first | (with_reducible assumption) | assumption)
                  obtain ⟨ad190, e190, hx190_0⟩ := Kd.at_string (Kd.R_reads' HO_3.out).2.2 x5_1 p190 q190
                  obtain rfl : ad188 = ad190 := (by injection e190)
                  replace p190 := eq_true p190
                  replace q190 := eq_true q190
                  go_wp2
                  repeat (go_quiet (fail); try go_wp2)
                  go_meet
                  case rel => exact ⟨_, (false), (by first | rfl | (simp; done) | (simp [*]; done)), H', ⟨by have := HK1.out; first | omega | exact Nat.le_refl _⟩, ⟨by (with_reducible repeat (first | apply Kd.R_alloc | apply Kd.R_drewN | apply Kd.R_drew)); exact HO_3.out⟩, ⟨by repeat (first | (with_reducible first | exact HB.out | apply below_alloc | apply pw_below_drewN | apply below_drew1) | exact HB.out)⟩⟩
              · rw [if_neg c9] at H
                exact absurd H (by simp)
            · rw [if_neg c8] at H
              have c8b0 : decide (((rdOf ByteArray.empty t185 x5_1).size : Int) ≤ (a0.size : Int)) = false := decide_eq_false c8
              have c8b1 : decide ((rdOf ByteArray.empty t185 x5_1).size ≤ a0.size) = false := decide_eq_false (fun h => c8 (Int.ofNat_le.mpr h))
              clear c8
              have H' := Aside0.mk H
              clear H
              have p188 : 0 ≤ (x5_1 : Int) := of_decide_eq_true (by first | (with_reducible assumption) | assumption)
              have q188 : x5_1 < (t185.length : Int) := of_decide_eq_true (by first | (with_reducible assumption) | assumption)
              obtain ⟨ad188, e188, hx188_0⟩ := Kd.at_string (Kd.R_reads' HO_3.out).2.2 x5_1 p188 q188
              cases e188
              replace p188 := eq_true p188
              replace q188 := eq_true q188
              go_wp2
              repeat (go_quiet (fail); try go_wp2)
              go_meet
              case rel => exact ⟨_, (false), (by first | rfl | (simp; done) | (simp [*]; done)), H', ⟨by have := HK1.out; first | omega | exact Nat.le_refl _⟩, ⟨by (with_reducible repeat (first | apply Kd.R_alloc | apply Kd.R_drewN | apply Kd.R_drew)); exact HO_3.out⟩, ⟨by repeat (first | (with_reducible first | exact HB.out | apply below_alloc | apply pw_below_drewN | apply below_drew1) | exact HB.out)⟩⟩
          · rw [if_neg c7] at H
            exact absurd H (by simp)
        case rest =>
          clear HC5
          try clear c1
          try clear p1
          try clear q1
          try clear hx1
          try clear p2
          try clear c4
          try clear c4b0
          try clear c7
          try clear c7b0
          try clear c8
          try clear c8b0
          try clear c8b1
          try clear c9
          try clear c9b0
          try clear c9b1
          try clear c10
          try clear c10b0
          try clear c11
          try clear c11b0
          try clear c11b1
          try clear hx188_0
          try clear hx189_0
          try clear hx190_0
          try clear hx191_0
          try clear p188
          try clear p189
          try clear p190
          try clear p191
          try clear p2
          try clear q188
          try clear q189
          try clear q190
          try clear q191
          obtain ⟨kq, x43_4, rfl, HA, HJ4, HO_3, HB⟩ := hcut
          cases kq with
          | zero => exact absurd HA.out (by simp [trickleref15_mark.j1])
          | succ kj4 =>
            have H := HA.out
            clear HA
            simp only [trickleref15_mark.j1] at H
            by_cases c12 : x43_4 = true
            · subst c12
              have H1 : (if 0 ≤ x5_1 then (if x5_1 < (t185.length : Int) then (trickleref15_mark.l0 kj4 a0 t185 ((rdOf ByteArray.empty t185 x5_1).size : Int) (wrap64 (x5_1 + 1))) else (none)) else (none)) = some r := by rw [if_pos rfl] at H; exact H
              clear H
              have H := H1
              clear H1
              by_cases c13 : 0 ≤ x5_1
              · rw [if_pos c13] at H
                have c13b0 : decide (0 ≤ x5_1) = true := decide_eq_true c13
                clear c13
                by_cases c14 : x5_1 < (t185.length : Int)
                · rw [if_pos c14] at H
                  have c14b0 : decide (x5_1 < (t185.length : Int)) = true := decide_eq_true c14
                  clear c14
                  have H' := Aside0.mk H
                  clear H
                  have p192 : 0 ≤ (x5_1 : Int) := of_decide_eq_true (by first | (with_reducible assumption) | assumption)
                  have q192 : x5_1 < (t185.length : Int) := of_decide_eq_true (by first | (with_reducible assumption) | assumption)
                  obtain ⟨ad192, e192, hx192_0⟩ := Kd.at_string (Kd.R_reads' HO_3.out).2.2 x5_1 p192 q192
                  cases e192
                  replace p192 := eq_true p192
                  replace q192 := eq_true q192
                  go_wp2
                  repeat (go_quiet (fail); try go_wp2)
                  go_roundg kj4
                  case measure => have := HK1.out; have := HJ4.out; omega
                  case rel => exact ⟨(((rdOf ByteArray.empty t185 x5_1).size : Int)), (wrap64 (x5_1 + 1)), (by first | rfl | (simp; done) | (simp [*]; done)), (by first | rfl | (simp; done) | (simp [*]; done)), H', ⟨by have := HK1.out; have := HJ4.out; omega⟩, ⟨by (with_reducible repeat (first | apply Kd.R_alloc | apply Kd.R_drewN | apply Kd.R_drew)); exact HO_3.out⟩, ⟨by repeat (first | (with_reducible first | exact HB.out | apply below_alloc | apply pw_below_drewN | apply below_drew1) | exact HB.out)⟩⟩
                · rw [if_neg c14] at H
                  exact absurd H (by simp)
              · rw [if_neg c13] at H
                exact absurd H (by simp)
            · replace c12 := Bool.eq_false_iff.mpr c12
              subst c12
              have H1 : (trickleref15_mark.l0 kj4 a0 t185 x4_1 (wrap64 (x5_1 + 1))) = some r := by rw [if_neg (show ¬ (false = true) by decide)] at H; exact H
              clear H
              have H := H1
              clear H1
              have H' := Aside0.mk H
              clear H
              go_wp2
              repeat (go_quiet (fail); try go_wp2)
              go_roundg kj4
              case measure => have := HK1.out; have := HJ4.out; omega
              case rel => exact ⟨(x4_1), (wrap64 (x5_1 + 1)), (by first | rfl | (simp; done) | (simp [*]; done)), (by first | rfl | (simp; done) | (simp [*]; done)), H', ⟨by have := HK1.out; have := HJ4.out; omega⟩, ⟨by (with_reducible repeat (first | apply Kd.R_alloc | apply Kd.R_drewN | apply Kd.R_drew)); exact HO_3.out⟩, ⟨by repeat (first | (with_reducible first | exact HB.out | apply below_alloc | apply pw_below_drewN | apply below_drew1) | exact HB.out)⟩⟩
      · rw [if_neg c4] at H
        have c4b0 : decide (x5_1 < (t185.length : Int)) = false := decide_eq_false c4
        clear c4
        obtain rfl := Option.some.inj H
        obtain ⟨Ao15, co15, eo15⟩ := Kd.R_slice HO_3.out
        subst eo15
        go_wp2
        repeat (go_quiet (fail); try go_wp2)
        go_ret
        exact ⟨by first | rfl | (simp [errW_none, errW_some] <;> rfl) | (simp [*, errW_none, errW_some] <;> rfl), by repeat (first | (with_reducible first | exact HB.out | apply below_alloc | apply pw_below_drewN | apply below_drew1) | exact HB.out)⟩

end Go.Proofs.YtmpbkemicfmbaaaDoor.PX
-- Written by a program of this session (wip/xprint.py, over the kit's print tool). Lean checks it.
namespace Go.Proofs.YtmpbkemicfmbaaaDoor.PX
open Go.RowKit Go.Proofs.YtmpbkemicfmbaaaDoorW.PrintWords Go.Proofs.YtmpbkemicfmbaaaDoorW.PrintLast Go.Proofs.YtmpbkemicfmbaaaDoorW.PrintMore
attribute [local go_sem] max2_int min2_int max_two min_two max_three min_three max_four min_four   -- for this text's walks alone
set_option linter.unusedVariables false
set_option linter.unusedSimpArgs false

/-! ### trickleref15_one: function 29 -/
mutual
def trickleref15_one.j1 : Nat → ByteArray → Int → Int → Option (Int × ByteArray × Int × Int)
  | 0, _, _, _ => none
  | k + 1, x0, x3, x4 => if x4 > 32767 then (trickleref15_one.j2 k x0 x3 x4 true) else (if x3 > 1 then (if 0 < (x0.size : Int) then (trickleref15_one.j2 k x0 x3 x4 ((bt x0 0) == 48)) else (none)) else (trickleref15_one.j2 k x0 x3 x4 false))
def trickleref15_one.j2 : Nat → ByteArray → Int → Int → Bool → Option (Int × ByteArray × Int × Int)
  | 0, _, _, _, _ => none
  | k + 1, x0, x3, x4, x60 => if x60 = true then (if 0 ≤ x3 then (if x3 ≤ (x0.size : Int) then (some (5, x0.extract 0 (x3 : Int).toNat, 0, 0)) else (none)) else (none)) else (if 0 ≤ x3 then (if x3 ≤ (x0.size : Int) then (some (2, x0.extract 0 (x3 : Int).toNat, IntKind.i16.wrap (x4), 0)) else (none)) else (none))
def trickleref15_one.l0 : Nat → ByteArray → Int → Int → Int → Option (Int × ByteArray × Int × Int)
  | 0, _, _, _, _ => none
  | k + 1, x0, x3, x4, x5 => if x5 < x3 then (if x4 ≤ 32767 then (if 0 ≤ x5 then (if x5 < (x0.size : Int) then (trickleref15_one.l0 k x0 x3 (wrap64 ((wrap64 (10 * x4)) + (((bt x0 x5) - 48) % 256))) (wrap64 (x5 + 1))) else (none)) else (none)) else (trickleref15_one.j1 k x0 x3 x4)) else (trickleref15_one.j1 k x0 x3 x4)
end
def trickleref15_one.f (k : Nat) (a0 : ByteArray) : Option (Int × ByteArray × Int × Int) := (trickleref15_word.f k a0).bind fun t194 => (if t194 > 0 then ((trickleref15_Keywords.f).bind fun t195 => (if 0 ≤ t194 then (if t194 ≤ (a0.size : Int) then ((trickleref15_Has.f k t195 (a0.extract 0 (t194 : Int).toNat)).bind fun t198 => (if t198 = true then (some (3, a0.extract 0 (t194 : Int).toNat, 0, 0)) else (if t194 ≤ 32 then (some (1, a0.extract 0 (t194 : Int).toNat, 0, 0)) else (some (5, a0.extract 0 (t194 : Int).toNat, 0, 0))))) else (none)) else (none))) else ((trickleref15_number.f k a0).bind fun t199 => (if t199 > 0 then (trickleref15_one.l0 k a0 t199 0 0) else ((trickleref15_mark.f k a0).bind fun t200 => (if t200 > 0 then (if 0 ≤ t200 then (if t200 ≤ (a0.size : Int) then (some (4, a0.extract 0 (t200 : Int).toNat, 0, 0)) else (none)) else (none)) else (if 0 ≤ 1 then (if 1 ≤ (a0.size : Int) then (some (5, a0.extract 0 1, 0, 0)) else (none)) else (none)))))))
set_option maxHeartbeats 8000000 in
set_option maxRecDepth 100000 in
theorem trickleref15_one.calls (k : Nat) (a0 : ByteArray) (r1 : Int) (r2 : ByteArray) (r3 : Int) (r4 : Int) (w : World) (h : trickleref15_one.f k a0 = some (r1, r2, r3, r4)) :
    Calls Tryd.prog 29 #[.string a0] w fun e w' => e = .returned (.agg #[.int .i64 r1, .string r2, .int .i16 r3, .int .i64 r4]) ∧ Below w.heap.size w w' := by
  have hu32 := Tryd.underlying32
  have HB := Aside0.mk (Below.refl w.heap.size w)
  have H : ((trickleref15_word.f k a0).bind fun t194 => (if t194 > 0 then ((trickleref15_Keywords.f).bind fun t195 => (if 0 ≤ t194 then (if t194 ≤ (a0.size : Int) then ((trickleref15_Has.f k t195 (a0.extract 0 (t194 : Int).toNat)).bind fun t198 => (if t198 = true then (some (3, a0.extract 0 (t194 : Int).toNat, 0, 0)) else (if t194 ≤ 32 then (some (1, a0.extract 0 (t194 : Int).toNat, 0, 0)) else (some (5, a0.extract 0 (t194 : Int).toNat, 0, 0))))) else (none)) else (none))) else ((trickleref15_number.f k a0).bind fun t199 => (if t199 > 0 then (trickleref15_one.l0 k a0 t199 0 0) else ((trickleref15_mark.f k a0).bind fun t200 => (if t200 > 0 then (if 0 ≤ t200 then (if t200 ≤ (a0.size : Int) then (some (4, a0.extract 0 (t200 : Int).toNat, 0, 0)) else (none)) else (none)) else (if 0 ≤ 1 then (if 1 ≤ (a0.size : Int) then (some (5, a0.extract 0 1, 0, 0)) else (none)) else (none)))))))) = some (r1, r2, r3, r4) := h
  clear h
  replace H := Option.bind_eq_some_iff.mp H
  obtain ⟨t194, A20, H⟩ := H
  replace H : (if t194 > 0 then ((trickleref15_Keywords.f).bind fun t195 => (if 0 ≤ t194 then (if t194 ≤ (a0.size : Int) then ((trickleref15_Has.f k t195 (a0.extract 0 (t194 : Int).toNat)).bind fun t198 => (if t198 = true then (some (3, a0.extract 0 (t194 : Int).toNat, 0, 0)) else (if t194 ≤ 32 then (some (1, a0.extract 0 (t194 : Int).toNat, 0, 0)) else (some (5, a0.extract 0 (t194 : Int).toNat, 0, 0))))) else (none)) else (none))) else ((trickleref15_number.f k a0).bind fun t199 => (if t199 > 0 then (trickleref15_one.l0 k a0 t199 0 0) else ((trickleref15_mark.f k a0).bind fun t200 => (if t200 > 0 then (if 0 ≤ t200 then (if t200 ≤ (a0.size : Int) then (some (4, a0.extract 0 (t200 : Int).toNat, 0, 0)) else (none)) else (none)) else (if 0 ≤ 1 then (if 1 ≤ (a0.size : Int) then (some (5, a0.extract 0 1, 0, 0)) else (none)) else (none))))))) = some (r1, r2, r3, r4) := H
  have A2 := Aside0.mk A20
  clear A20
  by_cases c3 : t194 > 0
  · rw [if_pos c3] at H
    have c3b0 : decide (0 < t194) = true := decide_eq_true c3
    clear c3
    replace H := Option.bind_eq_some_iff.mp H
    obtain ⟨t195, A40, H⟩ := H
    replace H : (if 0 ≤ t194 then (if t194 ≤ (a0.size : Int) then ((trickleref15_Has.f k t195 (a0.extract 0 (t194 : Int).toNat)).bind fun t198 => (if t198 = true then (some (3, a0.extract 0 (t194 : Int).toNat, 0, 0)) else (if t194 ≤ 32 then (some (1, a0.extract 0 (t194 : Int).toNat, 0, 0)) else (some (5, a0.extract 0 (t194 : Int).toNat, 0, 0))))) else (none)) else (none)) = some (r1, r2, r3, r4) := H
    have A4 := Aside0.mk A40
    clear A40
    by_cases c5 : 0 ≤ t194
    · rw [if_pos c5] at H
      have c5b0 := eq_true c5
      have c5b1 : decide (0 ≤ t194) = true := decide_eq_true c5
      clear c5
      by_cases c6 : t194 ≤ (a0.size : Int)
      · rw [if_pos c6] at H
        have c6b0 := eq_true c6
        have c6b1 : decide (t194 ≤ (a0.size : Int)) = true := decide_eq_true c6
        clear c6
        replace H := Option.bind_eq_some_iff.mp H
        obtain ⟨t198, A70, H⟩ := H
        replace H : (if t198 = true then (some (3, a0.extract 0 (t194 : Int).toNat, 0, 0)) else (if t194 ≤ 32 then (some (1, a0.extract 0 (t194 : Int).toNat, 0, 0)) else (some (5, a0.extract 0 (t194 : Int).toNat, 0, 0)))) = some (r1, r2, r3, r4) := H
        have A7 := Aside0.mk A70
        clear A70
        by_cases c8 : t198 = true
        · subst c8
          have H1 : (some (3, a0.extract 0 (t194 : Int).toNat, 0, 0)) = some (r1, r2, r3, r4) := by rw [if_pos rfl] at H; exact H
          clear H
          have H := H1
          clear H1
          have c9b0 := eq_true (of_decide_eq_true (by first | (with_reducible assumption) | assumption) : 0 ≤ t194)
          have c10b0 := eq_true (of_decide_eq_true (by first | (with_reducible assumption) | assumption) : t194 ≤ (a0.size : Int))
          simp only [Option.some.injEq, Prod.mk.injEq] at H
          obtain ⟨rfl, rfl, rfl, rfl⟩ := H
          go_enter Tryd.func29, Tryd.ntmps29
          try go_wp2_with (first | ((with_reducible refine gate_dst (N := 2) rfl ?_); refine box_event ?hg (N := 2) ?hd (cs := #[.int .i64 0, .string (⟨#[]⟩ : ByteArray), .int .i16 0, .int .i64 0]) (t := 32) ?hr ?_; (case hd => rfl); (case hg => rfl); (case hr => first | (go_simp; done) | (go_simp; rfl)); intro gb193 hg w11 hbox hb; have n0_ := Aside0.mk (below_step (by repeat (first | (with_reducible first | exact HB.out | apply below_alloc | apply pw_below_drewN | apply below_drew1) | exact HB.out)) hb); have n1_ := Aside0.mk (hbox); have n2_ := Aside0.mk ((by rw [hg]; exact (below_size (by repeat (first | (with_reducible first | exact HB.out | apply below_alloc | apply pw_below_drewN | apply below_drew1) | exact HB.out))) : w.heap.size ≤ gb193)); have n3_ := Aside0.mk ((by rw [hg]; exact (below_size (by repeat (first | (with_reducible first | exact HB.out | apply below_alloc | apply pw_below_drewN | apply below_drew1) | exact HB.out))) : w.heap.size ≤ gb193)); clear HB; have HB := n0_; have BK193 := n1_; have GW193 := n2_; have GE193 := n3_; clear n0_ n1_ n2_ n3_; clear hb hbox hg) | ((with_reducible refine gate_callee (f := 45) rfl ?_); refine goesL_ (some 7) rfl rfl Tryd.func45 (by kernel_rfl) rfl #[.string a0] rfl (by (try simp only [List.map_toArray, List.map_cons, List.map_nil]); first | done | rfl | (simp only [List.length_drop, List.length_take]; rfl)) ?_; (with_reducible refine (trickleref15_word.calls k a0 t194 _ A2.out).mono ?_); rintro e w' ⟨rfl, ⟨nd, rfl⟩⟩; refine ⟨_, rfl, ?_⟩; (try (rw [drewN_self w11]; generalize hq_ : World.drewN w11 _ = w11; have n0_ : Aside0 (w11.heap[gb193]? = some (.cells #[.int .i64 0, .string (⟨#[]⟩ : ByteArray), .int .i16 0, .int .i64 0] 32 (0, 0))) := ⟨by rw [← hq_]; exact (by (with_reducible repeat (first | refine blk_drewN ?_ _ | refine blk_drew ?_ | refine blk_alloc ?_ _)); exact BK193.out)⟩; have n1_ : Aside0 (Below w.heap.size w w11) := ⟨by rw [← hq_]; exact (by repeat (first | (with_reducible first | exact HB.out | apply below_alloc | apply pw_below_drewN | apply below_drew1 | refine below_set ?_ GE193.out) | exact HB.out))⟩; clear BK193 HB hq_; have BK193 := n0_; have HB := n1_; clear n0_ n1_))))
          have n0_ := Aside0.mk (blk_drew BK193.out)
          have n1_ := Aside0.mk (below_drew1 HB.out)
          clear BK193
          clear HB
          have BK193 := n0_
          have HB := n1_
          clear n0_ n1_
          refine start_ (n := 5) (S := fun w' => True) (ds := []) #[false, false, false, false, false] (by kernel_rfl) rfl rfl trivial (fun hHeld => ?_)
          generalize w11.drew = w12 at BK193 HB hHeld ⊢
          refine pure_ (i := 1) (N := some 11) (v := ?_) (a' := ?_) #[false, true, false, false, false] rfl rfl (by kernel_rfl) (fun _ _ _ h => h) (Or.inl ⟨by rfl, ?_⟩) ?_ ?_
          rotate_left
          · intro w'
            go_simp
            with_reducible rfl
          rotate_left
          · simp only [Act.put, List.setIfInBounds_toArray, List.set_cons_zero, List.set_cons_succ, i64_w, i32_w]
            rfl
          refine pure_ (i := 2) (N := some 12) (v := ?_) (a' := ?_) #[false, true, true, false, false] rfl rfl (by kernel_rfl) (fun _ _ _ h => h) (Or.inl ⟨by rfl, ?_⟩) ?_ ?_
          rotate_left
          · intro w'
            go_simp
            with_reducible rfl
          rotate_left
          · simp only [Act.put, List.setIfInBounds_toArray, List.set_cons_zero, List.set_cons_succ, i64_w, i32_w]
            rfl
          refine pure_ (i := 3) (N := some 13) (v := ?_) (a' := ?_) #[false, true, true, true, false] rfl rfl (by kernel_rfl) (fun _ _ _ h => h) (Or.inl ⟨by rfl, ?_⟩) ?_ ?_
          rotate_left
          · intro w'
            go_simp
            with_reducible rfl
          rotate_left
          · simp only [Act.put, List.setIfInBounds_toArray, List.set_cons_zero, List.set_cons_succ, i64_w, i32_w]
            rfl
          refine one_ (i := 0) (N := some 10) #[true, true, true, true, false] rfl rfl (by kernel_rfl) (by decide) (fun K hK => ?_)
          refine goes_ Tryd.func21 (by kernel_rfl) rfl #[] (by rfl) rfl rfl (by (try simp only [List.map_toArray, List.map_cons, List.map_nil]); first | done | rfl | (simp only [List.length_drop, List.length_take]; rfl)) ?_
          with_reducible refine (trickleref15_Keywords.calls  t195 _ A4.out).mono ?_
          rintro e w13 ⟨v196, rfl, ho0, hb⟩
          refine ⟨_, rfl, ?_⟩
          have n0_ := Aside0.mk (Kd.R_lower ho0 (below_size (by repeat (first | (with_reducible first | exact HB.out | apply below_alloc | apply pw_below_drewN | apply below_drew1 | refine below_set ?_ GE193.out) | exact HB.out))))
          have n1_ := Aside0.mk (blk_below (g := gb193) (o := .cells #[.int .i64 0, .string (⟨#[]⟩ : ByteArray), .int .i16 0, .int .i64 0] 32 (0, 0)) (by (with_reducible repeat (first | refine blk_drewN ?_ _ | refine blk_drew ?_ | refine blk_alloc ?_ _)); exact BK193.out) hb)
          have n2_ := Aside0.mk (below_step (by repeat (first | (with_reducible first | exact HB.out | apply below_alloc | apply pw_below_drewN | apply below_drew1 | refine below_set ?_ GE193.out) | exact HB.out)) hb)
          clear BK193
          clear HB
          have HO197 := n0_
          have BK193 := n1_
          have HB := n2_
          clear n0_ n1_ n2_
          (try clear hb)
          (try clear hb2)
          (try clear hk)
          (try clear hi)
          (try clear ho0)
          obtain ⟨Ao14, co14, eo14⟩ := Kd.R_slice HO197.out
          (first | subst eo14 | (injection eo14 with f1_ f2_ f3_; have f4_ := f1_.symm; have f5_ := f3_.symm; clear f1_ f2_ f3_; subst f4_; subst f5_))
          refine hK.out _ _ trivial (fun hHeld => ?_)
          clear hK K
          refine norm_ (a' := ?_) ?_ ?_
          rotate_left
          · show Act.put _ (some 10) _ = _
            simp only [Act.put, List.setIfInBounds_toArray, List.set_cons_zero, List.set_cons_succ, i64_w, i32_w]
            rfl
          refine one_ (i := 4) (N := some 14) #[true, true, true, true, true] rfl rfl (by kernel_rfl) (by decide) (fun K hK => ?_)
          refine goes_ Tryd.func46 (by kernel_rfl) rfl #[.slice Ao14 t195.length co14, .string (a0.extract 0 (t194 : Int).toNat)] (by rfl) rfl rfl (by (try simp only [List.map_toArray, List.map_cons, List.map_nil]); first | done | rfl | (simp only [List.length_drop, List.length_take]; rfl)) ?_
          with_reducible refine (trickleref15_Has.calls k _ _ t195 (a0.extract 0 (t194 : Int).toNat) true _ ?side1 ?side2 A7.out).mono ?_
          (case side1 => repeat (first | exact (Kd.R_reads' HO197.out).2.2 | (with_reducible refine Kd.C_alloc ?_ _) | (with_reducible refine Kd.C_drewN ?_ _) | (with_reducible refine Kd.C_drew ?_)))
          (case side2 => exact (Kd.R_reads' HO197.out).2.1)
          rintro e w' ⟨rfl, ⟨nd, rfl⟩⟩
          refine ⟨_, rfl, ?_⟩
          refine hK.out _ _ trivial (fun hHeld => ?_)
          clear hK K
          refine norm_ (a' := ?_) ?_ ?_
          rotate_left
          · show Act.put _ (some 14) _ = _
            simp only [Act.put, List.setIfInBounds_toArray, List.set_cons_zero, List.set_cons_succ, i64_w, i32_w]
            rfl
          refine done_ (by kernel_rfl) ?_
          have hcz15_0 : w13.cell? ⟨gb193, 0, none⟩ = some (.int .i64 0) := (blk_cell BK193.out 0).trans rfl
          have hcz15_1 : w13.cell? ⟨gb193, 1, none⟩ = some (.string (⟨#[]⟩ : ByteArray)) := (blk_cell BK193.out 1).trans rfl
          have hcz15_2 : w13.cell? ⟨gb193, 2, none⟩ = some (.int .i16 0) := (blk_cell BK193.out 2).trans rfl
          have hcz15_3 : w13.cell? ⟨gb193, 3, none⟩ = some (.int .i64 0) := (blk_cell BK193.out 3).trans rfl
          have hfz15_0 := blk_frozen BK193.out 0
          have hfz15_1 := blk_frozen BK193.out 1
          have hfz15_2 := blk_frozen BK193.out 2
          have hfz15_3 := blk_frozen BK193.out 3
          try go_wp2
          refine bodyPost_ret (results_cell_row rfl _ _ gb193 32 #[.int .i64 3, .string (a0.extract 0 (t194 : Int).toNat), .int .i16 0, .int .i64 0] (0, 0) _ rfl (by (with_reducible repeat (first | refine blk_drewN ?_ _ | refine blk_drew ?_ | refine blk_alloc ?_ _)); refine blk_put (cs := #[.int .i64 3, .string (a0.extract 0 (t194 : Int).toNat), .int .i16 0, .int .i64 0]) ?_ 3 _ rfl; (with_reducible repeat (first | refine blk_drewN ?_ _ | refine blk_drew ?_ | refine blk_alloc ?_ _)); refine blk_put (cs := #[.int .i64 3, .string (a0.extract 0 (t194 : Int).toNat), .int .i16 0, .int .i64 0]) ?_ 2 _ rfl; (with_reducible repeat (first | refine blk_drewN ?_ _ | refine blk_drew ?_ | refine blk_alloc ?_ _)); refine blk_put (cs := #[.int .i64 3, .string (⟨#[]⟩ : ByteArray), .int .i16 0, .int .i64 0]) ?_ 1 _ rfl; (with_reducible repeat (first | refine blk_drewN ?_ _ | refine blk_drew ?_ | refine blk_alloc ?_ _)); refine blk_put (cs := #[.int .i64 0, .string (⟨#[]⟩ : ByteArray), .int .i16 0, .int .i64 0]) ?_ 0 _ rfl; (with_reducible repeat (first | refine blk_drewN ?_ _ | refine blk_drew ?_ | refine blk_alloc ?_ _)); exact BK193.out) Tryd.underlying32 rfl (by kernel_rfl)) rfl ?_
          exact ⟨by first | rfl | (simp [errW_none, errW_some] <;> rfl) | (simp [*, errW_none, errW_some] <;> rfl), by repeat (first | (with_reducible first | exact HB.out | apply below_alloc | apply pw_below_drewN | apply below_drew1 | refine below_set ?_ GE193.out) | exact HB.out)⟩
        · replace c8 := Bool.eq_false_iff.mpr c8
          subst c8
          have H1 : (if t194 ≤ 32 then (some (1, a0.extract 0 (t194 : Int).toNat, 0, 0)) else (some (5, a0.extract 0 (t194 : Int).toNat, 0, 0))) = some (r1, r2, r3, r4) := by rw [if_neg (show ¬ (false = true) by decide)] at H; exact H
          clear H
          have H := H1
          clear H1
          by_cases c16 : t194 ≤ 32
          · rw [if_pos c16] at H
            have c16b0 : decide (t194 ≤ 32) = true := decide_eq_true c16
            clear c16
            have c17b0 := eq_true (of_decide_eq_true (by first | (with_reducible assumption) | assumption) : 0 ≤ t194)
            have c18b0 := eq_true (of_decide_eq_true (by first | (with_reducible assumption) | assumption) : t194 ≤ (a0.size : Int))
            simp only [Option.some.injEq, Prod.mk.injEq] at H
            obtain ⟨rfl, rfl, rfl, rfl⟩ := H
            go_enter Tryd.func29, Tryd.ntmps29
            try go_wp2_with (first | ((with_reducible refine gate_dst (N := 2) rfl ?_); refine box_event ?hg (N := 2) ?hd (cs := #[.int .i64 0, .string (⟨#[]⟩ : ByteArray), .int .i16 0, .int .i64 0]) (t := 32) ?hr ?_; (case hd => rfl); (case hg => rfl); (case hr => first | (go_simp; done) | (go_simp; rfl)); intro gb193 hg w19 hbox hb; have n0_ := Aside0.mk (below_step (by repeat (first | (with_reducible first | exact HB.out | apply below_alloc | apply pw_below_drewN | apply below_drew1) | exact HB.out)) hb); have n1_ := Aside0.mk (hbox); have n2_ := Aside0.mk ((by rw [hg]; exact (below_size (by repeat (first | (with_reducible first | exact HB.out | apply below_alloc | apply pw_below_drewN | apply below_drew1) | exact HB.out))) : w.heap.size ≤ gb193)); have n3_ := Aside0.mk ((by rw [hg]; exact (below_size (by repeat (first | (with_reducible first | exact HB.out | apply below_alloc | apply pw_below_drewN | apply below_drew1) | exact HB.out))) : w.heap.size ≤ gb193)); clear HB; have HB := n0_; have BK193 := n1_; have GW193 := n2_; have GE193 := n3_; clear n0_ n1_ n2_ n3_; clear hb hbox hg) | ((with_reducible refine gate_callee (f := 45) rfl ?_); refine goesL_ (some 7) rfl rfl Tryd.func45 (by kernel_rfl) rfl #[.string a0] rfl (by (try simp only [List.map_toArray, List.map_cons, List.map_nil]); first | done | rfl | (simp only [List.length_drop, List.length_take]; rfl)) ?_; (with_reducible refine (trickleref15_word.calls k a0 t194 _ A2.out).mono ?_); rintro e w' ⟨rfl, ⟨nd, rfl⟩⟩; refine ⟨_, rfl, ?_⟩; (try (rw [drewN_self w19]; generalize hq_ : World.drewN w19 _ = w19; have n0_ : Aside0 (w19.heap[gb193]? = some (.cells #[.int .i64 0, .string (⟨#[]⟩ : ByteArray), .int .i16 0, .int .i64 0] 32 (0, 0))) := ⟨by rw [← hq_]; exact (by (with_reducible repeat (first | refine blk_drewN ?_ _ | refine blk_drew ?_ | refine blk_alloc ?_ _)); exact BK193.out)⟩; have n1_ : Aside0 (Below w.heap.size w w19) := ⟨by rw [← hq_]; exact (by repeat (first | (with_reducible first | exact HB.out | apply below_alloc | apply pw_below_drewN | apply below_drew1 | refine below_set ?_ GE193.out) | exact HB.out))⟩; clear BK193 HB hq_; have BK193 := n0_; have HB := n1_; clear n0_ n1_))))
            have n0_ := Aside0.mk (blk_drew BK193.out)
            have n1_ := Aside0.mk (below_drew1 HB.out)
            clear BK193
            clear HB
            have BK193 := n0_
            have HB := n1_
            clear n0_ n1_
            refine start_ (n := 5) (S := fun w' => True) (ds := []) #[false, false, false, false, false] (by kernel_rfl) rfl rfl trivial (fun hHeld => ?_)
            generalize w19.drew = w20 at BK193 HB hHeld ⊢
            refine pure_ (i := 1) (N := some 11) (v := ?_) (a' := ?_) #[false, true, false, false, false] rfl rfl (by kernel_rfl) (fun _ _ _ h => h) (Or.inl ⟨by rfl, ?_⟩) ?_ ?_
            rotate_left
            · intro w'
              go_simp
              with_reducible rfl
            rotate_left
            · simp only [Act.put, List.setIfInBounds_toArray, List.set_cons_zero, List.set_cons_succ, i64_w, i32_w]
              rfl
            refine pure_ (i := 2) (N := some 12) (v := ?_) (a' := ?_) #[false, true, true, false, false] rfl rfl (by kernel_rfl) (fun _ _ _ h => h) (Or.inl ⟨by rfl, ?_⟩) ?_ ?_
            rotate_left
            · intro w'
              go_simp
              with_reducible rfl
            rotate_left
            · simp only [Act.put, List.setIfInBounds_toArray, List.set_cons_zero, List.set_cons_succ, i64_w, i32_w]
              rfl
            refine pure_ (i := 3) (N := some 13) (v := ?_) (a' := ?_) #[false, true, true, true, false] rfl rfl (by kernel_rfl) (fun _ _ _ h => h) (Or.inl ⟨by rfl, ?_⟩) ?_ ?_
            rotate_left
            · intro w'
              go_simp
              with_reducible rfl
            rotate_left
            · simp only [Act.put, List.setIfInBounds_toArray, List.set_cons_zero, List.set_cons_succ, i64_w, i32_w]
              rfl
            refine one_ (i := 0) (N := some 10) #[true, true, true, true, false] rfl rfl (by kernel_rfl) (by decide) (fun K hK => ?_)
            refine goes_ Tryd.func21 (by kernel_rfl) rfl #[] (by rfl) rfl rfl (by (try simp only [List.map_toArray, List.map_cons, List.map_nil]); first | done | rfl | (simp only [List.length_drop, List.length_take]; rfl)) ?_
            with_reducible refine (trickleref15_Keywords.calls  t195 _ A4.out).mono ?_
            rintro e w21 ⟨v196, rfl, ho0, hb⟩
            refine ⟨_, rfl, ?_⟩
            have n0_ := Aside0.mk (Kd.R_lower ho0 (below_size (by repeat (first | (with_reducible first | exact HB.out | apply below_alloc | apply pw_below_drewN | apply below_drew1 | refine below_set ?_ GE193.out) | exact HB.out))))
            have n1_ := Aside0.mk (blk_below (g := gb193) (o := .cells #[.int .i64 0, .string (⟨#[]⟩ : ByteArray), .int .i16 0, .int .i64 0] 32 (0, 0)) (by (with_reducible repeat (first | refine blk_drewN ?_ _ | refine blk_drew ?_ | refine blk_alloc ?_ _)); exact BK193.out) hb)
            have n2_ := Aside0.mk (below_step (by repeat (first | (with_reducible first | exact HB.out | apply below_alloc | apply pw_below_drewN | apply below_drew1 | refine below_set ?_ GE193.out) | exact HB.out)) hb)
            clear BK193
            clear HB
            have HO197 := n0_
            have BK193 := n1_
            have HB := n2_
            clear n0_ n1_ n2_
            (try clear hb)
            (try clear hb2)
            (try clear hk)
            (try clear hi)
            (try clear ho0)
            obtain ⟨Ao22, co22, eo22⟩ := Kd.R_slice HO197.out
            (first | subst eo22 | (injection eo22 with f1_ f2_ f3_; have f4_ := f1_.symm; have f5_ := f3_.symm; clear f1_ f2_ f3_; subst f4_; subst f5_))
            refine hK.out _ _ trivial (fun hHeld => ?_)
            clear hK K
            refine norm_ (a' := ?_) ?_ ?_
            rotate_left
            · show Act.put _ (some 10) _ = _
              simp only [Act.put, List.setIfInBounds_toArray, List.set_cons_zero, List.set_cons_succ, i64_w, i32_w]
              rfl
            refine one_ (i := 4) (N := some 14) #[true, true, true, true, true] rfl rfl (by kernel_rfl) (by decide) (fun K hK => ?_)
            refine goes_ Tryd.func46 (by kernel_rfl) rfl #[.slice Ao22 t195.length co22, .string (a0.extract 0 (t194 : Int).toNat)] (by rfl) rfl rfl (by (try simp only [List.map_toArray, List.map_cons, List.map_nil]); first | done | rfl | (simp only [List.length_drop, List.length_take]; rfl)) ?_
            with_reducible refine (trickleref15_Has.calls k _ _ t195 (a0.extract 0 (t194 : Int).toNat) false _ ?side1 ?side2 A7.out).mono ?_
            (case side1 => repeat (first | exact (Kd.R_reads' HO197.out).2.2 | (with_reducible refine Kd.C_alloc ?_ _) | (with_reducible refine Kd.C_drewN ?_ _) | (with_reducible refine Kd.C_drew ?_)))
            (case side2 => exact (Kd.R_reads' HO197.out).2.1)
            rintro e w' ⟨rfl, ⟨nd, rfl⟩⟩
            refine ⟨_, rfl, ?_⟩
            refine hK.out _ _ trivial (fun hHeld => ?_)
            clear hK K
            refine norm_ (a' := ?_) ?_ ?_
            rotate_left
            · show Act.put _ (some 14) _ = _
              simp only [Act.put, List.setIfInBounds_toArray, List.set_cons_zero, List.set_cons_succ, i64_w, i32_w]
              rfl
            refine done_ (by kernel_rfl) ?_
            have hcz23_0 : w21.cell? ⟨gb193, 0, none⟩ = some (.int .i64 0) := (blk_cell BK193.out 0).trans rfl
            have hcz23_1 : w21.cell? ⟨gb193, 1, none⟩ = some (.string (⟨#[]⟩ : ByteArray)) := (blk_cell BK193.out 1).trans rfl
            have hcz23_2 : w21.cell? ⟨gb193, 2, none⟩ = some (.int .i16 0) := (blk_cell BK193.out 2).trans rfl
            have hcz23_3 : w21.cell? ⟨gb193, 3, none⟩ = some (.int .i64 0) := (blk_cell BK193.out 3).trans rfl
            have hfz23_0 := blk_frozen BK193.out 0
            have hfz23_1 := blk_frozen BK193.out 1
            have hfz23_2 := blk_frozen BK193.out 2
            have hfz23_3 := blk_frozen BK193.out 3
            try go_wp2
            refine bodyPost_ret (results_cell_row rfl _ _ gb193 32 #[.int .i64 1, .string (a0.extract 0 (t194 : Int).toNat), .int .i16 0, .int .i64 0] (0, 0) _ rfl (by (with_reducible repeat (first | refine blk_drewN ?_ _ | refine blk_drew ?_ | refine blk_alloc ?_ _)); refine blk_put (cs := #[.int .i64 1, .string (a0.extract 0 (t194 : Int).toNat), .int .i16 0, .int .i64 0]) ?_ 3 _ rfl; (with_reducible repeat (first | refine blk_drewN ?_ _ | refine blk_drew ?_ | refine blk_alloc ?_ _)); refine blk_put (cs := #[.int .i64 1, .string (a0.extract 0 (t194 : Int).toNat), .int .i16 0, .int .i64 0]) ?_ 2 _ rfl; (with_reducible repeat (first | refine blk_drewN ?_ _ | refine blk_drew ?_ | refine blk_alloc ?_ _)); refine blk_put (cs := #[.int .i64 1, .string (⟨#[]⟩ : ByteArray), .int .i16 0, .int .i64 0]) ?_ 1 _ rfl; (with_reducible repeat (first | refine blk_drewN ?_ _ | refine blk_drew ?_ | refine blk_alloc ?_ _)); refine blk_put (cs := #[.int .i64 0, .string (⟨#[]⟩ : ByteArray), .int .i16 0, .int .i64 0]) ?_ 0 _ rfl; (with_reducible repeat (first | refine blk_drewN ?_ _ | refine blk_drew ?_ | refine blk_alloc ?_ _)); exact BK193.out) Tryd.underlying32 rfl (by kernel_rfl)) rfl ?_
            exact ⟨by first | rfl | (simp [errW_none, errW_some] <;> rfl) | (simp [*, errW_none, errW_some] <;> rfl), by repeat (first | (with_reducible first | exact HB.out | apply below_alloc | apply pw_below_drewN | apply below_drew1 | refine below_set ?_ GE193.out) | exact HB.out)⟩
          · rw [if_neg c16] at H
            have c16b0 : decide (t194 ≤ 32) = false := decide_eq_false c16
            clear c16
            have c24b0 := eq_true (of_decide_eq_true (by first | (with_reducible assumption) | assumption) : 0 ≤ t194)
            have c25b0 := eq_true (of_decide_eq_true (by first | (with_reducible assumption) | assumption) : t194 ≤ (a0.size : Int))
            simp only [Option.some.injEq, Prod.mk.injEq] at H
            obtain ⟨rfl, rfl, rfl, rfl⟩ := H
            go_enter Tryd.func29, Tryd.ntmps29
            try go_wp2_with (first | ((with_reducible refine gate_dst (N := 2) rfl ?_); refine box_event ?hg (N := 2) ?hd (cs := #[.int .i64 0, .string (⟨#[]⟩ : ByteArray), .int .i16 0, .int .i64 0]) (t := 32) ?hr ?_; (case hd => rfl); (case hg => rfl); (case hr => first | (go_simp; done) | (go_simp; rfl)); intro gb193 hg w26 hbox hb; have n0_ := Aside0.mk (below_step (by repeat (first | (with_reducible first | exact HB.out | apply below_alloc | apply pw_below_drewN | apply below_drew1) | exact HB.out)) hb); have n1_ := Aside0.mk (hbox); have n2_ := Aside0.mk ((by rw [hg]; exact (below_size (by repeat (first | (with_reducible first | exact HB.out | apply below_alloc | apply pw_below_drewN | apply below_drew1) | exact HB.out))) : w.heap.size ≤ gb193)); have n3_ := Aside0.mk ((by rw [hg]; exact (below_size (by repeat (first | (with_reducible first | exact HB.out | apply below_alloc | apply pw_below_drewN | apply below_drew1) | exact HB.out))) : w.heap.size ≤ gb193)); clear HB; have HB := n0_; have BK193 := n1_; have GW193 := n2_; have GE193 := n3_; clear n0_ n1_ n2_ n3_; clear hb hbox hg) | ((with_reducible refine gate_callee (f := 45) rfl ?_); refine goesL_ (some 7) rfl rfl Tryd.func45 (by kernel_rfl) rfl #[.string a0] rfl (by (try simp only [List.map_toArray, List.map_cons, List.map_nil]); first | done | rfl | (simp only [List.length_drop, List.length_take]; rfl)) ?_; (with_reducible refine (trickleref15_word.calls k a0 t194 _ A2.out).mono ?_); rintro e w' ⟨rfl, ⟨nd, rfl⟩⟩; refine ⟨_, rfl, ?_⟩; (try (rw [drewN_self w26]; generalize hq_ : World.drewN w26 _ = w26; have n0_ : Aside0 (w26.heap[gb193]? = some (.cells #[.int .i64 0, .string (⟨#[]⟩ : ByteArray), .int .i16 0, .int .i64 0] 32 (0, 0))) := ⟨by rw [← hq_]; exact (by (with_reducible repeat (first | refine blk_drewN ?_ _ | refine blk_drew ?_ | refine blk_alloc ?_ _)); exact BK193.out)⟩; have n1_ : Aside0 (Below w.heap.size w w26) := ⟨by rw [← hq_]; exact (by repeat (first | (with_reducible first | exact HB.out | apply below_alloc | apply pw_below_drewN | apply below_drew1 | refine below_set ?_ GE193.out) | exact HB.out))⟩; clear BK193 HB hq_; have BK193 := n0_; have HB := n1_; clear n0_ n1_))))
            have n0_ := Aside0.mk (blk_drew BK193.out)
            have n1_ := Aside0.mk (below_drew1 HB.out)
            clear BK193
            clear HB
            have BK193 := n0_
            have HB := n1_
            clear n0_ n1_
            refine start_ (n := 5) (S := fun w' => True) (ds := []) #[false, false, false, false, false] (by kernel_rfl) rfl rfl trivial (fun hHeld => ?_)
            generalize w26.drew = w27 at BK193 HB hHeld ⊢
            refine pure_ (i := 1) (N := some 11) (v := ?_) (a' := ?_) #[false, true, false, false, false] rfl rfl (by kernel_rfl) (fun _ _ _ h => h) (Or.inl ⟨by rfl, ?_⟩) ?_ ?_
            rotate_left
            · intro w'
              go_simp
              with_reducible rfl
            rotate_left
            · simp only [Act.put, List.setIfInBounds_toArray, List.set_cons_zero, List.set_cons_succ, i64_w, i32_w]
              rfl
            refine pure_ (i := 2) (N := some 12) (v := ?_) (a' := ?_) #[false, true, true, false, false] rfl rfl (by kernel_rfl) (fun _ _ _ h => h) (Or.inl ⟨by rfl, ?_⟩) ?_ ?_
            rotate_left
            · intro w'
              go_simp
              with_reducible rfl
            rotate_left
            · simp only [Act.put, List.setIfInBounds_toArray, List.set_cons_zero, List.set_cons_succ, i64_w, i32_w]
              rfl
            refine pure_ (i := 3) (N := some 13) (v := ?_) (a' := ?_) #[false, true, true, true, false] rfl rfl (by kernel_rfl) (fun _ _ _ h => h) (Or.inl ⟨by rfl, ?_⟩) ?_ ?_
            rotate_left
            · intro w'
              go_simp
              with_reducible rfl
            rotate_left
            · simp only [Act.put, List.setIfInBounds_toArray, List.set_cons_zero, List.set_cons_succ, i64_w, i32_w]
              rfl
            refine one_ (i := 0) (N := some 10) #[true, true, true, true, false] rfl rfl (by kernel_rfl) (by decide) (fun K hK => ?_)
            refine goes_ Tryd.func21 (by kernel_rfl) rfl #[] (by rfl) rfl rfl (by (try simp only [List.map_toArray, List.map_cons, List.map_nil]); first | done | rfl | (simp only [List.length_drop, List.length_take]; rfl)) ?_
            with_reducible refine (trickleref15_Keywords.calls  t195 _ A4.out).mono ?_
            rintro e w28 ⟨v196, rfl, ho0, hb⟩
            refine ⟨_, rfl, ?_⟩
            have n0_ := Aside0.mk (Kd.R_lower ho0 (below_size (by repeat (first | (with_reducible first | exact HB.out | apply below_alloc | apply pw_below_drewN | apply below_drew1 | refine below_set ?_ GE193.out) | exact HB.out))))
            have n1_ := Aside0.mk (blk_below (g := gb193) (o := .cells #[.int .i64 0, .string (⟨#[]⟩ : ByteArray), .int .i16 0, .int .i64 0] 32 (0, 0)) (by (with_reducible repeat (first | refine blk_drewN ?_ _ | refine blk_drew ?_ | refine blk_alloc ?_ _)); exact BK193.out) hb)
            have n2_ := Aside0.mk (below_step (by repeat (first | (with_reducible first | exact HB.out | apply below_alloc | apply pw_below_drewN | apply below_drew1 | refine below_set ?_ GE193.out) | exact HB.out)) hb)
            clear BK193
            clear HB
            have HO197 := n0_
            have BK193 := n1_
            have HB := n2_
            clear n0_ n1_ n2_
            (try clear hb)
            (try clear hb2)
            (try clear hk)
            (try clear hi)
            (try clear ho0)
            obtain ⟨Ao29, co29, eo29⟩ := Kd.R_slice HO197.out
            (first | subst eo29 | (injection eo29 with f1_ f2_ f3_; have f4_ := f1_.symm; have f5_ := f3_.symm; clear f1_ f2_ f3_; subst f4_; subst f5_))
            refine hK.out _ _ trivial (fun hHeld => ?_)
            clear hK K
            refine norm_ (a' := ?_) ?_ ?_
            rotate_left
            · show Act.put _ (some 10) _ = _
              simp only [Act.put, List.setIfInBounds_toArray, List.set_cons_zero, List.set_cons_succ, i64_w, i32_w]
              rfl
            refine one_ (i := 4) (N := some 14) #[true, true, true, true, true] rfl rfl (by kernel_rfl) (by decide) (fun K hK => ?_)
            refine goes_ Tryd.func46 (by kernel_rfl) rfl #[.slice Ao29 t195.length co29, .string (a0.extract 0 (t194 : Int).toNat)] (by rfl) rfl rfl (by (try simp only [List.map_toArray, List.map_cons, List.map_nil]); first | done | rfl | (simp only [List.length_drop, List.length_take]; rfl)) ?_
            with_reducible refine (trickleref15_Has.calls k _ _ t195 (a0.extract 0 (t194 : Int).toNat) false _ ?side1 ?side2 A7.out).mono ?_
            (case side1 => repeat (first | exact (Kd.R_reads' HO197.out).2.2 | (with_reducible refine Kd.C_alloc ?_ _) | (with_reducible refine Kd.C_drewN ?_ _) | (with_reducible refine Kd.C_drew ?_)))
            (case side2 => exact (Kd.R_reads' HO197.out).2.1)
            rintro e w' ⟨rfl, ⟨nd, rfl⟩⟩
            refine ⟨_, rfl, ?_⟩
            refine hK.out _ _ trivial (fun hHeld => ?_)
            clear hK K
            refine norm_ (a' := ?_) ?_ ?_
            rotate_left
            · show Act.put _ (some 14) _ = _
              simp only [Act.put, List.setIfInBounds_toArray, List.set_cons_zero, List.set_cons_succ, i64_w, i32_w]
              rfl
            refine done_ (by kernel_rfl) ?_
            have hcz30_0 : w28.cell? ⟨gb193, 0, none⟩ = some (.int .i64 0) := (blk_cell BK193.out 0).trans rfl
            have hcz30_1 : w28.cell? ⟨gb193, 1, none⟩ = some (.string (⟨#[]⟩ : ByteArray)) := (blk_cell BK193.out 1).trans rfl
            have hcz30_2 : w28.cell? ⟨gb193, 2, none⟩ = some (.int .i16 0) := (blk_cell BK193.out 2).trans rfl
            have hcz30_3 : w28.cell? ⟨gb193, 3, none⟩ = some (.int .i64 0) := (blk_cell BK193.out 3).trans rfl
            have hfz30_0 := blk_frozen BK193.out 0
            have hfz30_1 := blk_frozen BK193.out 1
            have hfz30_2 := blk_frozen BK193.out 2
            have hfz30_3 := blk_frozen BK193.out 3
            try go_wp2
            refine bodyPost_ret (results_cell_row rfl _ _ gb193 32 #[.int .i64 5, .string (a0.extract 0 (t194 : Int).toNat), .int .i16 0, .int .i64 0] (0, 0) _ rfl (by (with_reducible repeat (first | refine blk_drewN ?_ _ | refine blk_drew ?_ | refine blk_alloc ?_ _)); refine blk_put (cs := #[.int .i64 5, .string (a0.extract 0 (t194 : Int).toNat), .int .i16 0, .int .i64 0]) ?_ 3 _ rfl; (with_reducible repeat (first | refine blk_drewN ?_ _ | refine blk_drew ?_ | refine blk_alloc ?_ _)); refine blk_put (cs := #[.int .i64 5, .string (a0.extract 0 (t194 : Int).toNat), .int .i16 0, .int .i64 0]) ?_ 2 _ rfl; (with_reducible repeat (first | refine blk_drewN ?_ _ | refine blk_drew ?_ | refine blk_alloc ?_ _)); refine blk_put (cs := #[.int .i64 5, .string (⟨#[]⟩ : ByteArray), .int .i16 0, .int .i64 0]) ?_ 1 _ rfl; (with_reducible repeat (first | refine blk_drewN ?_ _ | refine blk_drew ?_ | refine blk_alloc ?_ _)); refine blk_put (cs := #[.int .i64 0, .string (⟨#[]⟩ : ByteArray), .int .i16 0, .int .i64 0]) ?_ 0 _ rfl; (with_reducible repeat (first | refine blk_drewN ?_ _ | refine blk_drew ?_ | refine blk_alloc ?_ _)); exact BK193.out) Tryd.underlying32 rfl (by kernel_rfl)) rfl ?_
            exact ⟨by first | rfl | (simp [errW_none, errW_some] <;> rfl) | (simp [*, errW_none, errW_some] <;> rfl), by repeat (first | (with_reducible first | exact HB.out | apply below_alloc | apply pw_below_drewN | apply below_drew1 | refine below_set ?_ GE193.out) | exact HB.out)⟩
      · rw [if_neg c6] at H
        exact absurd H (by simp)
    · rw [if_neg c5] at H
      exact absurd H (by simp)
  · rw [if_neg c3] at H
    have c3b0 : decide (0 < t194) = false := decide_eq_false c3
    clear c3
    replace H := Option.bind_eq_some_iff.mp H
    obtain ⟨t199, A310, H⟩ := H
    replace H : (if t199 > 0 then (trickleref15_one.l0 k a0 t199 0 0) else ((trickleref15_mark.f k a0).bind fun t200 => (if t200 > 0 then (if 0 ≤ t200 then (if t200 ≤ (a0.size : Int) then (some (4, a0.extract 0 (t200 : Int).toNat, 0, 0)) else (none)) else (none)) else (if 0 ≤ 1 then (if 1 ≤ (a0.size : Int) then (some (5, a0.extract 0 1, 0, 0)) else (none)) else (none))))) = some (r1, r2, r3, r4) := H
    have A31 := Aside0.mk A310
    clear A310
    by_cases c32 : t199 > 0
    · rw [if_pos c32] at H
      have c32b0 : decide (0 < t199) = true := decide_eq_true c32
      clear c32
      have HC33 := Aside0.mk H
      clear H
      go_enter Tryd.func29, Tryd.ntmps29
      go_upto_block 0 with (first | ((with_reducible refine gate_dst (N := 2) rfl ?_); refine box_event ?hg (N := 2) ?hd (cs := #[.int .i64 0, .string (⟨#[]⟩ : ByteArray), .int .i16 0, .int .i64 0]) (t := 32) ?hr ?_; (case hd => rfl); (case hg => rfl); (case hr => first | (go_simp; done) | (go_simp; rfl)); intro gb193 hg w34 hbox hb; have n0_ := Aside0.mk (below_step (by repeat (first | (with_reducible first | exact HB.out | apply below_alloc | apply pw_below_drewN | apply below_drew1) | exact HB.out)) hb); have n1_ := Aside0.mk (hbox); have n2_ := Aside0.mk ((by rw [hg]; exact (below_size (by repeat (first | (with_reducible first | exact HB.out | apply below_alloc | apply pw_below_drewN | apply below_drew1) | exact HB.out))) : w.heap.size ≤ gb193)); have n3_ := Aside0.mk ((by rw [hg]; exact (below_size (by repeat (first | (with_reducible first | exact HB.out | apply below_alloc | apply pw_below_drewN | apply below_drew1) | exact HB.out))) : w.heap.size ≤ gb193)); clear HB; have HB := n0_; have BK193 := n1_; have GW193 := n2_; have GE193 := n3_; clear n0_ n1_ n2_ n3_; clear hb hbox hg) | ((with_reducible refine gate_callee (f := 45) rfl ?_); refine goesL_ (some 7) rfl rfl Tryd.func45 (by kernel_rfl) rfl #[.string a0] rfl (by (try simp only [List.map_toArray, List.map_cons, List.map_nil]); first | done | rfl | (simp only [List.length_drop, List.length_take]; rfl)) ?_; (with_reducible refine (trickleref15_word.calls k a0 t194 _ A2.out).mono ?_); rintro e w' ⟨rfl, ⟨nd, rfl⟩⟩; refine ⟨_, rfl, ?_⟩) | ((with_reducible refine gate_callee (f := 47) rfl ?_); refine goesL_ (some 30) rfl rfl Tryd.func47 (by kernel_rfl) rfl #[.string a0] rfl (by (try simp only [List.map_toArray, List.map_cons, List.map_nil]); first | done | rfl | (simp only [List.length_drop, List.length_take]; rfl)) ?_; (with_reducible refine (trickleref15_number.calls k a0 t199 _ A31.out).mono ?_); rintro e w' ⟨rfl, ⟨nd, rfl⟩⟩; refine ⟨_, rfl, ?_⟩))
      (try simp only [Act.put, List.setIfInBounds_toArray, List.set_cons_zero, List.set_cons_succ])
      go_cut [4] (fun v4 wc => ∃ (kq : Nat) (x4_32 : Int), v4 = .int .i64 x4_32 ∧ Aside0 (trickleref15_one.j1 kq a0 t199 x4_32 = some (r1, r2, r3, r4)) ∧ Aside0 (kq ≤ k) ∧ Aside0 (wc.heap[gb193]? = some (.cells #[.int .i64 0, .string (⟨#[]⟩ : ByteArray), .int .i16 0, .int .i64 0] 32 (0, 0))) ∧ Aside0 (Below w.heap.size w wc))
      case first =>
        have H := HC33.out
        clear HC33
        have H' := Aside0.mk H
        clear H
        go_wp2
        go_loopg [4, 5] k (fun kq v4 v5 w' => ∃ (x4_1 : Int) (x5_1 : Int), v4 = .int .i64 x4_1 ∧ v5 = .int .i64 x5_1 ∧ Aside0 (trickleref15_one.l0 kq a0 t199 x4_1 x5_1 = some (r1, r2, r3, r4)) ∧ Aside0 (kq ≤ k) ∧ Aside0 (w'.heap[gb193]? = some (.cells #[.int .i64 0, .string (⟨#[]⟩ : ByteArray), .int .i16 0, .int .i64 0] 32 (0, 0))) ∧ Aside0 (Below w.heap.size w w'))
        case atStart => exact ⟨(0), (0), (by first | rfl | (simp; done) | (simp [*]; done)), (by first | rfl | (simp; done) | (simp [*]; done)), H', ⟨Nat.le_refl _⟩, ⟨by (with_reducible repeat (first | refine blk_drewN ?_ _ | refine blk_drew ?_ | refine blk_alloc ?_ _)); exact BK193.out⟩, ⟨by repeat (first | (with_reducible first | exact HB.out | apply below_alloc | apply pw_below_drewN | apply below_drew1 | refine below_set ?_ GE193.out) | exact HB.out)⟩⟩
        case round =>
          clear H'
          try clear c1
          try clear c2
          try clear p2
          try clear c3
          try clear c3b0
          try clear c4
          try clear c5
          try clear c5b0
          try clear c5b1
          try clear c6
          try clear c6b0
          try clear c6b1
          try clear c8
          try clear c9
          try clear c9b0
          try clear c10
          try clear c10b0
          try clear c16
          try clear c16b0
          try clear c17
          try clear c17b0
          try clear c18
          try clear c18b0
          try clear c21
          try clear c24
          try clear c24b0
          try clear c25
          try clear c25b0
          try clear c29
          try clear c32
          try clear c32b0
          try clear hcz15_0
          try clear hcz15_1
          try clear hcz15_2
          try clear hcz15_3
          try clear hcz23_0
          try clear hcz23_1
          try clear hcz23_2
          try clear hcz23_3
          try clear hcz30_0
          try clear hcz30_1
          try clear hcz30_2
          try clear hcz30_3
          try clear hfz15_0
          try clear hfz15_1
          try clear hfz15_2
          try clear hfz15_3
          try clear hfz23_0
          try clear hfz23_1
          try clear hfz23_2
          try clear hfz23_3
          try clear hfz30_0
          try clear hfz30_1
          try clear hfz30_2
          try clear hfz30_3
          obtain ⟨x4_1, x5_1, rfl, rfl, HA, HK1, BK193, HB⟩ := hrel
          cases gk with
          | zero => exact absurd HA.out (by simp [trickleref15_one.l0])
          | succ k1 =>
            have H := HA.out
            clear HA
            simp only [trickleref15_one.l0] at H
            by_cases c35 : x5_1 < t199
            · rw [if_pos c35] at H
              have c35b0 : decide (x5_1 < t199) = true := decide_eq_true c35
              clear c35
              (first | rw [c35b0] | (simp only [i64_w, i32_w]; rw [c35b0]) | skip)
              by_cases c36 : x4_1 ≤ 32767
              · rw [if_pos c36] at H
                have c36b0 : decide (x4_1 ≤ 32767) = true := decide_eq_true c36
                clear c36
                by_cases c37 : 0 ≤ x5_1
                · rw [if_pos c37] at H
                  have c37b0 : decide (0 ≤ x5_1) = true := decide_eq_true c37
                  clear c37
                  by_cases c38 : x5_1 < (a0.size : Int)
                  · rw [if_pos c38] at H
                    have c38b0 : decide (x5_1 < (a0.size : Int)) = true := decide_eq_true c38
                    clear c38
                    have H' := Aside0.mk H
                    clear H
                    have p39 : 0 ≤ (x5_1 : Int) := of_decide_eq_true (by first | (with_reducible assumption) | assumption)
                    have q39 : x5_1 < (a0.size : Int) := of_decide_eq_true (by first | (with_reducible assumption) | assumption)
                    have hx39 := bt_at a0 x5_1
                    replace p39 := eq_true p39
                    replace q39 := eq_true q39
                    go_wp2
                    go_roundg k1
                    case measure => have := HK1.out; omega
                    case rel => exact ⟨(wrap64 ((wrap64 (10 * x4_1)) + (((bt a0 x5_1) - 48) % 256))), (wrap64 (x5_1 + 1)), (by first | rfl | (simp; done) | (simp [*]; done)), (by first | rfl | (simp; done) | (simp [*]; done)), H', ⟨by have := HK1.out; omega⟩, ⟨by (with_reducible repeat (first | refine blk_drewN ?_ _ | refine blk_drew ?_ | refine blk_alloc ?_ _)); exact BK193.out⟩, ⟨by repeat (first | (with_reducible first | exact HB.out | apply below_alloc | apply pw_below_drewN | apply below_drew1 | refine below_set ?_ GE193.out) | exact HB.out)⟩⟩
                  · rw [if_neg c38] at H
                    exact absurd H (by simp)
                · rw [if_neg c37] at H
                  exact absurd H (by simp)
              · rw [if_neg c36] at H
                have c36b0 : decide (x4_1 ≤ 32767) = false := decide_eq_false c36
                clear c36
                have H' := Aside0.mk H
                clear H
                go_wp2
                go_meet
                case rel => exact ⟨_, (x4_1), (by first | rfl | (simp; done) | (simp [*]; done)), H', ⟨by have := HK1.out; first | omega | exact Nat.le_refl _⟩, ⟨by (with_reducible repeat (first | refine blk_drewN ?_ _ | refine blk_drew ?_ | refine blk_alloc ?_ _)); exact BK193.out⟩, ⟨by repeat (first | (with_reducible first | exact HB.out | apply below_alloc | apply pw_below_drewN | apply below_drew1 | refine below_set ?_ GE193.out) | exact HB.out)⟩⟩
            · rw [if_neg c35] at H
              have c35b0 : decide (x5_1 < t199) = false := decide_eq_false c35
              clear c35
              (first | rw [c35b0] | (simp only [i64_w, i32_w]; rw [c35b0]) | skip)
              have H' := Aside0.mk H
              clear H
              go_wp2
              go_meet
              case rel => exact ⟨_, (x4_1), (by first | rfl | (simp; done) | (simp [*]; done)), H', ⟨by have := HK1.out; first | omega | exact Nat.le_refl _⟩, ⟨by (with_reducible repeat (first | refine blk_drewN ?_ _ | refine blk_drew ?_ | refine blk_alloc ?_ _)); exact BK193.out⟩, ⟨by repeat (first | (with_reducible first | exact HB.out | apply below_alloc | apply pw_below_drewN | apply below_drew1 | refine below_set ?_ GE193.out) | exact HB.out)⟩⟩
      case rest =>
        clear HC33
        try clear c1
        try clear c2
        try clear p2
        try clear c3
        try clear c3b0
        try clear p3
        try clear q3
        try clear hx3
        try clear c4
        try clear c5
        try clear c5b0
        try clear c5b1
        try clear c6
        try clear c6b0
        try clear c6b1
        try clear p6
        try clear c8
        try clear c9
        try clear c9b0
        try clear c10
        try clear c10b0
        try clear c16
        try clear c16b0
        try clear c17
        try clear c17b0
        try clear c18
        try clear c18b0
        try clear c21
        try clear c24
        try clear c24b0
        try clear c25
        try clear c25b0
        try clear c29
        try clear c32
        try clear c32b0
        try clear c35
        try clear c35b0
        try clear c36
        try clear c36b0
        try clear c37
        try clear c37b0
        try clear c38
        try clear c38b0
        try clear p39
        try clear q39
        try clear hx39
        try clear hcz15_0
        try clear hcz15_1
        try clear hcz15_2
        try clear hcz15_3
        try clear hcz23_0
        try clear hcz23_1
        try clear hcz23_2
        try clear hcz23_3
        try clear hcz30_0
        try clear hcz30_1
        try clear hcz30_2
        try clear hcz30_3
        try clear hfz15_0
        try clear hfz15_1
        try clear hfz15_2
        try clear hfz15_3
        try clear hfz23_0
        try clear hfz23_1
        try clear hfz23_2
        try clear hfz23_3
        try clear hfz30_0
        try clear hfz30_1
        try clear hfz30_2
        try clear hfz30_3
        try clear p2
        try clear p39
        try clear q39
        obtain ⟨kq, x4_32, rfl, HA, HJ32, BK193, HB⟩ := hcut
        cases kq with
        | zero => exact absurd HA.out (by simp [trickleref15_one.j1])
        | succ kj32 =>
          have H := HA.out
          clear HA
          simp only [trickleref15_one.j1] at H
          have HC40 := Aside0.mk H
          clear H
          go_upto_region 15 with (fail)
          go_cut [60] (fun v60 wc => ∃ (kq : Nat) (x60_39 : Bool), v60 = .bool x60_39 ∧ Aside0 (trickleref15_one.j2 kq a0 t199 x4_32 x60_39 = some (r1, r2, r3, r4)) ∧ Aside0 (kq ≤ kj32) ∧ Aside0 (wc.heap[gb193]? = some (.cells #[.int .i64 0, .string (⟨#[]⟩ : ByteArray), .int .i16 0, .int .i64 0] 32 (0, 0))) ∧ Aside0 (Below w.heap.size w wc))
          case first =>
            have H := HC40.out
            clear HC40
            by_cases c41 : x4_32 > 32767
            · rw [if_pos c41] at H
              have c41b0 : decide (32767 < x4_32) = true := decide_eq_true c41
              clear c41
              (first | rw [c41b0] | (simp only [i64_w, i32_w]; rw [c41b0]) | skip)
              have H' := Aside0.mk H
              clear H
              go_wp2
              go_meet
              case rel => exact ⟨_, (true), (by first | rfl | (simp; done) | (simp [*]; done)), H', ⟨by have := HJ32.out; first | omega | exact Nat.le_refl _⟩, ⟨by (with_reducible repeat (first | refine blk_drewN ?_ _ | refine blk_drew ?_ | refine blk_alloc ?_ _)); exact BK193.out⟩, ⟨by repeat (first | (with_reducible first | exact HB.out | apply below_alloc | apply pw_below_drewN | apply below_drew1 | refine below_set ?_ GE193.out) | exact HB.out)⟩⟩
            · rw [if_neg c41] at H
              have c41b0 : decide (32767 < x4_32) = false := decide_eq_false c41
              clear c41
              (first | rw [c41b0] | (simp only [i64_w, i32_w]; rw [c41b0]) | skip)
              by_cases c42 : t199 > 1
              · rw [if_pos c42] at H
                have c42b0 : decide (1 < t199) = true := decide_eq_true c42
                clear c42
                by_cases c43 : 0 < (a0.size : Int)
                · rw [if_pos c43] at H
                  have c43b0 : decide (0 < (a0.size : Int)) = true := decide_eq_true c43
                  have c43b1 : decide (0 < a0.size) = true := decide_eq_true (by omega)
                  clear c43
                  have H' := Aside0.mk H
                  clear H
                  have p44 : 0 ≤ (0 : Int) := (by omega)
                  have q44 : 0 < a0.size := (by have : (0 : Int) < (a0.size : Int) := of_decide_eq_true (by first | (with_reducible assumption) | assumption); omega)
                  have hx44 : ∀ h : 0 < a0.size, ((a0[0]'h).toNat : Int) = bt a0 0 := bt_at a0 0
                  clear p44
                  have qi44 : (0 < (a0.size : Int)) = True := eq_true (of_decide_eq_true (by first | (with_reducible assumption) | assumption))
                  replace q44 := eq_true q44
                  go_wp2
                  go_meet
                  case rel => exact ⟨_, (((bt a0 0) == 48)), (by first | rfl | (simp; done) | (simp [*]; done)), H', ⟨by have := HJ32.out; first | omega | exact Nat.le_refl _⟩, ⟨by (with_reducible repeat (first | refine blk_drewN ?_ _ | refine blk_drew ?_ | refine blk_alloc ?_ _)); exact BK193.out⟩, ⟨by repeat (first | (with_reducible first | exact HB.out | apply below_alloc | apply pw_below_drewN | apply below_drew1 | refine below_set ?_ GE193.out) | exact HB.out)⟩⟩
                · rw [if_neg c43] at H
                  exact absurd H (by simp)
              · rw [if_neg c42] at H
                have c42b0 : decide (1 < t199) = false := decide_eq_false c42
                clear c42
                have H' := Aside0.mk H
                clear H
                go_wp2
                go_meet
                case rel => exact ⟨_, (false), (by first | rfl | (simp; done) | (simp [*]; done)), H', ⟨by have := HJ32.out; first | omega | exact Nat.le_refl _⟩, ⟨by (with_reducible repeat (first | refine blk_drewN ?_ _ | refine blk_drew ?_ | refine blk_alloc ?_ _)); exact BK193.out⟩, ⟨by repeat (first | (with_reducible first | exact HB.out | apply below_alloc | apply pw_below_drewN | apply below_drew1 | refine below_set ?_ GE193.out) | exact HB.out)⟩⟩
          case rest =>
            clear HC40
            try clear c1
            try clear c2
            try clear p2
            try clear c3
            try clear c3b0
            try clear p3
            try clear q3
            try clear hx3
            try clear c4
            try clear p4
            try clear q4
            try clear hx4
            try clear qi4
            try clear c5
            try clear c5b0
            try clear c5b1
            try clear c6
            try clear c6b0
            try clear c6b1
            try clear p6
            try clear c8
            try clear c9
            try clear c9b0
            try clear c10
            try clear c10b0
            try clear c16
            try clear c16b0
            try clear c17
            try clear c17b0
            try clear c18
            try clear c18b0
            try clear c21
            try clear c24
            try clear c24b0
            try clear c25
            try clear c25b0
            try clear c29
            try clear c32
            try clear c32b0
            try clear c35
            try clear c35b0
            try clear c36
            try clear c36b0
            try clear c37
            try clear c37b0
            try clear c38
            try clear c38b0
            try clear p39
            try clear q39
            try clear hx39
            try clear c41
            try clear c41b0
            try clear c42
            try clear c42b0
            try clear c43
            try clear c43b0
            try clear c43b1
            try clear p44
            try clear q44
            try clear hx44
            try clear qi44
            try clear hcz15_0
            try clear hcz15_1
            try clear hcz15_2
            try clear hcz15_3
            try clear hcz23_0
            try clear hcz23_1
            try clear hcz23_2
            try clear hcz23_3
            try clear hcz30_0
            try clear hcz30_1
            try clear hcz30_2
            try clear hcz30_3
            try clear hfz15_0
            try clear hfz15_1
            try clear hfz15_2
            try clear hfz15_3
            try clear hfz23_0
            try clear hfz23_1
            try clear hfz23_2
            try clear hfz23_3
            try clear hfz30_0
            try clear hfz30_1
            try clear hfz30_2
            try clear hfz30_3
            try clear p2
            try clear p3
            try clear p39
            try clear p44
            try clear p6
            try clear q3
            try clear q39
            try clear q44
            obtain ⟨kq, x60_39, rfl, HA, HJ39, BK193, HB⟩ := hcut
            cases kq with
            | zero => exact absurd HA.out (by simp [trickleref15_one.j2])
            | succ kj39 =>
              have H := HA.out
              clear HA
              simp only [trickleref15_one.j2] at H
              by_cases c45 : x60_39 = true
              · subst c45
                have H1 : (if 0 ≤ t199 then (if t199 ≤ (a0.size : Int) then (some (5, a0.extract 0 (t199 : Int).toNat, 0, 0)) else (none)) else (none)) = some (r1, r2, r3, r4) := by rw [if_pos rfl] at H; exact H
                clear H
                have H := H1
                clear H1
                by_cases c46 : 0 ≤ t199
                · rw [if_pos c46] at H
                  have c46b0 := eq_true c46
                  have c46b1 : decide (0 ≤ t199) = true := decide_eq_true c46
                  clear c46
                  by_cases c47 : t199 ≤ (a0.size : Int)
                  · rw [if_pos c47] at H
                    have c47b0 := eq_true c47
                    have c47b1 : decide (t199 ≤ (a0.size : Int)) = true := decide_eq_true c47
                    clear c47
                    simp only [Option.some.injEq, Prod.mk.injEq] at H
                    obtain ⟨rfl, rfl, rfl, rfl⟩ := H
                    have hcz48_0 : wc.cell? ⟨gb193, 0, none⟩ = some (.int .i64 0) := (blk_cell BK193.out 0).trans rfl
                    have hcz48_1 : wc.cell? ⟨gb193, 1, none⟩ = some (.string (⟨#[]⟩ : ByteArray)) := (blk_cell BK193.out 1).trans rfl
                    have hcz48_2 : wc.cell? ⟨gb193, 2, none⟩ = some (.int .i16 0) := (blk_cell BK193.out 2).trans rfl
                    have hcz48_3 : wc.cell? ⟨gb193, 3, none⟩ = some (.int .i64 0) := (blk_cell BK193.out 3).trans rfl
                    have hfz48_0 := blk_frozen BK193.out 0
                    have hfz48_1 := blk_frozen BK193.out 1
                    have hfz48_2 := blk_frozen BK193.out 2
                    have hfz48_3 := blk_frozen BK193.out 3
                    go_wp2
                    refine bodyPost_ret (results_cell_row rfl _ _ gb193 32 #[.int .i64 5, .string (a0.extract 0 (t199 : Int).toNat), .int .i16 0, .int .i64 0] (0, 0) _ rfl (by (with_reducible repeat (first | refine blk_drewN ?_ _ | refine blk_drew ?_ | refine blk_alloc ?_ _)); refine blk_put (cs := #[.int .i64 5, .string (a0.extract 0 (t199 : Int).toNat), .int .i16 0, .int .i64 0]) ?_ 3 _ rfl; (with_reducible repeat (first | refine blk_drewN ?_ _ | refine blk_drew ?_ | refine blk_alloc ?_ _)); refine blk_put (cs := #[.int .i64 5, .string (a0.extract 0 (t199 : Int).toNat), .int .i16 0, .int .i64 0]) ?_ 2 _ rfl; (with_reducible repeat (first | refine blk_drewN ?_ _ | refine blk_drew ?_ | refine blk_alloc ?_ _)); refine blk_put (cs := #[.int .i64 5, .string (⟨#[]⟩ : ByteArray), .int .i16 0, .int .i64 0]) ?_ 1 _ rfl; (with_reducible repeat (first | refine blk_drewN ?_ _ | refine blk_drew ?_ | refine blk_alloc ?_ _)); refine blk_put (cs := #[.int .i64 0, .string (⟨#[]⟩ : ByteArray), .int .i16 0, .int .i64 0]) ?_ 0 _ rfl; (with_reducible repeat (first | refine blk_drewN ?_ _ | refine blk_drew ?_ | refine blk_alloc ?_ _)); exact BK193.out) Tryd.underlying32 rfl (by kernel_rfl)) rfl ?_
                    exact ⟨by first | rfl | (simp [errW_none, errW_some] <;> rfl) | (simp [*, errW_none, errW_some] <;> rfl), by repeat (first | (with_reducible first | exact HB.out | apply below_alloc | apply pw_below_drewN | apply below_drew1 | refine below_set ?_ GE193.out) | exact HB.out)⟩
                  · rw [if_neg c47] at H
                    exact absurd H (by simp)
                · rw [if_neg c46] at H
                  exact absurd H (by simp)
              · replace c45 := Bool.eq_false_iff.mpr c45
                subst c45
                have H1 : (if 0 ≤ t199 then (if t199 ≤ (a0.size : Int) then (some (2, a0.extract 0 (t199 : Int).toNat, IntKind.i16.wrap (x4_32), 0)) else (none)) else (none)) = some (r1, r2, r3, r4) := by rw [if_neg (show ¬ (false = true) by decide)] at H; exact H
                clear H
                have H := H1
                clear H1
                by_cases c49 : 0 ≤ t199
                · rw [if_pos c49] at H
                  have c49b0 := eq_true c49
                  have c49b1 : decide (0 ≤ t199) = true := decide_eq_true c49
                  clear c49
                  by_cases c50 : t199 ≤ (a0.size : Int)
                  · rw [if_pos c50] at H
                    have c50b0 := eq_true c50
                    have c50b1 : decide (t199 ≤ (a0.size : Int)) = true := decide_eq_true c50
                    clear c50
                    simp only [Option.some.injEq, Prod.mk.injEq] at H
                    obtain ⟨rfl, rfl, rfl, rfl⟩ := H
                    have hcz51_0 : wc.cell? ⟨gb193, 0, none⟩ = some (.int .i64 0) := (blk_cell BK193.out 0).trans rfl
                    have hcz51_1 : wc.cell? ⟨gb193, 1, none⟩ = some (.string (⟨#[]⟩ : ByteArray)) := (blk_cell BK193.out 1).trans rfl
                    have hcz51_2 : wc.cell? ⟨gb193, 2, none⟩ = some (.int .i16 0) := (blk_cell BK193.out 2).trans rfl
                    have hcz51_3 : wc.cell? ⟨gb193, 3, none⟩ = some (.int .i64 0) := (blk_cell BK193.out 3).trans rfl
                    have hfz51_0 := blk_frozen BK193.out 0
                    have hfz51_1 := blk_frozen BK193.out 1
                    have hfz51_2 := blk_frozen BK193.out 2
                    have hfz51_3 := blk_frozen BK193.out 3
                    go_wp2
                    refine bodyPost_ret (results_cell_row rfl _ _ gb193 32 #[.int .i64 2, .string (a0.extract 0 (t199 : Int).toNat), .int .i16 (IntKind.i16.wrap (x4_32)), .int .i64 0] (0, 0) _ rfl (by (with_reducible repeat (first | refine blk_drewN ?_ _ | refine blk_drew ?_ | refine blk_alloc ?_ _)); refine blk_put (cs := #[.int .i64 2, .string (a0.extract 0 (t199 : Int).toNat), .int .i16 (IntKind.i16.wrap (x4_32)), .int .i64 0]) ?_ 3 _ rfl; (with_reducible repeat (first | refine blk_drewN ?_ _ | refine blk_drew ?_ | refine blk_alloc ?_ _)); refine blk_put (cs := #[.int .i64 2, .string (a0.extract 0 (t199 : Int).toNat), .int .i16 0, .int .i64 0]) ?_ 2 _ rfl; (with_reducible repeat (first | refine blk_drewN ?_ _ | refine blk_drew ?_ | refine blk_alloc ?_ _)); refine blk_put (cs := #[.int .i64 2, .string (⟨#[]⟩ : ByteArray), .int .i16 0, .int .i64 0]) ?_ 1 _ rfl; (with_reducible repeat (first | refine blk_drewN ?_ _ | refine blk_drew ?_ | refine blk_alloc ?_ _)); refine blk_put (cs := #[.int .i64 0, .string (⟨#[]⟩ : ByteArray), .int .i16 0, .int .i64 0]) ?_ 0 _ rfl; (with_reducible repeat (first | refine blk_drewN ?_ _ | refine blk_drew ?_ | refine blk_alloc ?_ _)); exact BK193.out) Tryd.underlying32 rfl (by kernel_rfl)) rfl ?_
                    exact ⟨by first | rfl | (simp [errW_none, errW_some] <;> rfl) | (simp [*, errW_none, errW_some] <;> rfl), by repeat (first | (with_reducible first | exact HB.out | apply below_alloc | apply pw_below_drewN | apply below_drew1 | refine below_set ?_ GE193.out) | exact HB.out)⟩
                  · rw [if_neg c50] at H
                    exact absurd H (by simp)
                · rw [if_neg c49] at H
                  exact absurd H (by simp)
    · rw [if_neg c32] at H
      have c32b0 : decide (0 < t199) = false := decide_eq_false c32
      clear c32
      replace H := Option.bind_eq_some_iff.mp H
      obtain ⟨t200, A520, H⟩ := H
      replace H : (if t200 > 0 then (if 0 ≤ t200 then (if t200 ≤ (a0.size : Int) then (some (4, a0.extract 0 (t200 : Int).toNat, 0, 0)) else (none)) else (none)) else (if 0 ≤ 1 then (if 1 ≤ (a0.size : Int) then (some (5, a0.extract 0 1, 0, 0)) else (none)) else (none))) = some (r1, r2, r3, r4) := H
      have A52 := Aside0.mk A520
      clear A520
      by_cases c53 : t200 > 0
      · rw [if_pos c53] at H
        have c53b0 : decide (0 < t200) = true := decide_eq_true c53
        clear c53
        by_cases c54 : 0 ≤ t200
        · rw [if_pos c54] at H
          have c54b0 := eq_true c54
          have c54b1 : decide (0 ≤ t200) = true := decide_eq_true c54
          clear c54
          by_cases c55 : t200 ≤ (a0.size : Int)
          · rw [if_pos c55] at H
            have c55b0 := eq_true c55
            have c55b1 : decide (t200 ≤ (a0.size : Int)) = true := decide_eq_true c55
            clear c55
            simp only [Option.some.injEq, Prod.mk.injEq] at H
            obtain ⟨rfl, rfl, rfl, rfl⟩ := H
            go_enter Tryd.func29, Tryd.ntmps29
            go_wp2_with (first | ((with_reducible refine gate_dst (N := 2) rfl ?_); refine box_event ?hg (N := 2) ?hd (cs := #[.int .i64 0, .string (⟨#[]⟩ : ByteArray), .int .i16 0, .int .i64 0]) (t := 32) ?hr ?_; (case hd => rfl); (case hg => rfl); (case hr => first | (go_simp; done) | (go_simp; rfl)); intro gb193 hg w56 hbox hb; have n0_ := Aside0.mk (below_step (by repeat (first | (with_reducible first | exact HB.out | apply below_alloc | apply pw_below_drewN | apply below_drew1) | exact HB.out)) hb); have n1_ := Aside0.mk (hbox); have n2_ := Aside0.mk ((by rw [hg]; exact (below_size (by repeat (first | (with_reducible first | exact HB.out | apply below_alloc | apply pw_below_drewN | apply below_drew1) | exact HB.out))) : w.heap.size ≤ gb193)); have n3_ := Aside0.mk ((by rw [hg]; exact (below_size (by repeat (first | (with_reducible first | exact HB.out | apply below_alloc | apply pw_below_drewN | apply below_drew1) | exact HB.out))) : w.heap.size ≤ gb193)); clear HB; have HB := n0_; have BK193 := n1_; have GW193 := n2_; have GE193 := n3_; clear n0_ n1_ n2_ n3_; clear hb hbox hg) | ((with_reducible refine gate_callee (f := 45) rfl ?_); refine goesL_ (some 7) rfl rfl Tryd.func45 (by kernel_rfl) rfl #[.string a0] rfl (by (try simp only [List.map_toArray, List.map_cons, List.map_nil]); first | done | rfl | (simp only [List.length_drop, List.length_take]; rfl)) ?_; (with_reducible refine (trickleref15_word.calls k a0 t194 _ A2.out).mono ?_); rintro e w' ⟨rfl, ⟨nd, rfl⟩⟩; refine ⟨_, rfl, ?_⟩; (try (rw [drewN_self w56]; generalize hq_ : World.drewN w56 _ = w56; have n0_ : Aside0 (w56.heap[gb193]? = some (.cells #[.int .i64 0, .string (⟨#[]⟩ : ByteArray), .int .i16 0, .int .i64 0] 32 (0, 0))) := ⟨by rw [← hq_]; exact (by (with_reducible repeat (first | refine blk_drewN ?_ _ | refine blk_drew ?_ | refine blk_alloc ?_ _)); exact BK193.out)⟩; have n1_ : Aside0 (Below w.heap.size w w56) := ⟨by rw [← hq_]; exact (by repeat (first | (with_reducible first | exact HB.out | apply below_alloc | apply pw_below_drewN | apply below_drew1 | refine below_set ?_ GE193.out) | exact HB.out))⟩; clear BK193 HB hq_; have BK193 := n0_; have HB := n1_; clear n0_ n1_))) | ((with_reducible refine gate_callee (f := 47) rfl ?_); refine goesL_ (some 30) rfl rfl Tryd.func47 (by kernel_rfl) rfl #[.string a0] rfl (by (try simp only [List.map_toArray, List.map_cons, List.map_nil]); first | done | rfl | (simp only [List.length_drop, List.length_take]; rfl)) ?_; (with_reducible refine (trickleref15_number.calls k a0 t199 _ A31.out).mono ?_); rintro e w' ⟨rfl, ⟨nd, rfl⟩⟩; refine ⟨_, rfl, ?_⟩; (try (rw [drewN_self w56]; generalize hq_ : World.drewN w56 _ = w56; have n0_ : Aside0 (w56.heap[gb193]? = some (.cells #[.int .i64 0, .string (⟨#[]⟩ : ByteArray), .int .i16 0, .int .i64 0] 32 (0, 0))) := ⟨by rw [← hq_]; exact (by (with_reducible repeat (first | refine blk_drewN ?_ _ | refine blk_drew ?_ | refine blk_alloc ?_ _)); exact BK193.out)⟩; have n1_ : Aside0 (Below w.heap.size w w56) := ⟨by rw [← hq_]; exact (by repeat (first | (with_reducible first | exact HB.out | apply below_alloc | apply pw_below_drewN | apply below_drew1 | refine below_set ?_ GE193.out) | exact HB.out))⟩; clear BK193 HB hq_; have BK193 := n0_; have HB := n1_; clear n0_ n1_))) | ((with_reducible refine gate_callee (f := 48) rfl ?_); refine goesL_ (some 72) rfl rfl Tryd.func48 (by kernel_rfl) rfl #[.string a0] rfl (by (try simp only [List.map_toArray, List.map_cons, List.map_nil]); first | done | rfl | (simp only [List.length_drop, List.length_take]; rfl)) ?_; (with_reducible refine (trickleref15_mark.calls k a0 t200 _ A52.out).mono ?_); rintro e w57 ⟨rfl, hb⟩; refine ⟨_, rfl, ?_⟩; have n0_ := Aside0.mk (blk_below (g := gb193) (o := .cells #[.int .i64 0, .string (⟨#[]⟩ : ByteArray), .int .i16 0, .int .i64 0] 32 (0, 0)) (by (with_reducible repeat (first | refine blk_drewN ?_ _ | refine blk_drew ?_ | refine blk_alloc ?_ _)); exact BK193.out) hb); have n1_ := Aside0.mk (below_step (by repeat (first | (with_reducible first | exact HB.out | apply below_alloc | apply pw_below_drewN | apply below_drew1 | refine below_set ?_ GE193.out) | exact HB.out)) hb); clear BK193; clear HB; have BK193 := n0_; have HB := n1_; clear n0_ n1_; (try clear hb); (try clear hb2); (try clear hk); (try clear hi); have hcz58_0 : w57.cell? ⟨gb193, 0, none⟩ = some (.int .i64 0) := (blk_cell BK193.out 0).trans rfl; have hcz58_1 : w57.cell? ⟨gb193, 1, none⟩ = some (.string (⟨#[]⟩ : ByteArray)) := (blk_cell BK193.out 1).trans rfl; have hcz58_2 : w57.cell? ⟨gb193, 2, none⟩ = some (.int .i16 0) := (blk_cell BK193.out 2).trans rfl; have hcz58_3 : w57.cell? ⟨gb193, 3, none⟩ = some (.int .i64 0) := (blk_cell BK193.out 3).trans rfl; have hfz58_0 := blk_frozen BK193.out 0; have hfz58_1 := blk_frozen BK193.out 1; have hfz58_2 := blk_frozen BK193.out 2; have hfz58_3 := blk_frozen BK193.out 3))
            refine bodyPost_ret (results_cell_row rfl _ _ gb193 32 #[.int .i64 4, .string (a0.extract 0 (t200 : Int).toNat), .int .i16 0, .int .i64 0] (0, 0) _ rfl (by (with_reducible repeat (first | refine blk_drewN ?_ _ | refine blk_drew ?_ | refine blk_alloc ?_ _)); refine blk_put (cs := #[.int .i64 4, .string (a0.extract 0 (t200 : Int).toNat), .int .i16 0, .int .i64 0]) ?_ 3 _ rfl; (with_reducible repeat (first | refine blk_drewN ?_ _ | refine blk_drew ?_ | refine blk_alloc ?_ _)); refine blk_put (cs := #[.int .i64 4, .string (a0.extract 0 (t200 : Int).toNat), .int .i16 0, .int .i64 0]) ?_ 2 _ rfl; (with_reducible repeat (first | refine blk_drewN ?_ _ | refine blk_drew ?_ | refine blk_alloc ?_ _)); refine blk_put (cs := #[.int .i64 4, .string (⟨#[]⟩ : ByteArray), .int .i16 0, .int .i64 0]) ?_ 1 _ rfl; (with_reducible repeat (first | refine blk_drewN ?_ _ | refine blk_drew ?_ | refine blk_alloc ?_ _)); refine blk_put (cs := #[.int .i64 0, .string (⟨#[]⟩ : ByteArray), .int .i16 0, .int .i64 0]) ?_ 0 _ rfl; (with_reducible repeat (first | refine blk_drewN ?_ _ | refine blk_drew ?_ | refine blk_alloc ?_ _)); exact BK193.out) Tryd.underlying32 rfl (by kernel_rfl)) rfl ?_
            exact ⟨by first | rfl | (simp [errW_none, errW_some] <;> rfl) | (simp [*, errW_none, errW_some] <;> rfl), by repeat (first | (with_reducible first | exact HB.out | apply below_alloc | apply pw_below_drewN | apply below_drew1 | refine below_set ?_ GE193.out) | exact HB.out)⟩
          · rw [if_neg c55] at H
            exact absurd H (by simp)
        · rw [if_neg c54] at H
          exact absurd H (by simp)
      · rw [if_neg c53] at H
        have c53b0 : decide (0 < t200) = false := decide_eq_false c53
        clear c53
        by_cases c59 : 0 ≤ 1
        · rw [if_pos c59] at H
          have c59b0 := eq_true c59
          have c59b1 : decide (0 ≤ 1) = true := decide_eq_true c59
          clear c59
          by_cases c60 : 1 ≤ (a0.size : Int)
          · rw [if_pos c60] at H
            have c60b0 := eq_true c60
            have c60b1 : decide (1 ≤ (a0.size : Int)) = true := decide_eq_true c60
            clear c60
            simp only [Option.some.injEq, Prod.mk.injEq] at H
            obtain ⟨rfl, rfl, rfl, rfl⟩ := H
            go_enter Tryd.func29, Tryd.ntmps29
            go_wp2_with (first | ((with_reducible refine gate_dst (N := 2) rfl ?_); refine box_event ?hg (N := 2) ?hd (cs := #[.int .i64 0, .string (⟨#[]⟩ : ByteArray), .int .i16 0, .int .i64 0]) (t := 32) ?hr ?_; (case hd => rfl); (case hg => rfl); (case hr => first | (go_simp; done) | (go_simp; rfl)); intro gb193 hg w61 hbox hb; have n0_ := Aside0.mk (below_step (by repeat (first | (with_reducible first | exact HB.out | apply below_alloc | apply pw_below_drewN | apply below_drew1) | exact HB.out)) hb); have n1_ := Aside0.mk (hbox); have n2_ := Aside0.mk ((by rw [hg]; exact (below_size (by repeat (first | (with_reducible first | exact HB.out | apply below_alloc | apply pw_below_drewN | apply below_drew1) | exact HB.out))) : w.heap.size ≤ gb193)); have n3_ := Aside0.mk ((by rw [hg]; exact (below_size (by repeat (first | (with_reducible first | exact HB.out | apply below_alloc | apply pw_below_drewN | apply below_drew1) | exact HB.out))) : w.heap.size ≤ gb193)); clear HB; have HB := n0_; have BK193 := n1_; have GW193 := n2_; have GE193 := n3_; clear n0_ n1_ n2_ n3_; clear hb hbox hg) | ((with_reducible refine gate_callee (f := 45) rfl ?_); refine goesL_ (some 7) rfl rfl Tryd.func45 (by kernel_rfl) rfl #[.string a0] rfl (by (try simp only [List.map_toArray, List.map_cons, List.map_nil]); first | done | rfl | (simp only [List.length_drop, List.length_take]; rfl)) ?_; (with_reducible refine (trickleref15_word.calls k a0 t194 _ A2.out).mono ?_); rintro e w' ⟨rfl, ⟨nd, rfl⟩⟩; refine ⟨_, rfl, ?_⟩; (try (rw [drewN_self w61]; generalize hq_ : World.drewN w61 _ = w61; have n0_ : Aside0 (w61.heap[gb193]? = some (.cells #[.int .i64 0, .string (⟨#[]⟩ : ByteArray), .int .i16 0, .int .i64 0] 32 (0, 0))) := ⟨by rw [← hq_]; exact (by (with_reducible repeat (first | refine blk_drewN ?_ _ | refine blk_drew ?_ | refine blk_alloc ?_ _)); exact BK193.out)⟩; have n1_ : Aside0 (Below w.heap.size w w61) := ⟨by rw [← hq_]; exact (by repeat (first | (with_reducible first | exact HB.out | apply below_alloc | apply pw_below_drewN | apply below_drew1 | refine below_set ?_ GE193.out) | exact HB.out))⟩; clear BK193 HB hq_; have BK193 := n0_; have HB := n1_; clear n0_ n1_))) | ((with_reducible refine gate_callee (f := 47) rfl ?_); refine goesL_ (some 30) rfl rfl Tryd.func47 (by kernel_rfl) rfl #[.string a0] rfl (by (try simp only [List.map_toArray, List.map_cons, List.map_nil]); first | done | rfl | (simp only [List.length_drop, List.length_take]; rfl)) ?_; (with_reducible refine (trickleref15_number.calls k a0 t199 _ A31.out).mono ?_); rintro e w' ⟨rfl, ⟨nd, rfl⟩⟩; refine ⟨_, rfl, ?_⟩; (try (rw [drewN_self w61]; generalize hq_ : World.drewN w61 _ = w61; have n0_ : Aside0 (w61.heap[gb193]? = some (.cells #[.int .i64 0, .string (⟨#[]⟩ : ByteArray), .int .i16 0, .int .i64 0] 32 (0, 0))) := ⟨by rw [← hq_]; exact (by (with_reducible repeat (first | refine blk_drewN ?_ _ | refine blk_drew ?_ | refine blk_alloc ?_ _)); exact BK193.out)⟩; have n1_ : Aside0 (Below w.heap.size w w61) := ⟨by rw [← hq_]; exact (by repeat (first | (with_reducible first | exact HB.out | apply below_alloc | apply pw_below_drewN | apply below_drew1 | refine below_set ?_ GE193.out) | exact HB.out))⟩; clear BK193 HB hq_; have BK193 := n0_; have HB := n1_; clear n0_ n1_))) | ((with_reducible refine gate_callee (f := 48) rfl ?_); refine goesL_ (some 72) rfl rfl Tryd.func48 (by kernel_rfl) rfl #[.string a0] rfl (by (try simp only [List.map_toArray, List.map_cons, List.map_nil]); first | done | rfl | (simp only [List.length_drop, List.length_take]; rfl)) ?_; (with_reducible refine (trickleref15_mark.calls k a0 t200 _ A52.out).mono ?_); rintro e w62 ⟨rfl, hb⟩; refine ⟨_, rfl, ?_⟩; have n0_ := Aside0.mk (blk_below (g := gb193) (o := .cells #[.int .i64 0, .string (⟨#[]⟩ : ByteArray), .int .i16 0, .int .i64 0] 32 (0, 0)) (by (with_reducible repeat (first | refine blk_drewN ?_ _ | refine blk_drew ?_ | refine blk_alloc ?_ _)); exact BK193.out) hb); have n1_ := Aside0.mk (below_step (by repeat (first | (with_reducible first | exact HB.out | apply below_alloc | apply pw_below_drewN | apply below_drew1 | refine below_set ?_ GE193.out) | exact HB.out)) hb); clear BK193; clear HB; have BK193 := n0_; have HB := n1_; clear n0_ n1_; (try clear hb); (try clear hb2); (try clear hk); (try clear hi); have hcz63_0 : w62.cell? ⟨gb193, 0, none⟩ = some (.int .i64 0) := (blk_cell BK193.out 0).trans rfl; have hcz63_1 : w62.cell? ⟨gb193, 1, none⟩ = some (.string (⟨#[]⟩ : ByteArray)) := (blk_cell BK193.out 1).trans rfl; have hcz63_2 : w62.cell? ⟨gb193, 2, none⟩ = some (.int .i16 0) := (blk_cell BK193.out 2).trans rfl; have hcz63_3 : w62.cell? ⟨gb193, 3, none⟩ = some (.int .i64 0) := (blk_cell BK193.out 3).trans rfl; have hfz63_0 := blk_frozen BK193.out 0; have hfz63_1 := blk_frozen BK193.out 1; have hfz63_2 := blk_frozen BK193.out 2; have hfz63_3 := blk_frozen BK193.out 3))
            refine bodyPost_ret (results_cell_row rfl _ _ gb193 32 #[.int .i64 5, .string (a0.extract 0 1), .int .i16 0, .int .i64 0] (0, 0) _ rfl (by (with_reducible repeat (first | refine blk_drewN ?_ _ | refine blk_drew ?_ | refine blk_alloc ?_ _)); refine blk_put (cs := #[.int .i64 5, .string (a0.extract 0 1), .int .i16 0, .int .i64 0]) ?_ 3 _ rfl; (with_reducible repeat (first | refine blk_drewN ?_ _ | refine blk_drew ?_ | refine blk_alloc ?_ _)); refine blk_put (cs := #[.int .i64 5, .string (a0.extract 0 1), .int .i16 0, .int .i64 0]) ?_ 2 _ rfl; (with_reducible repeat (first | refine blk_drewN ?_ _ | refine blk_drew ?_ | refine blk_alloc ?_ _)); refine blk_put (cs := #[.int .i64 5, .string (⟨#[]⟩ : ByteArray), .int .i16 0, .int .i64 0]) ?_ 1 _ rfl; (with_reducible repeat (first | refine blk_drewN ?_ _ | refine blk_drew ?_ | refine blk_alloc ?_ _)); refine blk_put (cs := #[.int .i64 0, .string (⟨#[]⟩ : ByteArray), .int .i16 0, .int .i64 0]) ?_ 0 _ rfl; (with_reducible repeat (first | refine blk_drewN ?_ _ | refine blk_drew ?_ | refine blk_alloc ?_ _)); exact BK193.out) Tryd.underlying32 rfl (by kernel_rfl)) rfl ?_
            exact ⟨by first | rfl | (simp [errW_none, errW_some] <;> rfl) | (simp [*, errW_none, errW_some] <;> rfl), by repeat (first | (with_reducible first | exact HB.out | apply below_alloc | apply pw_below_drewN | apply below_drew1 | refine below_set ?_ GE193.out) | exact HB.out)⟩
          · rw [if_neg c60] at H
            exact absurd H (by simp)
        · rw [if_neg c59] at H
          exact absurd H (by simp)

end Go.Proofs.YtmpbkemicfmbaaaDoor.PX
/- The lexer in plain words, 2: words, numbers and marks; next and one give the same token. -/
namespace Go.Proofs.YtmpbkemicfmbaaaDoor.PX
open Go.RowKit Go.Proofs.YtmpbkemicfmbaaaDoorW.PrintWords Go.Proofs.YtmpbkemicfmbaaaDoorW.PrintLast Go.Proofs.YtmpbkemicfmbaaaDoorW.PrintMore
set_option linter.unusedVariables false
set_option linter.unusedSimpArgs false
def ltrI (c : Int) : Bool := (decide (97 ≤ c) && decide (c ≤ 122)) || ((decide (65 ≤ c) && decide (c ≤ 90)) || c == 95)
def dgtI (c : Int) : Bool := decide (48 ≤ c) && decide (c ≤ 57)
def ltrB (c : UInt8) : Bool := ltrI c.toNat
def dgtB (c : UInt8) : Bool := dgtI c.toNat
def wrdB (c : UInt8) : Bool := ltrB c || dgtB c
theorem letter_impl (c : Int) : lexer_letter.f c = some (ltrI c) := by
  unfold lexer_letter.f ltrI
  by_cases h1 : 97 ≤ c <;> by_cases h2 : c ≤ 122 <;> by_cases h3 : 65 ≤ c <;> by_cases h4 : c ≤ 90 <;> simp [h1, h2, h3, h4]
theorem letter_ref (c : Int) : trickleref15_letter.f c = some (ltrI c) := by
  unfold trickleref15_letter.f ltrI
  by_cases h1 : 97 ≤ c <;> by_cases h2 : c ≤ 122 <;> by_cases h3 : 65 ≤ c <;> by_cases h4 : c ≤ 90 <;> simp [h1, h2, h3, h4]
theorem digit_impl (c : Int) : lexer_digit.f c = some (dgtI c) := by
  unfold lexer_digit.f dgtI
  by_cases h1 : 48 ≤ c <;> simp [h1]
theorem digit_ref (c : Int) : trickleref15_digit.f c = some (dgtI c) := by
  unfold trickleref15_digit.f dgtI
  by_cases h1 : 48 ≤ c <;> simp [h1]
theorem next1_spec (c : Int) : next1F c = some (ltrI c || dgtI c) := by
  unfold next1F
  rw [letter_impl, Option.bind_some, digit_impl]
  cases ltrI c <;> simp
def pre (p : UInt8 → Bool) (l : List UInt8) : Nat := (l.takeWhile p).length
theorem pre_le (p : UInt8 → Bool) (l : List UInt8) : pre p l ≤ l.length := (List.takeWhile_sublist p).length_le
theorem pre_cons (p : UInt8 → Bool) (c : UInt8) (r : List UInt8) : pre p (c :: r) = if p c = true then 1 + pre p r else 0 := by
  unfold pre
  rw [List.takeWhile_cons]
  split <;> simp [Nat.add_comm]
theorem prefix_ev (s : ByteArray) (fn : Nat) (p : UInt8 → Bool) (hp : ∀ c : UInt8, hasF fn (c.toNat : Int) = some (p c)) (hn : (bs s).length ≤ 1000000) : ∀ (d j : Nat), j + d = (bs s).length → Ev (fun k => lexer_prefix.l0 k s fn (j : Int)) ((j + pre p ((bs s).drop j) : Nat) : Int)
  | 0, j, hj => by
    have hs := bs_len s
    rw [List.drop_of_length_le (by omega)]
    exact Ev.step (fun k => by rw [lexer_prefix.l0]) (Ev.cast (Ev.neg (by omega) (Ev.now _)) (by simp [pre]))
  | d + 1, j, hj => by
    have hs := bs_len s
    have hl : j < (bs s).length := by omega
    refine Ev.step (fun k => by rw [lexer_prefix.l0]) (Ev.pos (by omega) (Ev.pos (by omega) ?_))
    rw [bt_bs s j hl, drop_cons (bs s) j hl, wrap_nat (n := (bs s).length) hl (by omega), pre_cons]
    refine Ev.const (hp _) ?_
    by_cases h : p (bs s)[j] = true
    · refine Ev.pos h (Ev.cast (prefix_ev s fn p hp hn d (j + 1) (by omega)) ?_)
      rw [if_pos h]
      congr 1
      omega
    · refine Ev.neg h (Ev.cast (Ev.now _) ?_)
      rw [if_neg h]
      rfl
theorem prefix43 (s : ByteArray) (hn : (bs s).length ≤ 1000000) : Ev (fun k => lexer_prefix.f k s 43) ((pre wrdB (bs s) : Nat) : Int) := by
  refine Ev.congr (f := fun k => lexer_prefix.l0 k s 43 ((0 : Nat) : Int)) (fun k => by rw [lexer_prefix.f, if_neg (by decide), if_pos rfl]; rfl) (Ev.cast (prefix_ev s 43 wrdB (fun c => by unfold hasF; rw [if_neg (by decide), if_pos rfl, next1_spec]; rfl) hn (bs s).length 0 (by omega)) ?_)
  rw [List.drop_zero, Nat.zero_add]
theorem prefix36 (s : ByteArray) (hn : (bs s).length ≤ 1000000) : Ev (fun k => lexer_prefix.f k s 36) ((pre dgtB (bs s) : Nat) : Int) := by
  refine Ev.congr (f := fun k => lexer_prefix.l0 k s 36 ((0 : Nat) : Int)) (fun k => by rw [lexer_prefix.f, if_pos rfl]; rfl) (Ev.cast (prefix_ev s 36 dgtB (fun c => by unfold hasF; rw [if_pos rfl, digit_impl]; rfl) hn (bs s).length 0 (by omega)) ?_)
  rw [List.drop_zero, Nat.zero_add]
theorem rnum_loop (s : ByteArray) (hn : (bs s).length ≤ 1000000) : ∀ (d j : Nat), j + d = (bs s).length → Ev (fun k => trickleref15_number.l0 k s (j : Int)) ((j + pre dgtB ((bs s).drop j) : Nat) : Int)
  | 0, j, hj => by
    have hs := bs_len s
    rw [List.drop_of_length_le (by omega)]
    exact Ev.step (fun k => by rw [trickleref15_number.l0]) (Ev.cast (Ev.neg (by omega) (Ev.now _)) (by simp [pre]))
  | d + 1, j, hj => by
    have hs := bs_len s
    have hl : j < (bs s).length := by omega
    refine Ev.step (fun k => by rw [trickleref15_number.l0]) (Ev.pos (by omega) (Ev.pos (by omega) ?_))
    rw [bt_bs s j hl, drop_cons (bs s) j hl, wrap_nat (n := (bs s).length) hl (by omega), pre_cons]
    refine Ev.const (digit_ref _) ?_
    by_cases h : dgtB (bs s)[j] = true
    · refine Ev.pos h (Ev.cast (rnum_loop s hn d (j + 1) (by omega)) ?_)
      rw [if_pos h]
      congr 1
      omega
    · refine Ev.neg h (Ev.cast (Ev.now _) ?_)
      rw [if_neg h]
      rfl
theorem rnum_ev (s : ByteArray) (hn : (bs s).length ≤ 1000000) : Ev (fun k => trickleref15_number.f k s) ((pre dgtB (bs s) : Nat) : Int) := by
  refine Ev.congr (f := fun k => trickleref15_number.l0 k s ((0 : Nat) : Int)) (fun k => rfl) (Ev.cast (rnum_loop s hn (bs s).length 0 (by omega)) ?_)
  rw [List.drop_zero, Nat.zero_add]
theorem rword_loop (s : ByteArray) (hn : (bs s).length ≤ 1000000) : ∀ (d j : Nat), j + d = (bs s).length → Ev (fun k => trickleref15_word.l0 k s (j : Int)) ((j + pre wrdB ((bs s).drop j) : Nat) : Int)
  | 0, j, hj => by
    have hs := bs_len s
    rw [List.drop_of_length_le (by omega)]
    refine Ev.step (fun k => by rw [trickleref15_word.l0]) (Ev.neg (by omega) ?_)
    exact Ev.step (fun k => by rw [trickleref15_word.j2]) (Ev.cast (Ev.neg (by decide) (Ev.now _)) (by simp [pre]))
  | d + 1, j, hj => by
    have hs := bs_len s
    have hl : j < (bs s).length := by omega
    refine Ev.step (fun k => by rw [trickleref15_word.l0]) (Ev.pos (by omega) (Ev.pos (by omega) ?_))
    have ih := rword_loop s hn d (j + 1) (by omega)
    have go : ∀ b : Bool, wrdB (bs s)[j] = b → Ev (fun k => trickleref15_word.j2 k s (j : Int) b) ((j + pre wrdB ((bs s).drop j) : Nat) : Int) := by
      intro b hb
      refine Ev.step (fun k => by rw [trickleref15_word.j2]) ?_
      rw [drop_cons (bs s) j hl, wrap_nat (n := (bs s).length) hl (by omega), pre_cons, hb]
      cases b with
      | true =>
        refine Ev.pos rfl (Ev.cast ih ?_)
        rw [if_pos rfl]
        congr 1
        omega
      | false => exact Ev.neg (by decide) (Ev.now _)
    rw [bt_bs s j hl]
    refine Ev.const (letter_ref _) ?_
    by_cases h : ltrI ((bs s)[j].toNat : Int) = true
    · exact Ev.pos h (go true (by unfold wrdB ltrB; rw [h]; rfl))
    · exact Ev.neg h (Ev.const (digit_ref _) (go _ (by unfold wrdB ltrB dgtB; rw [Bool.eq_false_iff.mpr h]; rfl)))
/-- The length of the word at the beginning. -/
def wordN (l : List UInt8) : Nat := if (l.head?.map ltrB).getD false = true then pre wrdB l else 0
theorem rword_ev (s : ByteArray) (hn : (bs s).length ≤ 1000000) : Ev (fun k => trickleref15_word.f k s) ((wordN (bs s) : Nat) : Int) := by
  have hs := bs_len s
  refine Ev.congr (fun k => by rw [trickleref15_word.f]) ?_
  by_cases h0 : (bs s).length = 0
  · refine Ev.pos (by omega) (Ev.step (fun k => by rw [trickleref15_word.j0]) (Ev.cast (Ev.pos rfl (Ev.now _)) ?_))
    rw [List.length_eq_zero_iff.mp h0]
    rfl
  · have hl : 0 < (bs s).length := by omega
    have hd : bs s = (bs s)[0] :: (bs s).drop 1 := by rw [← drop_cons (bs s) 0 hl]; rfl
    refine Ev.neg (by omega) (Ev.pos (by omega) ?_)
    have hb := bt_bs s 0 hl
    rw [show ((0 : Nat) : Int) = 0 from rfl] at hb
    rw [hb]
    refine Ev.const (letter_ref _) ?_
    by_cases h : ltrI ((bs s)[0].toNat : Int) = true
    · rw [h]
      have hl1 := rword_loop s hn ((bs s).length - 1) 1 (by omega)
      rw [show ((1 : Nat) : Int) = 1 from rfl] at hl1
      refine Ev.step (fun k => by rw [trickleref15_word.j0]) (Ev.neg (show ¬ (!true) = true by decide) (Ev.cast hl1 ?_))
      have hw : wrdB (bs s)[0] = true := by unfold wrdB ltrB; rw [h]; rfl
      have : wordN (bs s) = pre wrdB (bs s) := by
        unfold wordN
        rw [hd]
        exact if_pos h
      rw [this]
      conv => rhs; rw [hd, pre_cons, if_pos hw]
    · rw [Bool.eq_false_iff.mpr h]
      refine Ev.step (fun k => by rw [trickleref15_word.j0]) (Ev.cast (Ev.pos (show (!false) = true from rfl) (Ev.now _)) ?_)
      have : wordN (bs s) = 0 := by
        unfold wordN
        rw [hd]
        exact if_neg h
      rw [this]
      rfl
end Go.Proofs.YtmpbkemicfmbaaaDoor.PX
/- The lexer in plain words, 3: keywords, the value of a number, marks; next and one give the same token. -/
namespace Go.Proofs.YtmpbkemicfmbaaaDoor.PX
open Go.RowKit Go.Proofs.YtmpbkemicfmbaaaDoorW.PrintWords Go.Proofs.YtmpbkemicfmbaaaDoorW.PrintLast Go.Proofs.YtmpbkemicfmbaaaDoorW.PrintMore
set_option linter.unusedVariables false
set_option linter.unusedSimpArgs false
def hasS (l : List ByteArray) (s : ByteArray) : Bool := l.any (fun x => decide (x.toList = s.toList))
theorem hasS_cons (x : ByteArray) (r : List ByteArray) (s : ByteArray) : hasS (x :: r) s = (decide (x.toList = s.toList) || hasS r s) := rfl
theorem rdOf_nat (xs : List ByteArray) (j : Nat) (h : j < xs.length) : rdOf ByteArray.empty xs (j : Int) = xs[j] := getD_nat xs _ j h
theorem index_loop (l : List ByteArray) (s : ByteArray) (hn : l.length ≤ 1000) : ∀ (d j : Nat), j + d = l.length → ∃ r : Int, Ev (fun k => slices_Index_string_string.l0 k l s (l.length : Int) (j : Int)) r ∧ (0 ≤ r ↔ hasS (l.drop j) s = true)
  | 0, j, hj => ⟨-1, Ev.step (fun k => by rw [slices_Index_string_string.l0]) (Ev.neg (by omega) (Ev.now _)), by rw [List.drop_of_length_le (by omega)]; simp [hasS]⟩
  | d + 1, j, hj => by
    have hl : j < l.length := by omega
    by_cases h : s.toList = l[j].toList
    · refine ⟨(j : Int), Ev.step (fun k => by rw [slices_Index_string_string.l0]) (Ev.pos (by omega) (Ev.pos (by omega) (Ev.pos (by omega) ?_))), ?_⟩
      · rw [rdOf_nat l j hl]
        exact Ev.pos h (Ev.now _)
      · rw [drop_cons l j hl, hasS_cons, decide_eq_true h.symm, Bool.true_or]
        exact ⟨fun _ => rfl, fun _ => by omega⟩
    · obtain ⟨r, hr, hi⟩ := index_loop l s hn d (j + 1) (by omega)
      refine ⟨r, Ev.step (fun k => by rw [slices_Index_string_string.l0]) (Ev.pos (by omega) (Ev.pos (by omega) (Ev.pos (by omega) ?_))), ?_⟩
      · rw [rdOf_nat l j hl, wrap_nat (n := l.length) hl (by omega)]
        exact Ev.neg h hr
      · rw [hi, drop_cons l j hl, hasS_cons, decide_eq_false (fun e => h e.symm), Bool.false_or]
theorem contains_ev (l : List ByteArray) (s : ByteArray) (hn : l.length ≤ 1000) : Ev (fun k => slices_Contains_string_string.f k l s) (hasS l s) := by
  obtain ⟨r, hr, hi⟩ := index_loop l s hn l.length 0 (by omega)
  refine Ev.congr (f := fun k => (slices_Index_string_string.l0 k l s (l.length : Int) ((0 : Nat) : Int)).bind fun t109 => some (decide (t109 ≥ 0))) (fun k => rfl) (Ev.bind (a := r) hr (Ev.cast (Ev.now _) ?_))
  rw [Bool.eq_iff_iff, decide_eq_true_eq]
  exact hi
theorem has_loop (l : List ByteArray) (s : ByteArray) (hn : l.length ≤ 1000) : ∀ (d j : Nat), j + d = l.length → Ev (fun k => trickleref15_Has.l0 k l s (j : Int)) (hasS (l.drop j) s)
  | 0, j, hj => by
    rw [List.drop_of_length_le (by omega)]
    exact Ev.cast (Ev.step (fun k => by rw [trickleref15_Has.l0]) (Ev.neg (by omega) (Ev.now false))) rfl
  | d + 1, j, hj => by
    have hl : j < l.length := by omega
    refine Ev.step (fun k => by rw [trickleref15_Has.l0]) (Ev.pos (by omega) (Ev.pos (by omega) ?_))
    rw [rdOf_nat l j hl, drop_cons l j hl, wrap_nat (n := l.length) hl (by omega)]
    by_cases h : l[j].toList = s.toList
    · refine Ev.pos h (Ev.cast (Ev.now _) ?_)
      rw [hasS_cons, decide_eq_true h, Bool.true_or]
    · refine Ev.neg h (Ev.cast (has_loop l s hn d (j + 1) (by omega)) ?_)
      rw [hasS_cons, decide_eq_false h, Bool.false_or]
theorem has_ev (l : List ByteArray) (s : ByteArray) (hn : l.length ≤ 1000) : Ev (fun k => trickleref15_Has.f k l s) (hasS l s) := has_loop l s hn l.length 0 (by omega)
/-- A token's kind and value, by its length: word, number, mark, another byte. -/
def cut (s : ByteArray) (n : Nat) : ByteArray := s.extract 0 n
theorem bs_cut (s : ByteArray) (n : Nat) : bs (cut s n) = (bs s).take n := bs_take s n
theorem cut_size (s : ByteArray) (n : Nat) (h : n ≤ (bs s).length) : (cut s n).size = n := by rw [← bs_len, bs_cut, List.length_take]; omega
def wkind (s : ByteArray) (n : Nat) : Int := if hasS kwL (cut s n) = true then 3 else if n ≤ 32 then 1 else 5
theorem word_ev (s : ByteArray) (n : Nat) (h : n ≤ (bs s).length) : Ev (fun k => lexer_word.f k (cut s n)) (wkind s n, cut s n, 0, 0) := by
  refine Ev.congr (f := fun k => (slices_Contains_string_string.f k kwL (cut s n)).bind fun t114 => if t114 = true then some (3, cut s n, 0, 0) else if ((cut s n).size : Int) ≤ 32 then some (1, cut s n, 0, 0) else some (5, cut s n, 0, 0)) (fun k => rfl) (Ev.bind (contains_ev kwL (cut s n) (by decide)) ?_)
  have hcs := cut_size s n h
  by_cases h1 : hasS kwL (cut s n) = true
  · have hw : wkind s n = 3 := if_pos h1
    rw [hw]
    exact Ev.pos h1 (Ev.now _)
  · refine Ev.neg h1 ?_
    by_cases h2 : n ≤ 32
    · have hw : wkind s n = 1 := (if_neg h1).trans (if_pos h2)
      rw [hw]
      exact Ev.pos (by omega) (Ev.now _)
    · have hw : wkind s n = 5 := (if_neg h1).trans (if_neg h2)
      rw [hw]
      exact Ev.neg (by omega) (Ev.now _)
/-- The value that the reference reads, and stops above the greatest. -/
def dv (c : UInt8) : Int := ((c.toNat : Int) - 48) % 256
theorem dv_range (c : UInt8) : 0 ≤ dv c ∧ dv c ≤ 255 := by unfold dv; omega
def rval : Int → List UInt8 → Int
  | v, [] => v
  | v, c :: r => if v ≤ 32767 then rval (10 * v + dv c) r else v
def ival : Int → List UInt8 → Int
  | v, [] => v
  | v, c :: r => ival (mn (v * 10 + dv c) 32768) r
theorem ival_eq (l : List UInt8) : ∀ (a b : Int), 0 ≤ b → (a = b ∧ b ≤ 32767 ∨ a = 32768 ∧ b > 32767) → (ival a l = rval b l ∧ rval b l ≤ 32767 ∨ ival a l = 32768 ∧ rval b l > 32767) := by
  induction l with
  | nil => intro a b _ h; exact h
  | cons c r ih =>
    intro a b hb h
    have hd := dv_range c
    rw [ival, rval]
    rcases h with ⟨rfl, h⟩ | ⟨rfl, h⟩
    · rw [if_pos h]
      refine ih _ _ (by omega) ?_
      unfold mn
      split <;> omega
    · rw [if_neg (by omega)]
      have h2 : mn (32768 * 10 + dv c) 32768 = 32768 := by unfold mn; split <;> omega
      rw [h2]
      have h3 : ∀ l : List UInt8, ival 32768 l = 32768 := by
        intro l
        induction l with
        | nil => rfl
        | cons c r ih =>
          have hd := dv_range c
          rw [ival, show mn (32768 * 10 + dv c) 32768 = 32768 by unfold mn; split <;> omega, ih]
      rw [h3]
      exact .inr ⟨rfl, h⟩
/-- Whether digits are no integer: too great, or a needless 0. -/
def badN (l : List UInt8) : Bool := decide (rval 0 l > 32767) || (decide (l.length > 1) && l.head? == some 48)
def nkind (l : List UInt8) : Int := if badN l = true then 5 else 2
def nval (l : List UInt8) : Int := if badN l = true then 0 else IntKind.i16.wrap (rval 0 l)
theorem is48 (c : UInt8) : (((c.toNat : Int)) == 48) = (c == 48) := by
  rw [Bool.eq_iff_iff, beq_iff_eq, beq_iff_eq]
  exact toNat_eq (n := 48) (by decide)
theorem number_loop (w : ByteArray) (hn : (bs w).length ≤ 1000000) (R : Int × ByteArray × Int × Int) : ∀ (d j : Nat) (v : Int), 0 ≤ v → v ≤ 32768 → j + d = (bs w).length → Ev (fun k => lexer_number.l0 k w (ival v ((bs w).drop j)) (w.size : Int) (w.size : Int)) R → Ev (fun k => lexer_number.l0 k w v (w.size : Int) (j : Int)) R
  | 0, j, v, h0, h1, hj, hR => by
    have hs := bs_len w
    rw [List.drop_of_length_le (by omega), ival] at hR
    rw [show (j : Int) = (w.size : Int) by omega]
    exact hR
  | d + 1, j, v, h0, h1, hj, hR => by
    have hs := bs_len w
    have hl : j < (bs w).length := by omega
    rw [drop_cons (bs w) j hl, ival] at hR
    have hd := dv_range (bs w)[j]
    refine Ev.step (fun k => by rw [lexer_number.l0]) (Ev.pos (by omega) (Ev.pos (by omega) (Ev.pos (by omega) ?_)))
    rw [bt_bs w j hl, wrap_nat (n := (bs w).length) hl (by omega), wrap_id (i := v * 10) (by omega) (by omega)]
    rw [show (((bs w)[j].toNat : Int) - 48) % 256 = dv (bs w)[j] from rfl, wrap_id (i := v * 10 + dv (bs w)[j]) (by omega) (by omega)]
    refine number_loop w hn R d (j + 1) _ ?_ ?_ (by omega) hR
    · unfold mn; split <;> omega
    · unfold mn; split <;> omega
theorem number_ev (w : ByteArray) (hn : (bs w).length ≤ 1000000) : Ev (fun k => lexer_number.f k w) (nkind (bs w), w, nval (bs w), 0) := by
  have hs := bs_len w
  have hv := ival_eq (bs w) 0 0 (by omega) (.inl ⟨rfl, by omega⟩)
  refine Ev.congr (f := fun k => lexer_number.l0 k w 0 (w.size : Int) ((0 : Nat) : Int)) (fun k => rfl) (number_loop w hn _ (bs w).length 0 0 (by omega) (by omega) (by omega) ?_)
  rw [List.drop_zero]
  refine Ev.step (fun k => by rw [lexer_number.l0]) (Ev.neg (by omega) ?_)
  have fin : ∀ b : Bool, badN (bs w) = b → (b = false → ival 0 (bs w) = rval 0 (bs w)) → Ev (fun k => lexer_number.j1 k w (ival 0 (bs w)) b) (nkind (bs w), w, nval (bs w), 0) := by
    intro b hb hv2
    refine Ev.step (fun k => by rw [lexer_number.j1]) ?_
    unfold nkind nval
    rw [hb]
    cases b with
    | true => exact Ev.pos rfl (Ev.now _)
    | false => rw [hv2 rfl]; exact Ev.neg (by decide) (Ev.now _)
  rcases hv with ⟨he, hle⟩ | ⟨he, hgt⟩
  · refine Ev.neg (by omega) ?_
    have hd : decide (rval 0 (bs w) > 32767) = false := decide_eq_false (by omega)
    by_cases h1 : (bs w).length > 1
    · have hl0 : 0 < (bs w).length := by omega
      refine Ev.pos (by omega) (Ev.pos (by omega) ?_)
      have hb := bt_bs w 0 hl0
      rw [show ((0 : Nat) : Int) = 0 from rfl] at hb
      rw [hb, is48]
      refine fin _ ?_ (fun _ => he)
      unfold badN
      rw [hd, decide_eq_true h1, Bool.false_or, Bool.true_and, List.head?_eq_getElem?, List.getElem?_eq_getElem hl0]
      rfl
    · refine Ev.neg (by omega) (fin false ?_ (fun _ => he))
      unfold badN
      rw [hd, decide_eq_false h1]
      rfl
  · refine Ev.pos (by omega) (fin true ?_ (fun h => by cases h))
    unfold badN
    rw [decide_eq_true hgt]
    rfl
/-- The length of the longest mark at the beginning. -/
def markS (L : List UInt8) (n : Nat) (p : ByteArray) : Nat := if (p.size ≤ L.length ∧ L.take p.size = bs p) ∧ n < p.size then p.size else n
def markF (L : List UInt8) (n : Nat) (l : List ByteArray) : Nat := l.foldl (markS L) n
theorem markF_le (L : List UInt8) (l : List ByteArray) : ∀ n, n ≤ L.length → markF L n l ≤ L.length := by
  induction l with
  | nil => intro n h; exact h
  | cons p r ih =>
    intro n h
    refine ih _ ?_
    unfold markS
    split
    · rename_i h2; exact h2.1.1
    · exact h
theorem hasPre (s p : ByteArray) : strings_HasPrefix.f s p = some (decide (p.size ≤ (bs s).length ∧ (bs s).take p.size = bs p)) := by
  unfold strings_HasPrefix.f stringslite_HasPrefix.f
  have hs := bs_len s
  by_cases h : (s.size : Int) ≥ (p.size : Int)
  · rw [if_pos h, if_pos (by omega), if_pos (by omega), Option.bind_some, toList_bs, toList_bs, Int.toNat_natCast, bs_take]
    congr 1
    rw [Bool.eq_iff_iff, beq_iff_eq, decide_eq_true_eq]
    exact ⟨fun e => ⟨by omega, e⟩, fun e => e.2⟩
  · rw [if_neg h, Option.bind_some]
    congr 1
    symm
    rw [decide_eq_false_iff_not]
    intro e
    omega
def markOut (s : ByteArray) (n : Nat) : Int × ByteArray × Int × Int := if n = 0 then (5, cut s 1, 0, 0) else (4, cut s n, 0, 0)
theorem mark_impl (s : ByteArray) (h1 : 0 < (bs s).length) (l : List ByteArray) (hn : l.length ≤ 1000) : ∀ (d j n : Nat), n ≤ (bs s).length → j + d = l.length → Ev (fun k => lexer_next.l0 k s (cut s n) l (l.length : Int) (j : Int)) (markOut s (markF (bs s) n (l.drop j)))
  | 0, j, n, hle, hj => by
    have hs := bs_len s
    rw [List.drop_of_length_le (by omega)]
    refine Ev.step (fun k => by rw [lexer_next.l0]) (Ev.neg (by omega) ?_)
    show Ev _ (markOut s n)
    unfold markOut
    have hc : (cut s n).toList = [] ↔ n = 0 := by
      rw [toList_bs, bs_cut]
      constructor
      · intro e
        have := congrArg List.length e
        rw [List.length_take, List.length_nil] at this
        omega
      · rintro rfl; rfl
    by_cases h : n = 0
    · rw [if_pos h]
      exact Ev.pos (hc.mpr h) (Ev.pos (by omega) (Ev.pos (by omega) (Ev.now _)))
    · rw [if_neg h]
      exact Ev.neg (fun e => h (hc.mp e)) (Ev.now _)
  | d + 1, j, n, hle, hj => by
    have hs := bs_len s
    have hl : j < l.length := by omega
    refine Ev.step (fun k => by rw [lexer_next.l0]) (Ev.pos (by omega) (Ev.pos (by omega) (Ev.pos (by omega) ?_)))
    rw [rdOf_nat l j hl, drop_cons l j hl, wrap_nat (n := l.length) hl (by omega)]
    show Ev _ (markOut s (markF (bs s) (markS (bs s) n l[j]) (l.drop (j + 1))))
    refine Ev.const (hasPre s l[j]) ?_
    have hcs := cut_size s n hle
    by_cases h2 : l[j].size ≤ (bs s).length ∧ (bs s).take l[j].size = bs l[j]
    · refine Ev.pos (decide_eq_true h2) ?_
      by_cases h3 : n < l[j].size
      · have he : l[j] = cut s l[j].size := bs_inj (by rw [bs_cut]; exact h2.2.symm)
        have hm : markS (bs s) n l[j] = l[j].size := if_pos ⟨h2, h3⟩
        rw [hm]
        refine Ev.pos (by omega) ?_
        have ih := mark_impl s h1 l hn d (j + 1) l[j].size h2.1 (by omega)
        rw [← he] at ih
        exact ih
      · have hm : markS (bs s) n l[j] = n := if_neg (fun e => h3 e.2)
        rw [hm]
        exact Ev.neg (by omega) (mark_impl s h1 l hn d (j + 1) n hle (by omega))
    · have hm : markS (bs s) n l[j] = n := if_neg (fun e => h2 e.1)
      rw [hm]
      exact Ev.neg (by rw [decide_eq_true_eq]; exact h2) (mark_impl s h1 l hn d (j + 1) n hle (by omega))
theorem mark_ref (s : ByteArray) (l : List ByteArray) (hn : l.length ≤ 1000) : ∀ (d j n : Nat), n ≤ (bs s).length → j + d = l.length → Ev (fun k => trickleref15_mark.l0 k s l (n : Int) (j : Int)) ((markF (bs s) n (l.drop j) : Nat) : Int)
  | 0, j, n, hle, hj => by
    rw [List.drop_of_length_le (by omega)]
    exact Ev.cast (Ev.step (fun k => by rw [trickleref15_mark.l0]) (Ev.neg (by omega) (Ev.now (n : Int)))) rfl
  | d + 1, j, n, hle, hj => by
    have hs := bs_len s
    have hl : j < l.length := by omega
    have go : ∀ b : Bool, (b = true ↔ (l[j].size ≤ (bs s).length ∧ (bs s).take l[j].size = bs l[j]) ∧ n < l[j].size) → Ev (fun k => trickleref15_mark.j1 k s l (n : Int) (j : Int) b) ((markF (bs s) n (l.drop j) : Nat) : Int) := by
      intro b hb
      refine Ev.step (fun k => by rw [trickleref15_mark.j1]) ?_
      rw [rdOf_nat l j hl, drop_cons l j hl, wrap_nat (n := l.length) hl (by omega)]
      show Ev _ ((markF (bs s) (markS (bs s) n l[j]) (l.drop (j + 1)) : Nat) : Int)
      cases b with
      | true =>
        have hc := hb.mp rfl
        have hm : markS (bs s) n l[j] = l[j].size := if_pos hc
        rw [hm]
        exact Ev.pos rfl (Ev.pos (by omega) (Ev.pos (by omega) (mark_ref s l hn d (j + 1) l[j].size hc.1.1 (by omega))))
      | false =>
        have hm : markS (bs s) n l[j] = n := if_neg (fun e => by have := hb.mpr e; cases this)
        rw [hm]
        exact Ev.neg (by decide) (mark_ref s l hn d (j + 1) n hle (by omega))
    refine Ev.step (fun k => by rw [trickleref15_mark.l0]) (Ev.pos (by omega) (Ev.pos (by omega) ?_))
    rw [rdOf_nat l j hl]
    by_cases h1 : l[j].size ≤ (bs s).length
    · refine Ev.pos (by omega) (Ev.pos (by omega) ?_)
      rw [toList_bs, toList_bs, Int.toNat_natCast, bs_take]
      by_cases h2 : (bs s).take l[j].size = bs l[j]
      · refine Ev.pos h2 (go _ ?_)
        rw [decide_eq_true_eq]
        exact ⟨fun e => ⟨⟨h1, h2⟩, by omega⟩, fun e => by omega⟩
      · exact Ev.neg h2 (go false ⟨fun e => (by cases e), fun e => absurd e.1.2 h2⟩)
    · exact Ev.neg (by omega) (go false ⟨fun e => (by cases e), fun e => absurd e.1.1 h1⟩)
/-- A token: length, kind, value. -/
structure Tk where
  n : Nat
  k : Int
  v : Int
def tok (s : ByteArray) : Tk :=
  if wordN (bs s) > 0 then ⟨wordN (bs s), wkind s (wordN (bs s)), 0⟩
  else if pre dgtB (bs s) > 0 then ⟨pre dgtB (bs s), nkind ((bs s).take (pre dgtB (bs s))), nval ((bs s).take (pre dgtB (bs s)))⟩
  else if markF (bs s) 0 puL > 0 then ⟨markF (bs s) 0 puL, 4, 0⟩ else ⟨1, 5, 0⟩
theorem wordN_le (l : List UInt8) : wordN l ≤ l.length := by
  unfold wordN
  split
  · exact pre_le _ _
  · omega
theorem tok_range (s : ByteArray) (h : 0 < (bs s).length) : 1 ≤ (tok s).n ∧ (tok s).n ≤ (bs s).length := by
  have h1 := wordN_le (bs s)
  have h2 := pre_le dgtB (bs s)
  have h3 := markF_le (bs s) puL 0 (by omega)
  unfold tok
  split
  · exact ⟨by assumption, h1⟩
  · split
    · exact ⟨by assumption, h2⟩
    · split
      · exact ⟨by assumption, h3⟩
      · exact ⟨by decide, h⟩
def tokR (s : ByteArray) : Int × ByteArray × Int × Int := ((tok s).k, cut s (tok s).n, (tok s).v, 0)
theorem head_letter (s : ByteArray) (h : 0 < (bs s).length) : (wordN (bs s) > 0 ↔ ltrB ((bs s)[0]) = true) ∧ (ltrB ((bs s)[0]) = true → wordN (bs s) = pre wrdB (bs s)) := by
  have hd : bs s = (bs s)[0] :: (bs s).drop 1 := by rw [← drop_cons (bs s) 0 h]; rfl
  generalize (bs s)[0] = c at hd
  generalize (bs s).drop 1 = r at hd
  rw [hd]
  have hw : wordN (c :: r) = if ltrB c = true then pre wrdB (c :: r) else 0 := rfl
  rw [hw]
  by_cases hc : ltrB c = true
  · rw [if_pos hc, pre_cons, if_pos (show wrdB c = true by unfold wrdB; rw [hc]; rfl)]
    exact ⟨⟨fun _ => hc, fun _ => by omega⟩, fun _ => rfl⟩
  · rw [if_neg hc]
    exact ⟨⟨fun h => by omega, fun h => absurd h hc⟩, fun h => absurd h hc⟩
theorem head_digit (s : ByteArray) (h : 0 < (bs s).length) : pre dgtB (bs s) > 0 ↔ dgtB ((bs s)[0]) = true := by
  have hd : bs s = (bs s)[0] :: (bs s).drop 1 := by rw [← drop_cons (bs s) 0 h]; rfl
  generalize (bs s)[0] = c at hd
  generalize (bs s).drop 1 = r at hd
  rw [hd, pre_cons]
  by_cases hc : dgtB c = true
  · rw [if_pos hc]; exact ⟨fun _ => hc, fun _ => by omega⟩
  · rw [if_neg hc]; exact ⟨fun h => by omega, fun h => absurd h hc⟩
theorem next_ev (s : ByteArray) (h : 0 < (bs s).length) (hn : (bs s).length ≤ 1000000) : Ev (fun k => lexer_next.f k s) (tokR s) := by
  have hs := bs_len s
  have hb := bt_bs s 0 h
  rw [show ((0 : Nat) : Int) = 0 from rfl] at hb
  refine Ev.congr (fun k => by rw [lexer_next.f]) (Ev.pos (by omega) ?_)
  rw [hb]
  refine Ev.const (letter_impl _) ?_
  obtain ⟨h1, h2⟩ := head_letter s h
  by_cases hl : ltrB ((bs s)[0]) = true
  · refine Ev.pos hl (Ev.bind (prefix43 s hn) ?_)
    have hw := h1.mpr hl
    have ht : tokR s = (wkind s (wordN (bs s)), cut s (wordN (bs s)), 0, 0) := by unfold tokR tok; rw [if_pos hw]
    have hle := wordN_le (bs s)
    rw [ht, ← h2 hl, Int.toNat_natCast]
    exact Ev.pos (by omega) (Ev.pos (by omega) (Ev.bind (word_ev s _ hle) (Ev.now _)))
  have hw : ¬ wordN (bs s) > 0 := fun e => hl (h1.mp e)
  refine Ev.neg hl (Ev.const (digit_impl _) ?_)
  have h3 := head_digit s h
  by_cases hd : dgtB ((bs s)[0]) = true
  · refine Ev.pos hd (Ev.bind (prefix36 s hn) ?_)
    have hp := h3.mpr hd
    have ht : tokR s = (nkind ((bs s).take (pre dgtB (bs s))), cut s (pre dgtB (bs s)), nval ((bs s).take (pre dgtB (bs s))), 0) := by unfold tokR tok; rw [if_neg hw, if_pos hp]
    have hle := pre_le dgtB (bs s)
    rw [ht, Int.toNat_natCast]
    have hnum := number_ev (cut s (pre dgtB (bs s))) (by rw [bs_cut, List.length_take]; omega)
    rw [bs_cut] at hnum
    exact Ev.pos (by omega) (Ev.pos (by omega) (Ev.bind hnum (Ev.now _)))
  have hp : ¬ pre dgtB (bs s) > 0 := fun e => hd (h3.mp e)
  refine Ev.neg hd (Ev.const (a := puL) rfl ?_)
  have hm := mark_impl s h puL (by decide) puL.length 0 0 (by omega) (by omega)
  have hc0 : cut s 0 = (⟨#[]⟩ : ByteArray) := bs_inj (by rw [bs_cut]; rfl)
  rw [hc0, List.drop_zero] at hm
  refine Ev.cast hm ?_
  unfold markOut tokR tok
  rw [if_neg hw, if_neg hp]
  by_cases hz : markF (bs s) 0 puL = 0
  · rw [if_pos hz, if_neg (by omega)]
  · rw [if_neg hz, if_pos (by omega)]
theorem rone_loop (s : ByteArray) (n : Nat) (hn : n ≤ (bs s).length) (hn2 : (bs s).length ≤ 1000000) (R : Int × ByteArray × Int × Int) : ∀ (d j : Nat) (v : Int), 0 ≤ v → v ≤ 328000 → j + d = n → Ev (fun k => trickleref15_one.j1 k s (n : Int) (rval v (((bs s).take n).drop j))) R → Ev (fun k => trickleref15_one.l0 k s (n : Int) v (j : Int)) R
  | 0, j, v, h0, h1, hj, hR => by
    rw [List.drop_of_length_le (by rw [List.length_take]; omega), rval] at hR
    exact Ev.step (fun k => by rw [trickleref15_one.l0]) (Ev.neg (by omega) hR)
  | d + 1, j, v, h0, h1, hj, hR => by
    have hs := bs_len s
    have hl : j < (bs s).length := by omega
    have hlt : j < ((bs s).take n).length := by rw [List.length_take]; omega
    rw [drop_cons _ j hlt, rval, List.getElem_take] at hR
    refine Ev.step (fun k => by rw [trickleref15_one.l0]) (Ev.pos (by omega) ?_)
    have hd := dv_range (bs s)[j]
    by_cases hv : v ≤ 32767
    · rw [if_pos hv] at hR
      refine Ev.pos hv (Ev.pos (by omega) (Ev.pos (by omega) ?_))
      rw [bt_bs s j hl, wrap_nat (n := (bs s).length) hl (by omega), wrap_id (i := 10 * v) (by omega) (by omega), show (((bs s)[j].toNat : Int) - 48) % 256 = dv (bs s)[j] from rfl, wrap_id (i := 10 * v + dv (bs s)[j]) (by omega) (by omega)]
      exact rone_loop s n hn hn2 R d (j + 1) _ (by omega) (by omega) (by omega) hR
    · rw [if_neg hv] at hR
      exact Ev.neg hv hR
theorem one_ev (s : ByteArray) (h : 0 < (bs s).length) (hn : (bs s).length ≤ 1000000) : Ev (fun k => trickleref15_one.f k s) (tokR s) := by
  have hs := bs_len s
  refine Ev.congr (fun k => by rw [trickleref15_one.f]) (Ev.bind (rword_ev s hn) ?_)
  by_cases hw : wordN (bs s) > 0
  · have ht : tokR s = (wkind s (wordN (bs s)), cut s (wordN (bs s)), 0, 0) := by unfold tokR tok; rw [if_pos hw]
    have hle := wordN_le (bs s)
    refine Ev.pos (by omega) (Ev.const (a := kwL) rfl (Ev.pos (by omega) (Ev.pos (by omega) ?_)))
    rw [ht, Int.toNat_natCast]
    refine Ev.bind (has_ev kwL (cut s (wordN (bs s))) (by decide)) ?_
    by_cases h1 : hasS kwL (cut s (wordN (bs s))) = true
    · have hk : wkind s (wordN (bs s)) = 3 := if_pos h1
      rw [hk]
      exact Ev.pos h1 (Ev.now _)
    · refine Ev.neg h1 ?_
      by_cases h2 : wordN (bs s) ≤ 32
      · have hk : wkind s (wordN (bs s)) = 1 := (if_neg h1).trans (if_pos h2)
        rw [hk]
        exact Ev.pos (by omega) (Ev.now _)
      · have hk : wkind s (wordN (bs s)) = 5 := (if_neg h1).trans (if_neg h2)
        rw [hk]
        exact Ev.neg (by omega) (Ev.now _)
  refine Ev.neg (by omega) (Ev.bind (rnum_ev s hn) ?_)
  by_cases hp : pre dgtB (bs s) > 0
  · have ht : tokR s = (nkind ((bs s).take (pre dgtB (bs s))), cut s (pre dgtB (bs s)), nval ((bs s).take (pre dgtB (bs s))), 0) := by unfold tokR tok; rw [if_neg hw, if_pos hp]
    have hle := pre_le dgtB (bs s)
    refine Ev.pos (by omega) ?_
    rw [ht]
    refine rone_loop s (pre dgtB (bs s)) hle hn _ (pre dgtB (bs s)) 0 0 (by omega) (by omega) (by omega) ?_
    rw [List.drop_zero]
    generalize hL : (bs s).take (pre dgtB (bs s)) = L
    have hLn : L.length = pre dgtB (bs s) := by rw [← hL, List.length_take]; omega
    have hhd : L.head? = some (bs s)[0] := by
      rw [← hL, List.head?_take, if_neg (by omega), List.head?_eq_getElem?, List.getElem?_eq_getElem h]
    have fin : ∀ b : Bool, badN L = b → Ev (fun k => trickleref15_one.j2 k s ((pre dgtB (bs s) : Nat) : Int) (rval 0 L) b) (nkind L, cut s (pre dgtB (bs s)), nval L, 0) := by
      intro b hb
      refine Ev.step (fun k => by rw [trickleref15_one.j2]) ?_
      unfold nkind nval
      rw [hb, Int.toNat_natCast]
      cases b with
      | true => exact Ev.pos rfl (Ev.pos (by omega) (Ev.pos (by omega) (Ev.now _)))
      | false => exact Ev.neg (by decide) (Ev.pos (by omega) (Ev.pos (by omega) (Ev.now _)))
    refine Ev.step (fun k => by rw [trickleref15_one.j1]) ?_
    by_cases hv : rval 0 L > 32767
    · exact Ev.pos hv (fin true (by unfold badN; rw [decide_eq_true hv]; rfl))
    refine Ev.neg hv ?_
    have hdv : decide (rval 0 L > 32767) = false := decide_eq_false hv
    by_cases h1 : pre dgtB (bs s) > 1
    · have hb := bt_bs s 0 h
      rw [show ((0 : Nat) : Int) = 0 from rfl] at hb
      refine Ev.pos (by omega) (Ev.pos (by omega) ?_)
      rw [hb, is48]
      refine fin _ ?_
      unfold badN
      rw [hdv, hLn, decide_eq_true h1, hhd, Bool.false_or, Bool.true_and]
      rfl
    · refine Ev.neg (by omega) (fin false ?_)
      unfold badN
      rw [hdv, hLn, decide_eq_false h1]
      rfl
  refine Ev.neg (by omega) ?_
  have hm := mark_ref s puL (by decide) puL.length 0 0 (by omega) (by omega)
  rw [List.drop_zero] at hm
  have hle := markF_le (bs s) puL 0 (by omega)
  refine Ev.bind (a := ((markF (bs s) 0 puL : Nat) : Int)) (Ev.congr (f := fun k => trickleref15_mark.l0 k s puL ((0 : Nat) : Int) ((0 : Nat) : Int)) (fun k => rfl) hm) ?_
  by_cases hz : markF (bs s) 0 puL > 0
  · have ht : tokR s = (4, cut s (markF (bs s) 0 puL), 0, 0) := by unfold tokR tok; rw [if_neg hw, if_neg hp, if_pos hz]
    rw [ht, Int.toNat_natCast]
    exact Ev.pos (by omega) (Ev.pos (by omega) (Ev.pos (by omega) (Ev.now _)))
  · have ht : tokR s = (5, cut s 1, 0, 0) := by unfold tokR tok; rw [if_neg hw, if_neg hp, if_neg hz]
    rw [ht]
    exact Ev.neg (by omega) (Ev.pos (by omega) (Ev.pos (by omega) (Ev.now _)))
end Go.Proofs.YtmpbkemicfmbaaaDoor.PX
/- A walk goes on from any world of which it knows what it needs. -/
namespace Go.Proofs.YtmpbkemicfmbaaaDoor.PX
open Go.RowKit
theorem wp_gen3 {c : Code} {a : Act} {w : World} {K : Exit → Act → World → Prop} (Q : World → Prop) (h : Q w) (h2 : ∀ w', Q w' → Code.wp Tryd.prog c K a w') : Code.wp Tryd.prog c K a w := h2 w h
end Go.Proofs.YtmpbkemicfmbaaaDoor.PX
