/- Parts of the proof, merged in build order: PXx6, PureDiagFormat, Handed. -/
import Derived.Test.YtahgghbhpmpgfaaDoorY1
import Derived.Handed
import Derived.SevenTiedAt
import Derived.ProofKit
import Derived.ChangeOld
-- Written by a program of this session (wip/xprint.py, over the kit's print tool). Lean checks it.
namespace Go.Proofs.YtahgghbhpmpgfaaDoor.PX
open Go.RowKit Go.Proofs.YtahgghbhpmpgfaaDoorW.PrintWords Go.Proofs.YtahgghbhpmpgfaaDoorW.PrintLast Go.Proofs.YtahgghbhpmpgfaaDoorW.PrintMore
attribute [local go_sem] max2_int min2_int max_two min_two max_three min_three max_four min_four   -- for this text's walks alone
set_option linter.unusedVariables false
set_option linter.unusedSimpArgs false

/-! ### trickleref14_Great: function 16 -/
def trickleref14_Great.l0 : Nat → List (S39) → Int → List (S39) → Int → Int → Option (Bool)
  | 0, _, _, _, _, _ => none
  | k + 1, x0, x3, x6, x7, x8 => if x8 < x7 then (if 0 ≤ x8 then (if x8 < (x6.length : Int) then (if (wrap64 (x3 + (((rd_T39 x6 x8).f1).size : Int))) > 1000 then (some true) else (trickleref14_Great.l0 k x0 (wrap64 (x3 + (((rd_T39 x6 x8).f1).size : Int))) x6 x7 (wrap64 (x8 + 1)))) else (none)) else (none)) else (some (decide ((x0.length : Int) > 40)))
def trickleref14_Great.f (k : Nat) (l0 : List (S39)) : Option (Bool) := trickleref14_Great.l0 k l0 0 l0 (l0.length : Int) 0
set_option maxHeartbeats 8000000 in
set_option maxRecDepth 100000 in
theorem trickleref14_Great.calls (k : Nat) (A0 : Option Addr) (c0 : Nat) (l0 : List (S39)) (r : Bool) (w : World) (hr0 : Kd.C k39 w A0 l0.length l0) (hc0 : l0.length ≤ c0) (h : trickleref14_Great.f k l0 = some r) :
    Calls Tryd.prog 16 #[.slice A0 l0.length c0] w fun e w' => e = .returned (.bool r) ∧ Below w.heap.size w w' := by
  have hu39 := Tryd.underlying39
  have HR0 := Aside0.mk hr0
  have HC0 := Aside0.mk hc0
  clear hr0 hc0
  have HB := Aside0.mk (Below.refl w.heap.size w)
  have H : (trickleref14_Great.l0 k l0 0 l0 (l0.length : Int) 0) = some r := h
  clear h
  have H' := Aside0.mk H
  clear H
  go_enter Tryd.func16, Tryd.ntmps16
  go_wp2
  go_loopg [3, 8] k (fun kq v3 v8 w' => ∃ (x3_1 : Int) (x8_1 : Int), v3 = .int .i64 x3_1 ∧ v8 = .int .i64 x8_1 ∧ Aside0 (trickleref14_Great.l0 kq l0 x3_1 l0 (l0.length : Int) x8_1 = some r) ∧ Aside0 (kq ≤ k) ∧ Aside0 (Below w.heap.size w w'))
  case atStart => exact ⟨(0), (0), (by first | rfl | (simp; done) | (simp [*]; done)), (by first | rfl | (simp; done) | (simp [*]; done)), H', ⟨Nat.le_refl _⟩, ⟨by repeat (first | (with_reducible first | exact HB.out | apply below_alloc | apply pw_below_drewN | apply below_drew1) | exact HB.out)⟩⟩
  case round =>
    clear H'
    try clear c1
    obtain ⟨x3_1, x8_1, rfl, rfl, HA, HK1, HB⟩ := hrel
    cases gk with
    | zero => exact absurd HA.out (by simp [trickleref14_Great.l0])
    | succ k1 =>
      have H := HA.out
      clear HA
      simp only [trickleref14_Great.l0] at H
      by_cases c2 : x8_1 < (l0.length : Int)
      · rw [if_pos c2] at H
        have c2b0 : decide (x8_1 < (l0.length : Int)) = true := decide_eq_true c2
        clear c2
        by_cases c3 : 0 ≤ x8_1
        · rw [if_pos c3] at H
          have c3b0 : decide (0 ≤ x8_1) = true := decide_eq_true c3
          clear c3
          by_cases c4 : x8_1 < (l0.length : Int)
          · rw [if_pos c4] at H
            have c4b0 : decide (x8_1 < (l0.length : Int)) = true := decide_eq_true c4
            clear c4
            by_cases c5 : (wrap64 (x3_1 + (((rd_T39 l0 x8_1).f1).size : Int))) > 1000
            · rw [if_pos c5] at H
              have c5b0 : decide (1000 < (wrap64 (x3_1 + (((rd_T39 l0 x8_1).f1).size : Int)))) = true := decide_eq_true c5
              clear c5
              obtain rfl := Option.some.inj H
              have p145 : 0 ≤ (x8_1 : Int) := of_decide_eq_true (by first | (with_reducible assumption) | assumption)
              have q145 : x8_1 < (l0.length : Int) := of_decide_eq_true (by first | (with_reducible assumption) | assumption)
              obtain ⟨ad145, e145, hx145_0, hx145_1⟩ := at_T39 HR0.out x8_1 p145 q145
              cases e145
              replace hx145_0 := (HB.out.cell (World.block_lt_of_cell? w _ hx145_0)).trans hx145_0
              replace hx145_1 := (HB.out.cell (World.block_lt_of_cell? w _ hx145_1)).trans hx145_1
              replace p145 := eq_true p145
              replace q145 := eq_true q145
              go_wp2_with (first | ((with_reducible refine gate_dst (N := 5) rfl ?_); refine box_event ?hg (N := 5) ?hd (cs := #[.int .i64 0, .string (⟨#[]⟩ : ByteArray)]) (t := 39) ?hr ?_; (case hd => rfl); (case hg => rfl); (case hr => first | (go_simp; done) | (go_simp; rfl)); intro gb146 hg w6 hbox hb; have n0_ := Aside0.mk (below_step (by repeat (first | (with_reducible first | exact HB.out | apply below_alloc | apply pw_below_drewN | apply below_drew1) | exact HB.out)) hb); have n1_ := Aside0.mk (hbox); have n2_ := Aside0.mk ((by rw [hg]; exact (below_size (by repeat (first | (with_reducible first | exact HB.out | apply below_alloc | apply pw_below_drewN | apply below_drew1) | exact HB.out))) : w.heap.size ≤ gb146)); have n3_ := Aside0.mk ((by rw [hg]; exact (below_size (by repeat (first | (with_reducible first | exact HB.out | apply below_alloc | apply pw_below_drewN | apply below_drew1) | exact HB.out))) : w.heap.size ≤ gb146)); clear HB; have HB := n0_; have BK146 := n1_; have GW146 := n2_; have GE146 := n3_; clear n0_ n1_ n2_ n3_; clear hb hbox hg; have hcz7_0 : w6.cell? ⟨gb146, 0, none⟩ = some (.int .i64 0) := (blk_cell BK146.out 0).trans rfl; have hcz7_1 : w6.cell? ⟨gb146, 1, none⟩ = some (.string (⟨#[]⟩ : ByteArray)) := (blk_cell BK146.out 1).trans rfl; have hfz7_0 := blk_frozen BK146.out 0; have hfz7_1 := blk_frozen BK146.out 1))
              go_ret
              exact ⟨by first | rfl | (simp [errW_none, errW_some] <;> rfl) | (simp [*, errW_none, errW_some] <;> rfl), by repeat (first | (with_reducible first | exact HB.out | apply below_alloc | apply pw_below_drewN | apply below_drew1 | refine below_set ?_ GE146.out) | exact HB.out)⟩
            · rw [if_neg c5] at H
              have c5b0 : decide (1000 < (wrap64 (x3_1 + (((rd_T39 l0 x8_1).f1).size : Int)))) = false := decide_eq_false c5
              clear c5
              have H' := Aside0.mk H
              clear H
              have p145 : 0 ≤ (x8_1 : Int) := of_decide_eq_true (by first | (with_reducible assumption) | assumption)
              have q145 : x8_1 < (l0.length : Int) := of_decide_eq_true (by first | (with_reducible assumption) | assumption)
              obtain ⟨ad145, e145, hx145_0, hx145_1⟩ := at_T39 HR0.out x8_1 p145 q145
              cases e145
              replace hx145_0 := (HB.out.cell (World.block_lt_of_cell? w _ hx145_0)).trans hx145_0
              replace hx145_1 := (HB.out.cell (World.block_lt_of_cell? w _ hx145_1)).trans hx145_1
              replace p145 := eq_true p145
              replace q145 := eq_true q145
              go_wp2_with (first | ((with_reducible refine gate_dst (N := 5) rfl ?_); refine box_event ?hg (N := 5) ?hd (cs := #[.int .i64 0, .string (⟨#[]⟩ : ByteArray)]) (t := 39) ?hr ?_; (case hd => rfl); (case hg => rfl); (case hr => first | (go_simp; done) | (go_simp; rfl)); intro gb146 hg w8 hbox hb; have n0_ := Aside0.mk (below_step (by repeat (first | (with_reducible first | exact HB.out | apply below_alloc | apply pw_below_drewN | apply below_drew1) | exact HB.out)) hb); have n1_ := Aside0.mk (hbox); have n2_ := Aside0.mk ((by rw [hg]; exact (below_size (by repeat (first | (with_reducible first | exact HB.out | apply below_alloc | apply pw_below_drewN | apply below_drew1) | exact HB.out))) : w.heap.size ≤ gb146)); have n3_ := Aside0.mk ((by rw [hg]; exact (below_size (by repeat (first | (with_reducible first | exact HB.out | apply below_alloc | apply pw_below_drewN | apply below_drew1) | exact HB.out))) : w.heap.size ≤ gb146)); clear HB; have HB := n0_; have BK146 := n1_; have GW146 := n2_; have GE146 := n3_; clear n0_ n1_ n2_ n3_; clear hb hbox hg; have hcz9_0 : w8.cell? ⟨gb146, 0, none⟩ = some (.int .i64 0) := (blk_cell BK146.out 0).trans rfl; have hcz9_1 : w8.cell? ⟨gb146, 1, none⟩ = some (.string (⟨#[]⟩ : ByteArray)) := (blk_cell BK146.out 1).trans rfl; have hfz9_0 := blk_frozen BK146.out 0; have hfz9_1 := blk_frozen BK146.out 1))
              go_roundg k1
              case measure => have := HK1.out; omega
              case rel => exact ⟨(wrap64 (x3_1 + (((rd_T39 l0 x8_1).f1).size : Int))), (wrap64 (x8_1 + 1)), (by first | rfl | (simp; done) | (simp [*]; done)), (by first | rfl | (simp; done) | (simp [*]; done)), H', ⟨by have := HK1.out; omega⟩, ⟨by repeat (first | (with_reducible first | exact HB.out | apply below_alloc | apply pw_below_drewN | apply below_drew1 | refine below_set ?_ GE146.out) | exact HB.out)⟩⟩
          · rw [if_neg c4] at H
            exact absurd H (by simp)
        · rw [if_neg c3] at H
          exact absurd H (by simp)
      · rw [if_neg c2] at H
        have c2b0 : decide (x8_1 < (l0.length : Int)) = false := decide_eq_false c2
        clear c2
        obtain rfl := Option.some.inj H
        go_wp2
        go_ret
        exact ⟨by first | rfl | (simp [errW_none, errW_some] <;> rfl) | (simp [*, errW_none, errW_some] <;> rfl), by repeat (first | (with_reducible first | exact HB.out | apply below_alloc | apply pw_below_drewN | apply below_drew1) | exact HB.out)⟩

/-! ### trickleref14_Num: function 35 -/
def trickleref14_Num.f : Nat → Int → Option (ByteArray)
  | 0, _ => none
  | k + 1, a0 => if a0 < 10 then (if 0 ≤ a0 then (if a0 ≤ (wrap64 (a0 + 1)) then (if (wrap64 (a0 + 1)) ≤ 10 then (some ((⟨#[48, 49, 50, 51, 52, 53, 54, 55, 56, 57]⟩ : ByteArray).extract (a0 : Int).toNat ((wrap64 (a0 + 1)) : Int).toNat)) else (none)) else (none)) else (none)) else ((trickleref14_Num.f k (wrap64 (Int.tdiv a0 10))).bind fun t147 => (if 0 ≤ (Int.tmod a0 10) then (if (Int.tmod a0 10) ≤ (wrap64 ((Int.tmod a0 10) + 1)) then (if (wrap64 ((Int.tmod a0 10) + 1)) ≤ 10 then (if t147.size + ((⟨#[48, 49, 50, 51, 52, 53, 54, 55, 56, 57]⟩ : ByteArray).extract ((Int.tmod a0 10) : Int).toNat ((wrap64 ((Int.tmod a0 10) + 1)) : Int).toNat).size ≤ 9223372036854775807 then (some (t147 ++ ((⟨#[48, 49, 50, 51, 52, 53, 54, 55, 56, 57]⟩ : ByteArray).extract ((Int.tmod a0 10) : Int).toNat ((wrap64 ((Int.tmod a0 10) + 1)) : Int).toNat))) else (none)) else (none)) else (none)) else (none)))
def trickleref14_Num.T3 : Bool × List (List Nat × List Nat) := (true, [([], []), ([0], [0]), ([1], [1]), ([], []), ([3], [3]), ([], []), ([5], [5]), ([6], [6]), ([4, 7], [4, 7]), ([2, 8], [2, 8]), ([9, 2, 0, 1, 2, 3, 4, 5, 6, 7, 8, 9], [9])])
def trickleref14_Num.B3 : List Nat := [0, 1, 3, 0, 8, 0, 32, 96, 248, 511, 1023]
theorem trickleref14_Num.tab3 : rtab .any (opsOf Tryd.f35 3) = trickleref14_Num.T3 := by kernel_rfl
theorem trickleref14_Num.bits3 : waitsOk trickleref14_Num.T3.2 trickleref14_Num.B3 = true := by kernel_rfl
set_option maxHeartbeats 8000000 in
set_option maxRecDepth 100000 in
theorem trickleref14_Num.calls (k : Nat) : ∀ (a0 : Int) (r : ByteArray) (w : World) (h : trickleref14_Num.f k a0 = some r),
    Calls Tryd.prog 35 #[.int .i64 a0] w fun e w' => e = .returned (.string r) ∧ Below w.heap.size w w' := by
  induction k using Nat.strongRecOn with
  | _ k ih =>
  intro a0 r w h
  cases k with
  | zero => exact absurd h (by simp [trickleref14_Num.f])
  | succ k =>
  simp only [trickleref14_Num.f] at h
  have HB := Aside0.mk (Below.refl w.heap.size w)
  have H : (if a0 < 10 then (if 0 ≤ a0 then (if a0 ≤ (wrap64 (a0 + 1)) then (if (wrap64 (a0 + 1)) ≤ 10 then (some ((⟨#[48, 49, 50, 51, 52, 53, 54, 55, 56, 57]⟩ : ByteArray).extract (a0 : Int).toNat ((wrap64 (a0 + 1)) : Int).toNat)) else (none)) else (none)) else (none)) else ((trickleref14_Num.f k (wrap64 (Int.tdiv a0 10))).bind fun t147 => (if 0 ≤ (Int.tmod a0 10) then (if (Int.tmod a0 10) ≤ (wrap64 ((Int.tmod a0 10) + 1)) then (if (wrap64 ((Int.tmod a0 10) + 1)) ≤ 10 then (if t147.size + ((⟨#[48, 49, 50, 51, 52, 53, 54, 55, 56, 57]⟩ : ByteArray).extract ((Int.tmod a0 10) : Int).toNat ((wrap64 ((Int.tmod a0 10) + 1)) : Int).toNat).size ≤ 9223372036854775807 then (some (t147 ++ ((⟨#[48, 49, 50, 51, 52, 53, 54, 55, 56, 57]⟩ : ByteArray).extract ((Int.tmod a0 10) : Int).toNat ((wrap64 ((Int.tmod a0 10) + 1)) : Int).toNat))) else (none)) else (none)) else (none)) else (none)))) = some r := h
  clear h
  by_cases c2 : a0 < 10
  · rw [if_pos c2] at H
    have c2b0 : decide (a0 < 10) = true := decide_eq_true c2
    clear c2
    by_cases c3 : 0 ≤ a0
    · rw [if_pos c3] at H
      have c3b0 := eq_true c3
      have c3b1 : decide (0 ≤ a0) = true := decide_eq_true c3
      clear c3
      by_cases c4 : a0 ≤ (wrap64 (a0 + 1))
      · rw [if_pos c4] at H
        have c4b0 := eq_true c4
        have c4b1 : decide (a0 ≤ (wrap64 (a0 + 1))) = true := decide_eq_true c4
        by_cases c5 : (wrap64 (a0 + 1)) ≤ 10
        · rw [if_pos c5] at H
          have c5b0 := eq_true c5
          have c5b1 : decide ((wrap64 (a0 + 1)) ≤ 10) = true := decide_eq_true c5
          obtain rfl := Option.some.inj H
          go_enter Tryd.func35, Tryd.ntmps35
          go_wp2
          go_ret
          exact ⟨by first | rfl | (simp [errW_none, errW_some] <;> rfl) | (simp [*, errW_none, errW_some] <;> rfl), by repeat (first | (with_reducible first | exact HB.out | apply below_alloc | apply pw_below_drewN | apply below_drew1) | exact HB.out)⟩
        · rw [if_neg c5] at H
          exact absurd H (by simp)
      · rw [if_neg c4] at H
        exact absurd H (by simp)
    · rw [if_neg c3] at H
      exact absurd H (by simp)
  · rw [if_neg c2] at H
    have c2b0 : decide (a0 < 10) = false := decide_eq_false c2
    clear c2
    replace H := Option.bind_eq_some_iff.mp H
    obtain ⟨t147, A60, H⟩ := H
    replace H : (if 0 ≤ (Int.tmod a0 10) then (if (Int.tmod a0 10) ≤ (wrap64 ((Int.tmod a0 10) + 1)) then (if (wrap64 ((Int.tmod a0 10) + 1)) ≤ 10 then (if t147.size + ((⟨#[48, 49, 50, 51, 52, 53, 54, 55, 56, 57]⟩ : ByteArray).extract ((Int.tmod a0 10) : Int).toNat ((wrap64 ((Int.tmod a0 10) + 1)) : Int).toNat).size ≤ 9223372036854775807 then (some (t147 ++ ((⟨#[48, 49, 50, 51, 52, 53, 54, 55, 56, 57]⟩ : ByteArray).extract ((Int.tmod a0 10) : Int).toNat ((wrap64 ((Int.tmod a0 10) + 1)) : Int).toNat))) else (none)) else (none)) else (none)) else (none)) = some r := H
    have A6 := Aside0.mk A60
    clear A60
    obtain ⟨ji7, hji7⟩ : ∃ j_ : Int, (Int.tmod a0 10) = j_ := ⟨_, rfl⟩
    replace H : (if 0 ≤ (ji7) then (if (ji7) ≤ (wrap64 ((ji7) + 1)) then (if (wrap64 ((ji7) + 1)) ≤ 10 then (if t147.size + ((⟨#[48, 49, 50, 51, 52, 53, 54, 55, 56, 57]⟩ : ByteArray).extract ((ji7) : Int).toNat ((wrap64 ((ji7) + 1)) : Int).toNat).size ≤ 9223372036854775807 then (some (t147 ++ ((⟨#[48, 49, 50, 51, 52, 53, 54, 55, 56, 57]⟩ : ByteArray).extract ((ji7) : Int).toNat ((wrap64 ((ji7) + 1)) : Int).toNat))) else (none)) else (none)) else (none)) else (none)) = some r := by first | (rw [hji7] at H; exact H) | (simp only [hji7] at H ⊢; exact H)
    (try rw [hji7] at A6)
    by_cases c8 : 0 ≤ (ji7)
    · rw [if_pos c8] at H
      have c8b0 := eq_true c8
      have c8b1 : decide (0 ≤ (ji7)) = true := decide_eq_true c8
      clear c8
      by_cases c9 : (ji7) ≤ (wrap64 ((ji7) + 1))
      · rw [if_pos c9] at H
        have c9b0 := eq_true c9
        have c9b1 : decide ((ji7) ≤ (wrap64 ((ji7) + 1))) = true := decide_eq_true c9
        by_cases c10 : (wrap64 ((ji7) + 1)) ≤ 10
        · rw [if_pos c10] at H
          have c10b0 := eq_true c10
          have c10b1 : decide ((wrap64 ((ji7) + 1)) ≤ 10) = true := decide_eq_true c10
          by_cases c11 : t147.size + ((⟨#[48, 49, 50, 51, 52, 53, 54, 55, 56, 57]⟩ : ByteArray).extract ((ji7) : Int).toNat ((wrap64 ((ji7) + 1)) : Int).toNat).size ≤ 9223372036854775807
          · rw [if_pos c11] at H
            have c11b0 := eq_true c11
            have z7n : ((⟨#[48, 49, 50, 51, 52, 53, 54, 55, 56, 57]⟩ : ByteArray).extract ((ji7) : Int).toNat ((wrap64 ((ji7) + 1)) : Int).toNat).size = ((wrap64 (ji7 + 1)).toNat - ji7.toNat) := by rw [ByteArray.size_extract, Nat.min_eq_left (show ((wrap64 ((ji7) + 1)) : Int).toNat ≤ (⟨#[48, 49, 50, 51, 52, 53, 54, 55, 56, 57]⟩ : ByteArray).size by have h_ := of_eq_true c10b0; show _ ≤ 10; omega)]
            have z7m : (9223372036854775807 < t147.size + ((wrap64 (ji7 + 1)).toNat - ji7.toNat)) = False := eq_false (Nat.not_lt.2 (by rw [← z7n]; exact c11))
            have c11b1 : decide (t147.size + ((⟨#[48, 49, 50, 51, 52, 53, 54, 55, 56, 57]⟩ : ByteArray).extract ((ji7) : Int).toNat ((wrap64 ((ji7) + 1)) : Int).toNat).size ≤ 9223372036854775807) = true := decide_eq_true c11
            try have c11b2 : (9223372036854775807 < t147.size + ((⟨#[48, 49, 50, 51, 52, 53, 54, 55, 56, 57]⟩ : ByteArray).extract ((ji7) : Int).toNat ((wrap64 ((ji7) + 1)) : Int).toNat).size) = False := eq_false (Nat.not_lt.2 c11)
            obtain rfl := Option.some.inj H
            go_enter Tryd.func35, Tryd.ntmps35
            try go_wp2
            have n0_ := Aside0.mk (below_drew1 HB.out)
            clear HB
            have HB := n0_
            clear n0_
            refine start_ (n := 11) (S := fun w' => True) (ds := []) #[false, false, false, false, false, false, false, false, false, false, false] (by kernel_rfl) rfl rfl trivial (fun hHeld => ?_); refine with_tabW trickleref14_Num.tab3 trickleref14_Num.bits3 (fun HT_ HW_ => ?_)
            generalize w.drew = w12 at HB hHeld ⊢
            refine pure_ (i := 0) (N := some 9) (v := ?_) (a' := ?_) #[true, false, false, false, false, false, false, false, false, false, false] rfl rfl (any_of HT_.out (by kernel_rfl)) (fun _ _ _ h => h) (Or.inl ⟨by rfl, ?_⟩) ?_ ?_
            rotate_left
            · intro w'
              go_simp
              with_reducible rfl
            rotate_left
            · simp only [Act.put, List.setIfInBounds_toArray, List.set_cons_zero, List.set_cons_succ, i64_w, i32_w]
              rfl
            refine pure_ (i := 1) (N := some 10) (v := ?_) (a' := ?_) #[true, true, false, false, false, false, false, false, false, false, false] rfl rfl (any_of HT_.out (by kernel_rfl)) (fun _ _ _ h => h) (Or.inl ⟨by rfl, ?_⟩) ?_ ?_
            rotate_left
            · intro w'
              go_simp
              with_reducible rfl
            rotate_left
            · simp only [Act.put, List.setIfInBounds_toArray, List.set_cons_zero, List.set_cons_succ, i64_w, i32_w]
              rfl
            refine pure_ (i := 3) (N := some 12) (v := ?_) (a' := ?_) #[true, true, false, true, false, false, false, false, false, false, false] rfl rfl (any_of HT_.out (by kernel_rfl)) (fun _ _ _ h => h) (Or.inl ⟨by rfl, ?_⟩) ?_ ?_
            rotate_left
            · intro w'
              go_simp
              with_reducible rfl
            rotate_left
            · simp only [Act.put, List.setIfInBounds_toArray, List.set_cons_zero, List.set_cons_succ, i64_w, i32_w]
              rfl
            refine pure_ (i := 4) (N := some 13) (v := ?_) (a' := ?_) #[true, true, false, true, true, false, false, false, false, false, false] rfl rfl (any_of HT_.out (by kernel_rfl)) (fun _ _ _ h => h) (Or.inl ⟨by rfl, ?_⟩) ?_ ?_
            rotate_left
            · intro w'
              go_simp
              with_reducible rfl
            rotate_left
            · simp only [Act.put, List.setIfInBounds_toArray, List.set_cons_zero, List.set_cons_succ, i64_w, i32_w]
              rfl
            refine pure_ (i := 5) (N := some 14) (v := ?_) (a' := ?_) #[true, true, false, true, true, true, false, false, false, false, false] rfl rfl (any_of HT_.out (by kernel_rfl)) (fun _ _ _ h => h) (Or.inl ⟨by rfl, ?_⟩) ?_ ?_
            rotate_left
            · intro w'
              go_simp
              with_reducible rfl
            rotate_left
            · simp only [Act.put, List.setIfInBounds_toArray, List.set_cons_zero, List.set_cons_succ, i64_w, i32_w]
              rfl
            refine pure_ (i := 6) (N := some 15) (v := ?_) (a' := ?_) #[true, true, false, true, true, true, true, false, false, false, false] rfl rfl (any_of HT_.out (by kernel_rfl)) (fun _ _ _ h => h) (Or.inl ⟨by rfl, ?_⟩) ?_ ?_
            rotate_left
            · intro w'
              go_simp
              with_reducible rfl
            rotate_left
            · simp only [Act.put, List.setIfInBounds_toArray, List.set_cons_zero, List.set_cons_succ, i64_w, i32_w]
              rfl
            refine pure_ (i := 7) (N := some 16) (v := ?_) (a' := ?_) #[true, true, false, true, true, true, true, true, false, false, false] rfl rfl (any_of HT_.out (by kernel_rfl)) (fun _ _ _ h => h) (Or.inl ⟨by rfl, ?_⟩) ?_ ?_
            rotate_left
            · intro w'
              go_simp
              with_reducible rfl
            rotate_left
            · simp only [Act.put, List.setIfInBounds_toArray, List.set_cons_zero, List.set_cons_succ, i64_w, i32_w]
              rfl
            refine pure_ (i := 8) (N := some 17) (v := ?_) (a' := ?_) #[true, true, false, true, true, true, true, true, true, false, false] rfl rfl (any_of HT_.out (by kernel_rfl)) (fun _ _ _ h => h) (Or.inl ⟨by rfl, ?_⟩) ?_ ?_
            rotate_left
            · intro w'
              go_simp
              with_reducible rfl
            rotate_left
            · simp only [Act.put, List.setIfInBounds_toArray, List.set_cons_zero, List.set_cons_succ, i64_w, i32_w]
              rfl
            refine one_ (i := 2) (N := some 11) #[true, true, true, true, true, true, true, true, true, false, false] rfl rfl (one_of HT_.out (by kernel_rfl)) (by decide) (fun K hK => ?_)
            refine goes_ Tryd.func35 (by kernel_rfl) rfl #[.int .i64 (wrap64 (Int.tdiv a0 10))] (by rfl) rfl rfl (by (try simp only [List.map_toArray, List.map_cons, List.map_nil]); first | done | rfl | (simp only [List.length_drop, List.length_take]; rfl)) ?_
            with_reducible refine (ih k (by omega) (wrap64 (Int.tdiv a0 10)) t147 _ A6.out).mono ?_
            rintro e w13 ⟨rfl, hb⟩
            refine ⟨_, rfl, ?_⟩
            have n0_ := Aside0.mk (below_step (by repeat (first | (with_reducible first | exact HB.out | apply below_alloc | apply pw_below_drewN | apply below_drew1) | exact HB.out)) hb)
            clear HB
            have HB := n0_
            clear n0_
            (try clear hb)
            (try clear hb2)
            (try clear hk)
            (try clear hi)
            refine hK.out _ _ trivial (fun hHeld => ?_)
            clear hK K
            refine norm_ (a' := ?_) ?_ ?_
            rotate_left
            · show Act.put _ (some 11) _ = _
              simp only [Act.put, List.setIfInBounds_toArray, List.set_cons_zero, List.set_cons_succ, i64_w, i32_w]
              rfl
            refine pure_ (i := 9) (N := some 18) (v := ?_) (a' := ?_) #[true, true, true, true, true, true, true, true, true, true, false] rfl rfl (any_of HT_.out (by kernel_rfl)) (fun _ _ _ h => h) (Or.inl ⟨by rfl, ?_⟩) ?_ ?_
            rotate_left
            · intro w'
              go_simp
              with_reducible rfl
            rotate_left
            · simp only [Act.put, List.setIfInBounds_toArray, List.set_cons_zero, List.set_cons_succ, i64_w, i32_w]
              rfl
            refine pure_ (i := 10) (N := some 2) (v := ?_) (a' := ?_) #[true, true, true, true, true, true, true, true, true, true, true] rfl rfl (any_of HT_.out (by kernel_rfl)) (fun _ _ _ h => h) (Or.inl ⟨by rfl, ?_⟩) ?_ ?_
            rotate_left
            · intro w'
              go_simp
              with_reducible rfl
            rotate_left
            · simp only [Act.put, List.setIfInBounds_toArray, List.set_cons_zero, List.set_cons_succ, i64_w, i32_w]
              rfl
            refine done_ (done_of HT_.out (by kernel_rfl)) ?_
            try go_wp2
            go_ret
            exact ⟨by first | rfl | (simp [errW_none, errW_some] <;> rfl) | (simp only [← hji7]; first | rfl | (simp [errW_none, errW_some] <;> rfl)) | (simp [*, errW_none, errW_some] <;> rfl), by repeat (first | (with_reducible first | exact HB.out | apply below_alloc | apply pw_below_drewN | apply below_drew1) | exact HB.out)⟩
          · rw [if_neg c11] at H
            exact absurd H (by simp)
        · rw [if_neg c10] at H
          exact absurd H (by simp)
      · rw [if_neg c9] at H
        exact absurd H (by simp)
    · rw [if_neg c8] at H
      exact absurd H (by simp)

/-! ### trickleref14_Format: function 18 -/
def trickleref14_Format.l0 : Nat → ByteArray → ByteArray → List (S39) → Int → Int → Option (ByteArray)
  | 0, _, _, _, _, _ => none
  | k + 1, x0, x5, x10, x11, x12 => if x12 < x11 then (if 0 ≤ x12 then (if x12 < (x10.length : Int) then ((trickleref14_Position.f k x0 ((rd_T39 x10 x12).f0)).bind fun bt150 => ((trickleref14_Num.f k bt150.1).bind fun t152 => (if t152.size + 1 ≤ 9223372036854775807 then ((trickleref14_Num.f k bt150.2).bind fun t153 => (if (t152 ++ (⟨#[58]⟩ : ByteArray)).size + t153.size ≤ 9223372036854775807 then (if ((t152 ++ (⟨#[58]⟩ : ByteArray)) ++ t153).size + 2 ≤ 9223372036854775807 then (if (((t152 ++ (⟨#[58]⟩ : ByteArray)) ++ t153) ++ (⟨#[58, 32]⟩ : ByteArray)).size + ((rd_T39 x10 x12).f1).size ≤ 9223372036854775807 then (if ((((t152 ++ (⟨#[58]⟩ : ByteArray)) ++ t153) ++ (⟨#[58, 32]⟩ : ByteArray)) ++ ((rd_T39 x10 x12).f1)).size + 1 ≤ 9223372036854775807 then (if x5.size + (((((t152 ++ (⟨#[58]⟩ : ByteArray)) ++ t153) ++ (⟨#[58, 32]⟩ : ByteArray)) ++ ((rd_T39 x10 x12).f1)) ++ (⟨#[10]⟩ : ByteArray)).size ≤ 9223372036854775807 then (trickleref14_Format.l0 k x0 (x5 ++ (((((t152 ++ (⟨#[58]⟩ : ByteArray)) ++ t153) ++ (⟨#[58, 32]⟩ : ByteArray)) ++ ((rd_T39 x10 x12).f1)) ++ (⟨#[10]⟩ : ByteArray))) x10 x11 (wrap64 (x12 + 1))) else (none)) else (none)) else (none)) else (none)) else (none))) else (none)))) else (none)) else (none)) else (some x5)
def trickleref14_Format.f (k : Nat) (a0 : ByteArray) (l1 : List (S39)) : Option (ByteArray) := trickleref14_Format.l0 k a0 (⟨#[]⟩ : ByteArray) l1 (l1.length : Int) 0
def trickleref14_Format.T6 : Bool × List (List Nat × List Nat) := (true, [([], []), ([], []), ([1], [1]), ([2], [2]), ([], []), ([4, 2], [4]), ([3, 5], [3, 5]), ([6], [6]), ([], []), ([8], [8]), ([7, 9], [7, 9]), ([10], [10]), ([0, 11], [0, 11]), ([12, 5, 0, 1, 2, 3, 4, 5, 6, 7, 8, 9, 10, 11, 12], [0, 12])])
def trickleref14_Format.B6 : List Nat := [0, 0, 2, 6, 0, 22, 62, 126, 0, 256, 1022, 2046, 4095, 8191]
theorem trickleref14_Format.tab6 : rtab .any (opsOf Tryd.f18 6) = trickleref14_Format.T6 := by kernel_rfl
theorem trickleref14_Format.bits6 : waitsOk trickleref14_Format.T6.2 trickleref14_Format.B6 = true := by kernel_rfl
set_option maxHeartbeats 8000000 in
set_option maxRecDepth 100000 in
theorem trickleref14_Format.calls (k : Nat) (a0 : ByteArray) (A1 : Option Addr) (c1 : Nat) (l1 : List (S39)) (r : ByteArray) (w : World) (hr1 : Kd.C k39 w A1 l1.length l1) (hc1 : l1.length ≤ c1) (h : trickleref14_Format.f k a0 l1 = some r) :
    Calls Tryd.prog 18 #[.string a0, .slice A1 l1.length c1] w fun e w' => e = .returned (.string r) ∧ Below w.heap.size w w' := by
  have hu39 := Tryd.underlying39
  have HR1 := Aside0.mk hr1
  have HC1 := Aside0.mk hc1
  clear hr1 hc1
  have HB := Aside0.mk (Below.refl w.heap.size w)
  have H : (trickleref14_Format.l0 k a0 (⟨#[]⟩ : ByteArray) l1 (l1.length : Int) 0) = some r := h
  clear h
  have H' := Aside0.mk H
  clear H
  go_enter Tryd.func18, Tryd.ntmps18
  go_wp2
  go_loopg [5, 12] k (fun kq v5 v12 w' => ∃ (x5_1 : ByteArray) (x12_1 : Int), v5 = .string x5_1 ∧ v12 = .int .i64 x12_1 ∧ Aside0 (trickleref14_Format.l0 kq a0 x5_1 l1 (l1.length : Int) x12_1 = some r) ∧ Aside0 (kq ≤ k) ∧ Aside0 (Below w.heap.size w w'))
  case atStart => exact ⟨((⟨#[]⟩ : ByteArray)), (0), (by first | rfl | (simp; done) | (simp [*]; done)), (by first | rfl | (simp; done) | (simp [*]; done)), H', ⟨Nat.le_refl _⟩, ⟨by repeat (first | (with_reducible first | exact HB.out | apply below_alloc | apply pw_below_drewN | apply below_drew1) | exact HB.out)⟩⟩
  case round =>
    clear H'
    try clear c1
    try clear p2
    obtain ⟨x5_1, x12_1, rfl, rfl, HA, HK1, HB⟩ := hrel
    cases gk with
    | zero => exact absurd HA.out (by simp [trickleref14_Format.l0])
    | succ k1 =>
      have H := HA.out
      clear HA
      simp only [trickleref14_Format.l0] at H
      by_cases c3 : x12_1 < (l1.length : Int)
      · rw [if_pos c3] at H
        have c3b0 : decide (x12_1 < (l1.length : Int)) = true := decide_eq_true c3
        clear c3
        by_cases c4 : 0 ≤ x12_1
        · rw [if_pos c4] at H
          have c4b0 : decide (0 ≤ x12_1) = true := decide_eq_true c4
          clear c4
          by_cases c5 : x12_1 < (l1.length : Int)
          · rw [if_pos c5] at H
            have c5b0 : decide (x12_1 < (l1.length : Int)) = true := decide_eq_true c5
            clear c5
            replace H := Option.bind_eq_some_iff.mp H
            obtain ⟨⟨t150, t151⟩, A60, H⟩ := H
            replace H : ((trickleref14_Num.f k1 t150).bind fun t152 => (if t152.size + 1 ≤ 9223372036854775807 then ((trickleref14_Num.f k1 t151).bind fun t153 => (if (t152 ++ (⟨#[58]⟩ : ByteArray)).size + t153.size ≤ 9223372036854775807 then (if ((t152 ++ (⟨#[58]⟩ : ByteArray)) ++ t153).size + 2 ≤ 9223372036854775807 then (if (((t152 ++ (⟨#[58]⟩ : ByteArray)) ++ t153) ++ (⟨#[58, 32]⟩ : ByteArray)).size + ((rd_T39 l1 x12_1).f1).size ≤ 9223372036854775807 then (if ((((t152 ++ (⟨#[58]⟩ : ByteArray)) ++ t153) ++ (⟨#[58, 32]⟩ : ByteArray)) ++ ((rd_T39 l1 x12_1).f1)).size + 1 ≤ 9223372036854775807 then (if x5_1.size + (((((t152 ++ (⟨#[58]⟩ : ByteArray)) ++ t153) ++ (⟨#[58, 32]⟩ : ByteArray)) ++ ((rd_T39 l1 x12_1).f1)) ++ (⟨#[10]⟩ : ByteArray)).size ≤ 9223372036854775807 then (trickleref14_Format.l0 k1 a0 (x5_1 ++ (((((t152 ++ (⟨#[58]⟩ : ByteArray)) ++ t153) ++ (⟨#[58, 32]⟩ : ByteArray)) ++ ((rd_T39 l1 x12_1).f1)) ++ (⟨#[10]⟩ : ByteArray))) l1 (l1.length : Int) (wrap64 (x12_1 + 1))) else (none)) else (none)) else (none)) else (none)) else (none))) else (none))) = some r := H
            have A6 := Aside0.mk A60
            clear A60
            replace H := Option.bind_eq_some_iff.mp H
            obtain ⟨t152, A70, H⟩ := H
            replace H : (if t152.size + 1 ≤ 9223372036854775807 then ((trickleref14_Num.f k1 t151).bind fun t153 => (if (t152 ++ (⟨#[58]⟩ : ByteArray)).size + t153.size ≤ 9223372036854775807 then (if ((t152 ++ (⟨#[58]⟩ : ByteArray)) ++ t153).size + 2 ≤ 9223372036854775807 then (if (((t152 ++ (⟨#[58]⟩ : ByteArray)) ++ t153) ++ (⟨#[58, 32]⟩ : ByteArray)).size + ((rd_T39 l1 x12_1).f1).size ≤ 9223372036854775807 then (if ((((t152 ++ (⟨#[58]⟩ : ByteArray)) ++ t153) ++ (⟨#[58, 32]⟩ : ByteArray)) ++ ((rd_T39 l1 x12_1).f1)).size + 1 ≤ 9223372036854775807 then (if x5_1.size + (((((t152 ++ (⟨#[58]⟩ : ByteArray)) ++ t153) ++ (⟨#[58, 32]⟩ : ByteArray)) ++ ((rd_T39 l1 x12_1).f1)) ++ (⟨#[10]⟩ : ByteArray)).size ≤ 9223372036854775807 then (trickleref14_Format.l0 k1 a0 (x5_1 ++ (((((t152 ++ (⟨#[58]⟩ : ByteArray)) ++ t153) ++ (⟨#[58, 32]⟩ : ByteArray)) ++ ((rd_T39 l1 x12_1).f1)) ++ (⟨#[10]⟩ : ByteArray))) l1 (l1.length : Int) (wrap64 (x12_1 + 1))) else (none)) else (none)) else (none)) else (none)) else (none))) else (none)) = some r := H
            have A7 := Aside0.mk A70
            clear A70
            by_cases c8 : t152.size + 1 ≤ 9223372036854775807
            · rw [if_pos c8] at H
              have c8b0 := eq_true c8
              have c8b1 : decide (t152.size + 1 ≤ 9223372036854775807) = true := decide_eq_true c8
              try have c8b2 : (9223372036854775807 < t152.size + 1) = False := eq_false (Nat.not_lt.2 c8)
              replace H := Option.bind_eq_some_iff.mp H
              obtain ⟨t153, A90, H⟩ := H
              replace H : (if (t152 ++ (⟨#[58]⟩ : ByteArray)).size + t153.size ≤ 9223372036854775807 then (if ((t152 ++ (⟨#[58]⟩ : ByteArray)) ++ t153).size + 2 ≤ 9223372036854775807 then (if (((t152 ++ (⟨#[58]⟩ : ByteArray)) ++ t153) ++ (⟨#[58, 32]⟩ : ByteArray)).size + ((rd_T39 l1 x12_1).f1).size ≤ 9223372036854775807 then (if ((((t152 ++ (⟨#[58]⟩ : ByteArray)) ++ t153) ++ (⟨#[58, 32]⟩ : ByteArray)) ++ ((rd_T39 l1 x12_1).f1)).size + 1 ≤ 9223372036854775807 then (if x5_1.size + (((((t152 ++ (⟨#[58]⟩ : ByteArray)) ++ t153) ++ (⟨#[58, 32]⟩ : ByteArray)) ++ ((rd_T39 l1 x12_1).f1)) ++ (⟨#[10]⟩ : ByteArray)).size ≤ 9223372036854775807 then (trickleref14_Format.l0 k1 a0 (x5_1 ++ (((((t152 ++ (⟨#[58]⟩ : ByteArray)) ++ t153) ++ (⟨#[58, 32]⟩ : ByteArray)) ++ ((rd_T39 l1 x12_1).f1)) ++ (⟨#[10]⟩ : ByteArray))) l1 (l1.length : Int) (wrap64 (x12_1 + 1))) else (none)) else (none)) else (none)) else (none)) else (none)) = some r := H
              have A9 := Aside0.mk A90
              clear A90
              by_cases c10 : (t152 ++ (⟨#[58]⟩ : ByteArray)).size + t153.size ≤ 9223372036854775807
              · rw [if_pos c10] at H
                have c10b0 := eq_true c10
                have c10b1 : decide ((t152 ++ (⟨#[58]⟩ : ByteArray)).size + t153.size ≤ 9223372036854775807) = true := decide_eq_true c10
                try have c10b2 : (9223372036854775807 < (t152 ++ (⟨#[58]⟩ : ByteArray)).size + t153.size) = False := eq_false (Nat.not_lt.2 c10)
                by_cases c11 : ((t152 ++ (⟨#[58]⟩ : ByteArray)) ++ t153).size + 2 ≤ 9223372036854775807
                · rw [if_pos c11] at H
                  have c11b0 := eq_true c11
                  have c11b1 : decide (((t152 ++ (⟨#[58]⟩ : ByteArray)) ++ t153).size + 2 ≤ 9223372036854775807) = true := decide_eq_true c11
                  try have c11b2 : (9223372036854775807 < ((t152 ++ (⟨#[58]⟩ : ByteArray)) ++ t153).size + 2) = False := eq_false (Nat.not_lt.2 c11)
                  by_cases c12 : (((t152 ++ (⟨#[58]⟩ : ByteArray)) ++ t153) ++ (⟨#[58, 32]⟩ : ByteArray)).size + ((rd_T39 l1 x12_1).f1).size ≤ 9223372036854775807
                  · rw [if_pos c12] at H
                    have c12b0 := eq_true c12
                    have c12b1 : decide ((((t152 ++ (⟨#[58]⟩ : ByteArray)) ++ t153) ++ (⟨#[58, 32]⟩ : ByteArray)).size + ((rd_T39 l1 x12_1).f1).size ≤ 9223372036854775807) = true := decide_eq_true c12
                    try have c12b2 : (9223372036854775807 < (((t152 ++ (⟨#[58]⟩ : ByteArray)) ++ t153) ++ (⟨#[58, 32]⟩ : ByteArray)).size + ((rd_T39 l1 x12_1).f1).size) = False := eq_false (Nat.not_lt.2 c12)
                    by_cases c13 : ((((t152 ++ (⟨#[58]⟩ : ByteArray)) ++ t153) ++ (⟨#[58, 32]⟩ : ByteArray)) ++ ((rd_T39 l1 x12_1).f1)).size + 1 ≤ 9223372036854775807
                    · rw [if_pos c13] at H
                      have c13b0 := eq_true c13
                      have c13b1 : decide (((((t152 ++ (⟨#[58]⟩ : ByteArray)) ++ t153) ++ (⟨#[58, 32]⟩ : ByteArray)) ++ ((rd_T39 l1 x12_1).f1)).size + 1 ≤ 9223372036854775807) = true := decide_eq_true c13
                      try have c13b2 : (9223372036854775807 < ((((t152 ++ (⟨#[58]⟩ : ByteArray)) ++ t153) ++ (⟨#[58, 32]⟩ : ByteArray)) ++ ((rd_T39 l1 x12_1).f1)).size + 1) = False := eq_false (Nat.not_lt.2 c13)
                      by_cases c14 : x5_1.size + (((((t152 ++ (⟨#[58]⟩ : ByteArray)) ++ t153) ++ (⟨#[58, 32]⟩ : ByteArray)) ++ ((rd_T39 l1 x12_1).f1)) ++ (⟨#[10]⟩ : ByteArray)).size ≤ 9223372036854775807
                      · rw [if_pos c14] at H
                        have c14b0 := eq_true c14
                        have y1 : (t152 ++ (⟨#[58]⟩ : ByteArray)).size = t152.size + 1 := by simp only [ByteArray.size_append]; rfl
                        have y2 : ((t152 ++ (⟨#[58]⟩ : ByteArray)) ++ t153).size = t152.size + 1 + t153.size := by rw [ByteArray.size_append, y1]
                        have y3 : (((t152 ++ (⟨#[58]⟩ : ByteArray)) ++ t153) ++ (⟨#[58, 32]⟩ : ByteArray)).size = t152.size + 1 + t153.size + 2 := by rw [ByteArray.size_append, y2]; rfl
                        have y4 : ((((t152 ++ (⟨#[58]⟩ : ByteArray)) ++ t153) ++ (⟨#[58, 32]⟩ : ByteArray)) ++ ((rd_T39 l1 x12_1).f1)).size = t152.size + 1 + t153.size + 2 + ((rd_T39 l1 x12_1).f1).size := by rw [ByteArray.size_append, y3]
                        have y5 : (((((t152 ++ (⟨#[58]⟩ : ByteArray)) ++ t153) ++ (⟨#[58, 32]⟩ : ByteArray)) ++ ((rd_T39 l1 x12_1).f1)) ++ (⟨#[10]⟩ : ByteArray)).size = t152.size + 1 + t153.size + 2 + ((rd_T39 l1 x12_1).f1).size + 1 := by rw [ByteArray.size_append, y4]; rfl
                        have z10 : (9223372036854775807 < t152.size + 1 + t153.size) = False := eq_false (Nat.not_lt.2 (by have h_ := c10; rw [y1] at h_; exact h_))
                        have z11 : (9223372036854775807 < t152.size + 1 + t153.size + 2) = False := eq_false (Nat.not_lt.2 (by have h_ := c11; rw [y2] at h_; exact h_))
                        have z12 : (9223372036854775807 < t152.size + 1 + t153.size + 2 + ((rd_T39 l1 x12_1).f1).size) = False := eq_false (Nat.not_lt.2 (by have h_ := c12; rw [y3] at h_; exact h_))
                        have z13 : (9223372036854775807 < t152.size + 1 + t153.size + 2 + ((rd_T39 l1 x12_1).f1).size + 1) = False := eq_false (Nat.not_lt.2 (by have h_ := c13; rw [y4] at h_; exact h_))
                        have z14 : (9223372036854775807 < x5_1.size + (t152.size + 1 + t153.size + 2 + ((rd_T39 l1 x12_1).f1).size + 1)) = False := eq_false (Nat.not_lt.2 (by have h_ := c14; rw [y5] at h_; exact h_))
                        clear y1 y2 y3 y4 y5
                        have c14b1 : decide (x5_1.size + (((((t152 ++ (⟨#[58]⟩ : ByteArray)) ++ t153) ++ (⟨#[58, 32]⟩ : ByteArray)) ++ ((rd_T39 l1 x12_1).f1)) ++ (⟨#[10]⟩ : ByteArray)).size ≤ 9223372036854775807) = true := decide_eq_true c14
                        try have c14b2 : (9223372036854775807 < x5_1.size + (((((t152 ++ (⟨#[58]⟩ : ByteArray)) ++ t153) ++ (⟨#[58, 32]⟩ : ByteArray)) ++ ((rd_T39 l1 x12_1).f1)) ++ (⟨#[10]⟩ : ByteArray)).size) = False := eq_false (Nat.not_lt.2 c14)
                        have H' := Aside0.mk H
                        clear H
                        have p148 : 0 ≤ (x12_1 : Int) := of_decide_eq_true (by first | (with_reducible assumption) | assumption)
                        have q148 : x12_1 < (l1.length : Int) := of_decide_eq_true (by first | (with_reducible assumption) | assumption)
                        obtain ⟨ad148, e148, hx148_0, hx148_1⟩ := at_T39 HR1.out x12_1 p148 q148
                        cases e148
                        replace hx148_0 := (HB.out.cell (World.block_lt_of_cell? w _ hx148_0)).trans hx148_0
                        replace hx148_1 := (HB.out.cell (World.block_lt_of_cell? w _ hx148_1)).trans hx148_1
                        replace p148 := eq_true p148
                        replace q148 := eq_true q148
                        try go_wp2_with (first | ((with_reducible refine gate_dst (N := 7) rfl ?_); refine box_event ?hg (N := 7) ?hd (cs := #[.int .i64 0, .string (⟨#[]⟩ : ByteArray)]) (t := 39) ?hr ?_; (case hd => rfl); (case hg => rfl); (case hr => first | (go_simp; done) | (go_simp; rfl)); intro gb149 hg w15 hbox hb; have n0_ := Aside0.mk (below_step (by repeat (first | (with_reducible first | exact HB.out | apply below_alloc | apply pw_below_drewN | apply below_drew1) | exact HB.out)) hb); have n1_ := Aside0.mk (hbox); have n2_ := Aside0.mk ((by rw [hg]; exact (below_size (by repeat (first | (with_reducible first | exact HB.out | apply below_alloc | apply pw_below_drewN | apply below_drew1) | exact HB.out))) : w.heap.size ≤ gb149)); have n3_ := Aside0.mk ((by rw [hg]; exact (below_size (by repeat (first | (with_reducible first | exact HB.out | apply below_alloc | apply pw_below_drewN | apply below_drew1) | exact HB.out))) : w.heap.size ≤ gb149)); clear HB; have HB := n0_; have BK149 := n1_; have GW149 := n2_; have GE149 := n3_; clear n0_ n1_ n2_ n3_; clear hb hbox hg; have hcz16_0 : w15.cell? ⟨gb149, 0, none⟩ = some (.int .i64 0) := (blk_cell BK149.out 0).trans rfl; have hcz16_1 : w15.cell? ⟨gb149, 1, none⟩ = some (.string (⟨#[]⟩ : ByteArray)) := (blk_cell BK149.out 1).trans rfl; have hfz16_0 := blk_frozen BK149.out 0; have hfz16_1 := blk_frozen BK149.out 1) | ((with_reducible refine gate_callee (f := 13) rfl ?_); refine goesL_ (some 20) rfl rfl Tryd.func13 (by kernel_rfl) rfl #[.string a0, .int .i64 ((rd_T39 l1 x12_1).f0)] rfl (by (try simp only [List.map_toArray, List.map_cons, List.map_nil]); first | done | rfl | (simp only [List.length_drop, List.length_take]; rfl)) ?_; (with_reducible refine (trickleref14_Position.calls k1 a0 ((rd_T39 l1 x12_1).f0) t150 t151 _ A6.out).mono ?_); rintro e w' ⟨rfl, ⟨nd, rfl⟩⟩; refine ⟨_, rfl, ?_⟩))
                        have n0_ : Aside0 (((w15.setCell ⟨gb149, 0, none⟩ (.int .i64 ((rd_T39 l1 x12_1).f0))).setCell ⟨gb149, 1, none⟩ (.string ((rd_T39 l1 x12_1).f1))).heap[gb149]? = some (.cells #[.int .i64 ((rd_T39 l1 x12_1).f0), .string ((rd_T39 l1 x12_1).f1)] 39 (0, 0))) := ⟨by (with_reducible repeat (first | refine blk_drewN ?_ _ | refine blk_drew ?_ | refine blk_alloc ?_ _)); refine blk_put (cs := #[.int .i64 ((rd_T39 l1 x12_1).f0), .string (⟨#[]⟩ : ByteArray)]) ?_ 1 _ rfl; (with_reducible repeat (first | refine blk_drewN ?_ _ | refine blk_drew ?_ | refine blk_alloc ?_ _)); refine blk_put (cs := #[.int .i64 0, .string (⟨#[]⟩ : ByteArray)]) ?_ 0 _ rfl; (with_reducible repeat (first | refine blk_drewN ?_ _ | refine blk_drew ?_ | refine blk_alloc ?_ _)); exact BK149.out⟩
                        have n1_ : Aside0 (Below w.heap.size w ((w15.setCell ⟨gb149, 0, none⟩ (.int .i64 ((rd_T39 l1 x12_1).f0))).setCell ⟨gb149, 1, none⟩ (.string ((rd_T39 l1 x12_1).f1)))) := ⟨by repeat (first | (with_reducible first | exact HB.out | apply below_alloc | apply pw_below_drewN | apply below_drew1 | refine below_set ?_ GE149.out) | exact HB.out)⟩
                        (try clear BK149)
                        (try clear HB)
                        generalize ((w15.setCell ⟨gb149, 0, none⟩ (.int .i64 ((rd_T39 l1 x12_1).f0))).setCell ⟨gb149, 1, none⟩ (.string ((rd_T39 l1 x12_1).f1))) = w17 at n0_ n1_ ⊢
                        have BK149 := n0_
                        have HB := n1_
                        clear n0_ n1_
                        (try (rw [drewN_self w17]; generalize hq_ : World.drewN w17 _ = w17; have n0_ : Aside0 (w17.heap[gb149]? = some (.cells #[.int .i64 ((rd_T39 l1 x12_1).f0), .string ((rd_T39 l1 x12_1).f1)] 39 (0, 0))) := ⟨by rw [← hq_]; exact (by (with_reducible repeat (first | refine blk_drewN ?_ _ | refine blk_drew ?_ | refine blk_alloc ?_ _)); exact BK149.out)⟩; have n1_ : Aside0 (Below w.heap.size w w17) := ⟨by rw [← hq_]; exact (by repeat (first | (with_reducible first | exact HB.out | apply below_alloc | apply pw_below_drewN | apply below_drew1 | refine below_set ?_ GE149.out) | exact HB.out))⟩; clear BK149 HB hq_; have BK149 := n0_; have HB := n1_; clear n0_ n1_))
                        have n0_ := Aside0.mk (blk_drew BK149.out)
                        have n1_ := Aside0.mk (below_drew1 HB.out)
                        clear BK149
                        clear HB
                        have BK149 := n0_
                        have HB := n1_
                        clear n0_ n1_
                        refine start_ (n := 14) (S := fun w' => w'.cell? ⟨gb149, 0, none⟩ = some (.int .i64 ((rd_T39 l1 x12_1).f0)) ∧ w'.cell? ⟨gb149, 1, none⟩ = some (.string ((rd_T39 l1 x12_1).f1))) (ds := []) #[false, false, false, false, false, false, false, false, false, false, false, false, false, false] (by kernel_rfl) rfl rfl ⟨(blk_cell BK149.out 0).trans rfl, (blk_cell BK149.out 1).trans rfl⟩ (fun hHeld => ?_); refine with_tabW trickleref14_Format.tab6 trickleref14_Format.bits6 (fun HT_ HW_ => ?_)
                        generalize w17.drew = w18 at BK149 HB hHeld ⊢
                        refine pure_ (i := 0) (N := some 23) (v := ?_) (a' := ?_) #[true, false, false, false, false, false, false, false, false, false, false, false, false, false] rfl rfl (any_of HT_.out (by kernel_rfl)) (fun _ _ _ h => h) (Or.inl ⟨by rfl, ?_⟩) ?_ ?_
                        rotate_left
                        · intro w'
                          go_simp
                          with_reducible rfl
                        rotate_left
                        · simp only [Act.put, List.setIfInBounds_toArray, List.set_cons_zero, List.set_cons_succ, i64_w, i32_w]
                          rfl
                        refine pure_ (i := 1) (N := some 24) (v := ?_) (a' := ?_) #[true, true, false, false, false, false, false, false, false, false, false, false, false, false] rfl rfl (any_of HT_.out (by kernel_rfl)) (fun _ _ _ h => h) (Or.inl ⟨by rfl, ?_⟩) ?_ ?_
                        rotate_left
                        · intro w'
                          go_simp
                          with_reducible rfl
                        rotate_left
                        · simp only [Act.put, List.setIfInBounds_toArray, List.set_cons_zero, List.set_cons_succ, i64_w, i32_w]
                          rfl
                        refine pure_ (i := 4) (N := some 27) (v := ?_) (a' := ?_) #[true, true, false, false, true, false, false, false, false, false, false, false, false, false] rfl rfl (any_of HT_.out (by kernel_rfl)) (fun _ _ _ h => h) (Or.inl ⟨by rfl, ?_⟩) ?_ ?_
                        rotate_left
                        · intro w'
                          go_simp
                          with_reducible rfl
                        rotate_left
                        · simp only [Act.put, List.setIfInBounds_toArray, List.set_cons_zero, List.set_cons_succ, i64_w, i32_w]
                          rfl
                        refine pure_ (i := 8) (N := some 31) (v := ?_) (a' := ?_) #[true, true, false, false, true, false, false, false, true, false, false, false, false, false] rfl rfl (any_of HT_.out (by kernel_rfl)) (fun _ _ _ h => h) (Or.inl ⟨by rfl, ?_⟩) ?_ ?_
                        rotate_left
                        · intro w'
                          go_simp
                          with_reducible rfl
                        rotate_left
                        · simp only [Act.put, List.setIfInBounds_toArray, List.set_cons_zero, List.set_cons_succ, i64_w, i32_w]
                          rfl
                        refine take_ (i := 9) (N := some 32) (v := ?_) (a' := ?_) #[true, true, false, false, true, false, false, false, true, true, false, false, false, false] rfl rfl (take_ofW HT_.out HW_.out (by kernel_rfl)) (fun _ _ _ h => h) (Or.inl ⟨by rfl, ?_⟩) hHeld ?_ ?_
                        rotate_left
                        · rintro w' ⟨s0, s1⟩
                          go_simp
                          with_reducible rfl
                        rotate_left
                        · simp only [Act.put, List.setIfInBounds_toArray, List.set_cons_zero, List.set_cons_succ, i64_w, i32_w]
                          rfl
                        refine one_ (i := 2) (N := some 25) #[true, true, true, false, true, false, false, false, true, true, false, false, false, false] rfl rfl (one_of HT_.out (by kernel_rfl)) (by decide) (fun K hK => ?_)
                        refine goes_ Tryd.func35 (by kernel_rfl) rfl #[.int .i64 t150] (by rfl) rfl rfl (by (try simp only [List.map_toArray, List.map_cons, List.map_nil]); first | done | rfl | (simp only [List.length_drop, List.length_take]; rfl)) ?_
                        with_reducible refine (trickleref14_Num.calls k1 t150 t152 _ A7.out).mono ?_
                        rintro e w19 ⟨rfl, hb⟩
                        refine ⟨_, rfl, ?_⟩
                        have n0_ := Aside0.mk (blk_below (g := gb149) (o := .cells #[.int .i64 ((rd_T39 l1 x12_1).f0), .string ((rd_T39 l1 x12_1).f1)] 39 (0, 0)) (by (with_reducible repeat (first | refine blk_drewN ?_ _ | refine blk_drew ?_ | refine blk_alloc ?_ _)); exact BK149.out) hb)
                        have n1_ := Aside0.mk (below_step (by repeat (first | (with_reducible first | exact HB.out | apply below_alloc | apply pw_below_drewN | apply below_drew1 | refine below_set ?_ GE149.out) | exact HB.out)) hb)
                        clear BK149
                        clear HB
                        have BK149 := n0_
                        have HB := n1_
                        clear n0_ n1_
                        (try clear hb)
                        (try clear hb2)
                        (try clear hk)
                        (try clear hi)
                        refine hK.out _ _ ⟨(blk_cell BK149.out 0).trans rfl, (blk_cell BK149.out 1).trans rfl⟩ (fun hHeld => ?_)
                        clear hK K
                        refine norm_ (a' := ?_) ?_ ?_
                        rotate_left
                        · show Act.put _ (some 25) _ = _
                          simp only [Act.put, List.setIfInBounds_toArray, List.set_cons_zero, List.set_cons_succ, i64_w, i32_w]
                          rfl
                        refine pure_ (i := 3) (N := some 26) (v := ?_) (a' := ?_) #[true, true, true, true, true, false, false, false, true, true, false, false, false, false] rfl rfl (any_of HT_.out (by kernel_rfl)) (fun _ _ _ h => h) (Or.inl ⟨by rfl, ?_⟩) ?_ ?_
                        rotate_left
                        · intro w'
                          go_simp
                          with_reducible rfl
                        rotate_left
                        · simp only [Act.put, List.setIfInBounds_toArray, List.set_cons_zero, List.set_cons_succ, i64_w, i32_w]
                          rfl
                        refine one_ (i := 5) (N := some 28) #[true, true, true, true, true, true, false, false, true, true, false, false, false, false] rfl rfl (one_of HT_.out (by kernel_rfl)) (by decide) (fun K hK => ?_)
                        refine goes_ Tryd.func35 (by kernel_rfl) rfl #[.int .i64 t151] (by rfl) rfl rfl (by (try simp only [List.map_toArray, List.map_cons, List.map_nil]); first | done | rfl | (simp only [List.length_drop, List.length_take]; rfl)) ?_
                        with_reducible refine (trickleref14_Num.calls k1 t151 t153 _ A9.out).mono ?_
                        rintro e w20 ⟨rfl, hb⟩
                        refine ⟨_, rfl, ?_⟩
                        have n0_ := Aside0.mk (blk_below (g := gb149) (o := .cells #[.int .i64 ((rd_T39 l1 x12_1).f0), .string ((rd_T39 l1 x12_1).f1)] 39 (0, 0)) (by (with_reducible repeat (first | refine blk_drewN ?_ _ | refine blk_drew ?_ | refine blk_alloc ?_ _)); exact BK149.out) hb)
                        have n1_ := Aside0.mk (below_step (by repeat (first | (with_reducible first | exact HB.out | apply below_alloc | apply pw_below_drewN | apply below_drew1 | refine below_set ?_ GE149.out) | exact HB.out)) hb)
                        clear BK149
                        clear HB
                        have BK149 := n0_
                        have HB := n1_
                        clear n0_ n1_
                        (try clear hb)
                        (try clear hb2)
                        (try clear hk)
                        (try clear hi)
                        refine hK.out _ _ ⟨(blk_cell BK149.out 0).trans rfl, (blk_cell BK149.out 1).trans rfl⟩ (fun hHeld => ?_)
                        clear hK K
                        refine norm_ (a' := ?_) ?_ ?_
                        rotate_left
                        · show Act.put _ (some 28) _ = _
                          simp only [Act.put, List.setIfInBounds_toArray, List.set_cons_zero, List.set_cons_succ, i64_w, i32_w]
                          rfl
                        refine pure_ (i := 6) (N := some 29) (v := ?_) (a' := ?_) #[true, true, true, true, true, true, true, false, true, true, false, false, false, false] rfl rfl (any_of HT_.out (by kernel_rfl)) (fun _ _ _ h => h) (Or.inl ⟨by rfl, ?_⟩) ?_ ?_
                        rotate_left
                        · intro w'
                          go_simp
                          with_reducible rfl
                        rotate_left
                        · simp only [Act.put, List.setIfInBounds_toArray, List.set_cons_zero, List.set_cons_succ, i64_w, i32_w]
                          rfl
                        refine pure_ (i := 7) (N := some 30) (v := ?_) (a' := ?_) #[true, true, true, true, true, true, true, true, true, true, false, false, false, false] rfl rfl (any_of HT_.out (by kernel_rfl)) (fun _ _ _ h => h) (Or.inl ⟨by rfl, ?_⟩) ?_ ?_
                        rotate_left
                        · intro w'
                          go_simp
                          with_reducible rfl
                        rotate_left
                        · simp only [Act.put, List.setIfInBounds_toArray, List.set_cons_zero, List.set_cons_succ, i64_w, i32_w]
                          rfl
                        refine pure_ (i := 10) (N := some 33) (v := ?_) (a' := ?_) #[true, true, true, true, true, true, true, true, true, true, true, false, false, false] rfl rfl (any_of HT_.out (by kernel_rfl)) (fun _ _ _ h => h) (Or.inl ⟨by rfl, ?_⟩) ?_ ?_
                        rotate_left
                        · intro w'
                          go_simp
                          with_reducible rfl
                        rotate_left
                        · simp only [Act.put, List.setIfInBounds_toArray, List.set_cons_zero, List.set_cons_succ, i64_w, i32_w]
                          rfl
                        refine pure_ (i := 11) (N := some 34) (v := ?_) (a' := ?_) #[true, true, true, true, true, true, true, true, true, true, true, true, false, false] rfl rfl (any_of HT_.out (by kernel_rfl)) (fun _ _ _ h => h) (Or.inl ⟨by rfl, ?_⟩) ?_ ?_
                        rotate_left
                        · intro w'
                          go_simp
                          with_reducible rfl
                        rotate_left
                        · simp only [Act.put, List.setIfInBounds_toArray, List.set_cons_zero, List.set_cons_succ, i64_w, i32_w]
                          rfl
                        refine pure_ (i := 12) (N := some 35) (v := ?_) (a' := ?_) #[true, true, true, true, true, true, true, true, true, true, true, true, true, false] rfl rfl (any_of HT_.out (by kernel_rfl)) (fun _ _ _ h => h) (Or.inl ⟨by rfl, ?_⟩) ?_ ?_
                        rotate_left
                        · intro w'
                          go_simp
                          with_reducible rfl
                        rotate_left
                        · simp only [Act.put, List.setIfInBounds_toArray, List.set_cons_zero, List.set_cons_succ, i64_w, i32_w]
                          rfl
                        refine pure_ (i := 13) (N := some 5) (v := ?_) (a' := ?_) #[true, true, true, true, true, true, true, true, true, true, true, true, true, true] rfl rfl (any_of HT_.out (by kernel_rfl)) (fun _ _ _ h => h) (Or.inl ⟨by rfl, ?_⟩) ?_ ?_
                        rotate_left
                        · intro w'
                          go_simp
                          with_reducible rfl
                        rotate_left
                        · simp only [Act.put, List.setIfInBounds_toArray, List.set_cons_zero, List.set_cons_succ, i64_w, i32_w]
                          rfl
                        refine done_ (done_of HT_.out (by kernel_rfl)) ?_
                        try go_wp2
                        go_roundg k1
                        case measure => have := HK1.out; omega
                        case rel => exact ⟨(x5_1 ++ (((((t152 ++ (⟨#[58]⟩ : ByteArray)) ++ t153) ++ (⟨#[58, 32]⟩ : ByteArray)) ++ ((rd_T39 l1 x12_1).f1)) ++ (⟨#[10]⟩ : ByteArray))), (wrap64 (x12_1 + 1)), (by first | rfl | (simp; done) | (simp [*]; done)), (by first | rfl | (simp; done) | (simp [*]; done)), H', ⟨by have := HK1.out; omega⟩, ⟨by repeat (first | (with_reducible first | exact HB.out | apply below_alloc | apply pw_below_drewN | apply below_drew1 | refine below_set ?_ GE149.out) | exact HB.out)⟩⟩
                      · rw [if_neg c14] at H
                        exact absurd H (by simp)
                    · rw [if_neg c13] at H
                      exact absurd H (by simp)
                  · rw [if_neg c12] at H
                    exact absurd H (by simp)
                · rw [if_neg c11] at H
                  exact absurd H (by simp)
              · rw [if_neg c10] at H
                exact absurd H (by simp)
            · rw [if_neg c8] at H
              exact absurd H (by simp)
          · rw [if_neg c5] at H
            exact absurd H (by simp)
        · rw [if_neg c4] at H
          exact absurd H (by simp)
      · rw [if_neg c3] at H
        have c3b0 : decide (x12_1 < (l1.length : Int)) = false := decide_eq_false c3
        clear c3
        obtain rfl := Option.some.inj H
        go_wp2
        go_ret
        exact ⟨by first | rfl | (simp [errW_none, errW_some] <;> rfl) | (simp [*, errW_none, errW_some] <;> rfl), by repeat (first | (with_reducible first | exact HB.out | apply below_alloc | apply pw_below_drewN | apply below_drew1) | exact HB.out)⟩

/-! ### tricklelaw14_DiagFormat: function 4 -/
def tricklelaw14_DiagFormat.j0 : Nat → ByteArray → List (S39) → Bool → Option (Bool)
  | 0, _, _, _ => none
  | k + 1, x0, x1, x11 => if x11 = true then ((tricklelaw14_examples.f k).bind fun t155 => (some t155)) else ((diag_Format.f k x0 x1).bind fun t156 => ((trickleref14_Format.f k x0 x1).bind fun t157 => (if t156.toList = t157.toList then ((tricklelaw14_examples.f k).bind fun t158 => (some t158)) else (some false))))
def tricklelaw14_DiagFormat.f (k : Nat) (a0 : ByteArray) (l1 : List (S39)) : Option (Bool) := if (a0.size : Int) > 300 then (tricklelaw14_DiagFormat.j0 k a0 l1 true) else ((trickleref14_Great.f k l1).bind fun t154 => (tricklelaw14_DiagFormat.j0 k a0 l1 t154))
set_option maxHeartbeats 8000000 in
set_option maxRecDepth 100000 in
theorem tricklelaw14_DiagFormat.calls (k : Nat) (a0 : ByteArray) (A1 : Option Addr) (c1 : Nat) (l1 : List (S39)) (r : Bool) (w : World) (hr1 : Kd.C k39 w A1 l1.length l1) (hc1 : l1.length ≤ c1) (hG : GW w) (h : tricklelaw14_DiagFormat.f k a0 l1 = some r) :
    Calls Tryd.prog 4 #[.string a0, .slice A1 l1.length c1] w fun e w' => e = .returned (.bool r) ∧ Below w.heap.size w w' := by
  have HG := Aside0.mk hG
  clear hG
  have HR1 := Aside0.mk hr1
  have HC1 := Aside0.mk hc1
  clear hr1 hc1
  have HB := Aside0.mk (Below.refl w.heap.size w)
  have H : (if (a0.size : Int) > 300 then (tricklelaw14_DiagFormat.j0 k a0 l1 true) else ((trickleref14_Great.f k l1).bind fun t154 => (tricklelaw14_DiagFormat.j0 k a0 l1 t154))) = some r := h
  clear h
  have HC3 := Aside0.mk H
  clear H
  go_enter Tryd.func4, Tryd.ntmps4
  go_upto_region 1 with (fail)
  go_cut [11] (fun v11 wc => ∃ (kq : Nat) (x11_2 : Bool), v11 = .bool x11_2 ∧ Aside0 (tricklelaw14_DiagFormat.j0 kq a0 l1 x11_2 = some r) ∧ Aside0 (kq ≤ k) ∧ Aside0 (Below w.heap.size w wc))
  case first =>
    have H := HC3.out
    clear HC3
    by_cases c4 : (a0.size : Int) > 300
    · rw [if_pos c4] at H
      have c4b0 : decide (300 < (a0.size : Int)) = true := decide_eq_true c4
      have c4b1 : decide (300 < a0.size) = true := decide_eq_true (by omega)
      clear c4
      (first | rw [c4b0] | (simp only [i64_w, i32_w]; rw [c4b0]) | skip)
      have H' := Aside0.mk H
      clear H
      go_wp2
      go_meet
      case rel => exact ⟨_, (true), (by first | rfl | (simp; done) | (simp [*]; done)), H', ⟨by first | omega | exact Nat.le_refl _⟩, ⟨by repeat (first | (with_reducible first | exact HB.out | apply below_alloc | apply pw_below_drewN | apply below_drew1) | exact HB.out)⟩⟩
    · rw [if_neg c4] at H
      have c4b0 : decide (300 < (a0.size : Int)) = false := decide_eq_false c4
      have c4b1 : decide (300 < a0.size) = false := decide_eq_false (by omega)
      clear c4
      (first | rw [c4b0] | (simp only [i64_w, i32_w]; rw [c4b0]) | skip)
      replace H := Option.bind_eq_some_iff.mp H
      obtain ⟨t154, A50, H⟩ := H
      replace H : (tricklelaw14_DiagFormat.j0 k a0 l1 t154) = some r := H
      have A5 := Aside0.mk A50
      clear A50
      have H' := Aside0.mk H
      clear H
      go_wp2_with (first | (go_at_call 16; (with_reducible refine (trickleref14_Great.calls k _ _ l1 t154 _ ?side1 ?side2 A5.out).mono ?_); (case side1 => repeat (first | exact (Kd.C_below HR1.out HB.out) | (with_reducible refine Kd.C_alloc ?_ _) | (with_reducible refine Kd.C_drewN ?_ _) | (with_reducible refine Kd.C_drew ?_))); (case side2 => exact HC1.out); rintro e w6 ⟨rfl, hb⟩; have n0_ := Aside0.mk (below_step (by repeat (first | (with_reducible first | exact HB.out | apply below_alloc | apply pw_below_drewN | apply below_drew1) | exact HB.out)) hb); clear HB; have HB := n0_; clear n0_; (try clear hb); (try clear hb2); (try clear hk); (try clear hi)))
      go_meet
      case rel => exact ⟨_, (t154), (by first | rfl | (simp; done) | (simp [*]; done)), H', ⟨by first | omega | exact Nat.le_refl _⟩, ⟨by repeat (first | (with_reducible first | exact HB.out | apply below_alloc | apply pw_below_drewN | apply below_drew1) | exact HB.out)⟩⟩
  case rest =>
    clear HC3
    try clear c1
    try clear p2
    try clear c4
    try clear c4b0
    try clear c4b1
    obtain ⟨kq, x11_2, rfl, HA, HJ2, HB⟩ := hcut
    cases kq with
    | zero => exact absurd HA.out (by simp [tricklelaw14_DiagFormat.j0])
    | succ kj2 =>
      have H := HA.out
      clear HA
      simp only [tricklelaw14_DiagFormat.j0] at H
      by_cases c7 : x11_2 = true
      · subst c7
        have H1 : ((tricklelaw14_examples.f kj2).bind fun t155 => (some t155)) = some r := by rw [if_pos rfl] at H; exact H
        clear H
        have H := H1
        clear H1
        replace H := Option.bind_eq_some_iff.mp H
        obtain ⟨t155, A80, H⟩ := H
        replace H : (some t155) = some r := H
        have A8 := Aside0.mk A80
        clear A80
        obtain rfl := Option.some.inj H
        go_wp2_with (first | ((with_reducible refine gate_callee (f := 11) rfl ?_); refine goesL_ (some 12) rfl rfl Tryd.func11 (by kernel_rfl) rfl #[] rfl (by (try simp only [List.map_toArray, List.map_cons, List.map_nil]); first | done | rfl | (simp only [List.length_drop, List.length_take]; rfl)) ?_; (with_reducible refine (tricklelaw14_examples.calls kj2  t155 _ ?side1 A8.out).mono ?_); (case side1 => refine GW.below HG.out ?_; repeat (first | (with_reducible first | exact HB.out | apply below_alloc | apply pw_below_drewN | apply below_drew1) | exact HB.out)); rintro e w9 ⟨rfl, hb⟩; refine ⟨_, rfl, ?_⟩; have n0_ := Aside0.mk (below_step (by repeat (first | (with_reducible first | exact HB.out | apply below_alloc | apply pw_below_drewN | apply below_drew1) | exact HB.out)) hb); clear HB; have HB := n0_; clear n0_; (try clear hb); (try clear hb2); (try clear hk); (try clear hi)))
        go_ret
        exact ⟨by first | rfl | (simp [errW_none, errW_some] <;> rfl) | (simp [*, errW_none, errW_some] <;> rfl), by repeat (first | (with_reducible first | exact HB.out | apply below_alloc | apply pw_below_drewN | apply below_drew1) | exact HB.out)⟩
      · replace c7 := Bool.eq_false_iff.mpr c7
        subst c7
        have H1 : ((diag_Format.f kj2 a0 l1).bind fun t156 => ((trickleref14_Format.f kj2 a0 l1).bind fun t157 => (if t156.toList = t157.toList then ((tricklelaw14_examples.f kj2).bind fun t158 => (some t158)) else (some false)))) = some r := by rw [if_neg (show ¬ (false = true) by decide)] at H; exact H
        clear H
        have H := H1
        clear H1
        replace H := Option.bind_eq_some_iff.mp H
        obtain ⟨t156, A100, H⟩ := H
        replace H : ((trickleref14_Format.f kj2 a0 l1).bind fun t157 => (if t156.toList = t157.toList then ((tricklelaw14_examples.f kj2).bind fun t158 => (some t158)) else (some false))) = some r := H
        have A10 := Aside0.mk A100
        clear A100
        replace H := Option.bind_eq_some_iff.mp H
        obtain ⟨t157, A110, H⟩ := H
        replace H : (if t156.toList = t157.toList then ((tricklelaw14_examples.f kj2).bind fun t158 => (some t158)) else (some false)) = some r := H
        have A11 := Aside0.mk A110
        clear A110
        by_cases c12 : t156.toList = t157.toList
        · rw [if_pos c12] at H
          have c12b0 : (t156.toList == t157.toList) = true := beq_iff_eq.mpr c12
          have c12b1 : (t156.toList != t157.toList) = false := bne_eq_false_iff_eq.mpr c12
          clear c12
          replace H := Option.bind_eq_some_iff.mp H
          obtain ⟨t158, A130, H⟩ := H
          replace H : (some t158) = some r := H
          have A13 := Aside0.mk A130
          clear A130
          obtain rfl := Option.some.inj H
          go_wp2_with (first | ((with_reducible refine gate_callee (f := 17) rfl ?_); refine goesL_ (some 15) rfl rfl Tryd.func17 (by kernel_rfl) rfl #[.string a0, .slice A1 l1.length c1] rfl (by (try simp only [List.map_toArray, List.map_cons, List.map_nil]); first | done | rfl | (simp only [List.length_drop, List.length_take]; rfl)) ?_; (with_reducible refine (diag_Format.calls kj2 a0 _ _ l1 t156 _ ?side1 ?side2 ?side3 A10.out).mono ?_); (case side1 => repeat (first | exact (Kd.C_below HR1.out HB.out) | (with_reducible refine Kd.C_alloc ?_ _) | (with_reducible refine Kd.C_drewN ?_ _) | (with_reducible refine Kd.C_drew ?_))); (case side2 => exact HC1.out); (case side3 => refine GW.below HG.out ?_; repeat (first | (with_reducible first | exact HB.out | apply below_alloc | apply pw_below_drewN | apply below_drew1) | exact HB.out)); rintro e w14 ⟨rfl, hb⟩; refine ⟨_, rfl, ?_⟩; have n0_ := Aside0.mk (below_step (by repeat (first | (with_reducible first | exact HB.out | apply below_alloc | apply pw_below_drewN | apply below_drew1) | exact HB.out)) hb); clear HB; have HB := n0_; clear n0_; (try clear hb); (try clear hb2); (try clear hk); (try clear hi)) | ((with_reducible refine gate_callee (f := 18) rfl ?_); refine goesL_ (some 18) rfl rfl Tryd.func18 (by kernel_rfl) rfl #[.string a0, .slice A1 l1.length c1] rfl (by (try simp only [List.map_toArray, List.map_cons, List.map_nil]); first | done | rfl | (simp only [List.length_drop, List.length_take]; rfl)) ?_; (with_reducible refine (trickleref14_Format.calls kj2 a0 _ _ l1 t157 _ ?side1 ?side2 A11.out).mono ?_); (case side1 => repeat (first | exact (Kd.C_below HR1.out HB.out) | (with_reducible refine Kd.C_alloc ?_ _) | (with_reducible refine Kd.C_drewN ?_ _) | (with_reducible refine Kd.C_drew ?_))); (case side2 => exact HC1.out); rintro e w15 ⟨rfl, hb⟩; refine ⟨_, rfl, ?_⟩; have n0_ := Aside0.mk (below_step (by repeat (first | (with_reducible first | exact HB.out | apply below_alloc | apply pw_below_drewN | apply below_drew1) | exact HB.out)) hb); clear HB; have HB := n0_; clear n0_; (try clear hb); (try clear hb2); (try clear hk); (try clear hi)) | (go_at_call 11; (with_reducible refine (tricklelaw14_examples.calls kj2  t158 _ ?side1 A13.out).mono ?_); (case side1 => refine GW.below HG.out ?_; repeat (first | (with_reducible first | exact HB.out | apply below_alloc | apply pw_below_drewN | apply below_drew1) | exact HB.out)); rintro e w16 ⟨rfl, hb⟩; have n0_ := Aside0.mk (below_step (by repeat (first | (with_reducible first | exact HB.out | apply below_alloc | apply pw_below_drewN | apply below_drew1) | exact HB.out)) hb); clear HB; have HB := n0_; clear n0_; (try clear hb); (try clear hb2); (try clear hk); (try clear hi)))
          go_ret
          exact ⟨by first | rfl | (simp [errW_none, errW_some] <;> rfl) | (simp [*, errW_none, errW_some] <;> rfl), by repeat (first | (with_reducible first | exact HB.out | apply below_alloc | apply pw_below_drewN | apply below_drew1) | exact HB.out)⟩
        · rw [if_neg c12] at H
          have c12b0 : (t156.toList == t157.toList) = false := beq_eq_false_iff_ne.mpr c12
          have c12b1 : (t156.toList != t157.toList) = true := bne_iff_ne.mpr c12
          obtain rfl := Option.some.inj H
          go_wp2_with (first | ((with_reducible refine gate_callee (f := 17) rfl ?_); refine goesL_ (some 15) rfl rfl Tryd.func17 (by kernel_rfl) rfl #[.string a0, .slice A1 l1.length c1] rfl (by (try simp only [List.map_toArray, List.map_cons, List.map_nil]); first | done | rfl | (simp only [List.length_drop, List.length_take]; rfl)) ?_; (with_reducible refine (diag_Format.calls kj2 a0 _ _ l1 t156 _ ?side1 ?side2 ?side3 A10.out).mono ?_); (case side1 => repeat (first | exact (Kd.C_below HR1.out HB.out) | (with_reducible refine Kd.C_alloc ?_ _) | (with_reducible refine Kd.C_drewN ?_ _) | (with_reducible refine Kd.C_drew ?_))); (case side2 => exact HC1.out); (case side3 => refine GW.below HG.out ?_; repeat (first | (with_reducible first | exact HB.out | apply below_alloc | apply pw_below_drewN | apply below_drew1) | exact HB.out)); rintro e w17 ⟨rfl, hb⟩; refine ⟨_, rfl, ?_⟩; have n0_ := Aside0.mk (below_step (by repeat (first | (with_reducible first | exact HB.out | apply below_alloc | apply pw_below_drewN | apply below_drew1) | exact HB.out)) hb); clear HB; have HB := n0_; clear n0_; (try clear hb); (try clear hb2); (try clear hk); (try clear hi)) | ((with_reducible refine gate_callee (f := 18) rfl ?_); refine goesL_ (some 18) rfl rfl Tryd.func18 (by kernel_rfl) rfl #[.string a0, .slice A1 l1.length c1] rfl (by (try simp only [List.map_toArray, List.map_cons, List.map_nil]); first | done | rfl | (simp only [List.length_drop, List.length_take]; rfl)) ?_; (with_reducible refine (trickleref14_Format.calls kj2 a0 _ _ l1 t157 _ ?side1 ?side2 A11.out).mono ?_); (case side1 => repeat (first | exact (Kd.C_below HR1.out HB.out) | (with_reducible refine Kd.C_alloc ?_ _) | (with_reducible refine Kd.C_drewN ?_ _) | (with_reducible refine Kd.C_drew ?_))); (case side2 => exact HC1.out); rintro e w18 ⟨rfl, hb⟩; refine ⟨_, rfl, ?_⟩; have n0_ := Aside0.mk (below_step (by repeat (first | (with_reducible first | exact HB.out | apply below_alloc | apply pw_below_drewN | apply below_drew1) | exact HB.out)) hb); clear HB; have HB := n0_; clear n0_; (try clear hb); (try clear hb2); (try clear hk); (try clear hi)))
          go_ret
          exact ⟨by first | rfl | (simp [errW_none, errW_some] <;> rfl) | (simp [*, errW_none, errW_some] <;> rfl), by repeat (first | (with_reducible first | exact HB.out | apply below_alloc | apply pw_below_drewN | apply below_drew1) | exact HB.out)⟩

end Go.Proofs.YtahgghbhpmpgfaaDoor.PX
/- DiagFormat in plain words: what the reference writes is what Format writes. -/
namespace Go.Proofs.YtahgghbhpmpgfaaDoor.PX
open Go.RowKit Go.Proofs.YtahgghbhpmpgfaaDoorW.PrintWords Go.Proofs.YtahgghbhpmpgfaaDoorW.PrintLast Go.Proofs.YtahgghbhpmpgfaaDoorW.PrintMore
set_option linter.unusedVariables false
set_option linter.unusedSimpArgs false
def mk (l : List UInt8) : ByteArray := ⟨l.toArray⟩
theorem mk_app (a b : List UInt8) : mk a ++ mk b = mk (a ++ b) := by
  refine ByteArray.ext (Array.ext' ?_)
  rw [ByteArray.data_append, Array.toList_append]
  rfl
theorem mk_size (a : List UInt8) : (mk a).size = a.length := rfl
theorem mk_bs (s : ByteArray) : mk (bs s) = s := rfl
theorem dec_len : ∀ (f u : Nat), u < f → (Lib.decDigits u).length ≤ u + 1
  | 0, u, h => by omega
  | f + 1, u, h => by
    rw [Lib.decDigits]
    split
    · simp
    · have := dec_len f (u / 10) (by omega)
      rw [List.length_append, List.length_singleton]
      omega
theorem dig : ∀ d : Fin 10, (⟨#[48, 49, 50, 51, 52, 53, 54, 55, 56, 57]⟩ : ByteArray).extract d.val (d.val + 1) = mk [UInt8.ofNat (48 + d.val)] := by decide +kernel
theorem dig_at (n : Nat) (h : n < 10) : (⟨#[48, 49, 50, 51, 52, 53, 54, 55, 56, 57]⟩ : ByteArray).extract ((n : Int)).toNat ((wrap64 ((n : Int) + 1)) : Int).toNat = mk [UInt8.ofNat (48 + n)] := by
  rw [wrap_id (by omega) (by omega), Int.toNat_natCast, show ((n : Int) + 1).toNat = n + 1 by omega]
  exact dig ⟨n, h⟩
theorem num_ev : ∀ (f n : Nat), n < f → n ≤ 1000000 → Ev (fun k => trickleref14_Num.f k (n : Int)) (mk (Lib.decDigits n))
  | 0, n, h, _ => by omega
  | f + 1, n, h, hn => by
    refine Ev.step (fun k => by rw [trickleref14_Num.f]) ?_
    rw [Lib.decDigits]
    by_cases h10 : n < 10
    · have w1 : wrap64 ((n : Int) + 1) = (n : Int) + 1 := wrap_id (by omega) (by omega)
      rw [dif_pos h10, dig_at n h10, w1]
      clear w1
      refine Ev.pos (show (n : Int) < 10 by omega) ?_
      refine Ev.pos (show 0 ≤ (n : Int) by omega) ?_
      refine Ev.pos (show (n : Int) ≤ (n : Int) + 1 by omega) ?_
      exact Ev.pos (show (n : Int) + 1 ≤ 10 by omega) (Ev.now _)
    · have e1 : wrap64 (Int.tdiv (n : Int) 10) = ((n / 10 : Nat) : Int) := by
        rw [Int.tdiv_eq_ediv_of_nonneg (by omega), wrap_id (by omega) (by omega)]; omega
      have e2 : Int.tmod (n : Int) 10 = ((n % 10 : Nat) : Int) := by
        rw [Int.tmod_eq_emod_of_nonneg (by omega)]; omega
      have w1 : wrap64 (((n % 10 : Nat) : Int) + 1) = ((n % 10 : Nat) : Int) + 1 := wrap_id (by omega) (by omega)
      rw [dif_neg h10, e1, e2, dig_at (n % 10) (by omega), w1]
      clear e1 e2 w1
      refine Ev.neg (show ¬ (n : Int) < 10 by omega) ?_
      refine Ev.bind (num_ev f (n / 10) (by omega) (by omega)) ?_
      rw [mk_size, mk_size, mk_app]
      have hl := dec_len (n / 10 + 1) (n / 10) (by omega)
      refine Ev.pos (show 0 ≤ ((n % 10 : Nat) : Int) by omega) ?_
      refine Ev.pos (show ((n % 10 : Nat) : Int) ≤ ((n % 10 : Nat) : Int) + 1 by omega) ?_
      refine Ev.pos (show ((n % 10 : Nat) : Int) + 1 ≤ 10 by omega) ?_
      exact Ev.pos (by rw [List.length_singleton]; omega) (Ev.now _)
def sumT (l : List S39) : Nat := (l.map (fun x => x.f1.size)).sum
theorem sumT_app (a b : List S39) : sumT (a ++ b) = sumT a + sumT b := by unfold sumT; rw [List.map_append, List.sum_append]
theorem sumT_cons (x : S39) (r : List S39) : sumT (x :: r) = x.f1.size + sumT r := by unfold sumT; rw [List.map_cons, List.sum_cons]
theorem rd_nat39 (l : List S39) (j : Nat) (h : j < l.length) : rd_T39 l (j : Int) = l[j] := by
  unfold rd_T39
  rw [Int.toNat_natCast, List.getD_eq_getElem?_getD, List.getElem?_eq_getElem h, Option.getD_some]
theorem great_loop (l : List S39) (hl : l.length ≤ 140737488355328) (hw : ∀ x ∈ l, x.f1.size ≤ 140737488355328) : ∀ (d j n : Nat), j + d = l.length → n ≤ 1000 → Ev (fun k => trickleref14_Great.l0 k l (n : Int) l (l.length : Int) (j : Int)) (decide (n + sumT (l.drop j) > 1000) || decide (l.length > 40))
  | 0, j, n, hj, hn => by
    refine Ev.step (fun k => by rw [trickleref14_Great.l0]) (Ev.neg (by omega) ?_)
    rw [List.drop_of_length_le (by omega)]
    refine Ev.cast (Ev.now _) ?_
    rw [show decide (n + sumT [] > 1000) = false by rw [decide_eq_false_iff_not]; show ¬ n + 0 > 1000; omega, Bool.false_or]
    exact decide_eq_decide.mpr (by omega)
  | d + 1, j, n, hj, hn => by
    have hjl : j < l.length := by omega
    have hx := hw _ (List.getElem_mem hjl)
    have w0 : wrap64 ((j : Int) + 1) = ((j + 1 : Nat) : Int) := wrap_nat hjl (by omega)
    have w1 : wrap64 ((n : Int) + (((l[j]).f1).size : Int)) = ((n + (l[j]).f1.size : Nat) : Int) := by rw [wrap_id (by omega) (by omega)]; omega
    refine Ev.step (fun k => by rw [trickleref14_Great.l0]) ?_
    rw [rd_nat39 l j hjl, w0, w1]
    clear w0 w1
    refine Ev.pos (by omega) (Ev.pos (by omega) (Ev.pos (by omega) ?_))
    rw [List.drop_eq_getElem_cons hjl, sumT_cons]
    by_cases h : n + (l[j]).f1.size > 1000
    · refine Ev.pos (by omega) (Ev.cast (Ev.now _) ?_)
      rw [show decide (n + ((l[j]).f1.size + sumT (l.drop (j + 1))) > 1000) = true by rw [decide_eq_true_eq]; omega, Bool.true_or]
    · refine Ev.neg (by omega) (Ev.cast (great_loop l hl hw d (j + 1) _ (by omega) (by omega)) ?_)
      rw [Nat.add_assoc]
theorem great_ev (l : List S39) (hl : l.length ≤ 140737488355328) (hw : ∀ x ∈ l, x.f1.size ≤ 140737488355328) : Ev (fun k => trickleref14_Great.f k l) (decide (sumT l > 1000) || decide (l.length > 40)) := by
  have h := great_loop l hl hw l.length 0 0 (by omega) (by omega)
  rw [List.drop_zero, Nat.zero_add] at h
  exact Ev.congr (fun k => by rw [trickleref14_Great.f]; rfl) h
/-- One line. -/
def lineL (s : ByteArray) (x : S39) : List UInt8 :=
  Lib.decDigits (posOf ((bs s).take (clampN (bs s).length x.f0))).1 ++ (58 :: (Lib.decDigits (posOf ((bs s).take (clampN (bs s).length x.f0))).2 ++ (58 :: 32 :: (bs x.f1 ++ [10]))))
def linesL (s : ByteArray) (l : List S39) : List UInt8 := l.flatMap (lineL s)
theorem line_mk (a b t : List UInt8) : lineF (mk a) (mk b) (mk t) = mk (a ++ (58 :: (b ++ (58 :: 32 :: (t ++ [10]))))) := by
  unfold lineF
  rw [show (⟨#[58]⟩ : ByteArray) = mk [58] from rfl, show (⟨#[58, 32]⟩ : ByteArray) = mk [58, 32] from rfl, show (⟨#[10]⟩ : ByteArray) = mk [10] from rfl]
  rw [mk_app, mk_app, mk_app, mk_app, mk_app]
  simp only [List.append_assoc, List.cons_append, List.nil_append]
theorem small_dec (u : Nat) (h : u ≤ 1001) : (Lib.decDigits u).length ≤ 21 := by
  have := Lib.itoa_length_le (u : Int) (by omega) (by omega)
  unfold Lib.itoa at this
  rw [if_neg (by omega), Int.toNat_natCast] at this
  exact this
theorem pos_small (s : ByteArray) (hs : (bs s).length ≤ 300) (p : Int) : (posOf ((bs s).take (clampN (bs s).length p))).1 ≤ 301 ∧ (posOf ((bs s).take (clampN (bs s).length p))).2 ≤ 301 := by
  have h := pos_range ((bs s).take (clampN (bs s).length p))
  rw [List.length_take] at h
  omega
theorem line_len (s : ByteArray) (hs : (bs s).length ≤ 300) (x : S39) : (lineL s x).length ≤ 100 + x.f1.size := by
  obtain ⟨h1, h2⟩ := pos_small s hs x.f0
  have d1 := small_dec _ (Nat.le_trans h1 (by omega))
  have d2 := small_dec _ (Nat.le_trans h2 (by omega))
  unfold lineL
  simp only [List.length_append, List.length_cons, List.length_nil]
  have : (bs x.f1).length = x.f1.size := rfl
  omega
theorem itoa_f (n : Nat) (h : n ≤ 1000) : strconv_Itoa.f (n : Int) = some (mk (Lib.decDigits n)) := by
  unfold strconv_Itoa.f itoaB
  rw [if_pos (by omega)]
  unfold Lib.itoa
  rw [if_neg (by omega), Int.toNat_natCast]
  rfl
theorem fmt_loop (s : ByteArray) (hs : (bs s).length ≤ 300) (l : List S39) (h40 : l.length ≤ 40) (ht : sumT l ≤ 1000) : ∀ (d j : Nat) (acc : List UInt8), j + d = l.length → acc.length ≤ 100 * j + sumT (l.take j) → Ev (fun k => diag_Format.l0 k s l acc (j : Int)) (mk (acc ++ linesL s (l.drop j)))
  | 0, j, acc, hj, ha => by
    refine Ev.step (fun k => by rw [diag_Format.l0]) (Ev.neg (by omega) ?_)
    rw [List.drop_of_length_le (by omega)]
    show Ev _ (mk (acc ++ []))
    rw [List.append_nil]
    exact Ev.now _
  | d + 1, j, acc, hj, ha => by
    have hjl : j < l.length := by omega
    have w0 : wrap64 ((j : Int) + 1) = ((j + 1 : Nat) : Int) := wrap_nat hjl (by omega)
    obtain ⟨p1, p2⟩ := pos_small s hs (l[j]).f0
    have hsum : sumT (l.take (j + 1)) = sumT (l.take j) + (l[j]).f1.size := by
      rw [List.take_succ_eq_append_getElem hjl, sumT_app, sumT_cons]; rfl
    have hsum2 : sumT (l.take (j + 1)) ≤ sumT l := by
      have := sumT_app (l.take (j + 1)) (l.drop (j + 1))
      rw [List.take_append_drop] at this
      omega
    have hln := line_len s hs (l[j])
    have d1 := small_dec _ (Nat.le_trans p1 (by omega))
    have d2 := small_dec _ (Nat.le_trans p2 (by omega))
    refine Ev.step (fun k => by rw [diag_Format.l0]) ?_
    rw [rd_nat39 l j hjl, w0]
    clear w0
    refine Ev.pos (by omega) (Ev.pos (by omega) ?_)
    refine Ev.bind (position_ev s (by omega) (l[j]).f0) ?_
    refine Ev.const (itoa_f _ (by omega)) ?_
    refine Ev.const (itoa_f _ (by omega)) ?_
    refine Ev.pos ?_ ?_
    · rw [mk_size, mk_size]; omega
    · have hline : (lineF (mk (Lib.decDigits (posOf ((bs s).take (clampN (bs s).length (l[j]).f0))).1)) (mk (Lib.decDigits (posOf ((bs s).take (clampN (bs s).length (l[j]).f0))).2)) (l[j]).f1).data.toList = lineL s (l[j]) := by
        have h := line_mk (Lib.decDigits (posOf ((bs s).take (clampN (bs s).length (l[j]).f0))).1) (Lib.decDigits (posOf ((bs s).take (clampN (bs s).length (l[j]).f0))).2) (bs (l[j]).f1)
        rw [mk_bs] at h
        rw [h]
        rfl
      rw [hline]
      refine Ev.cast (fmt_loop s hs l h40 ht d (j + 1) _ (by omega) (by rw [List.length_append]; omega)) ?_
      rw [List.drop_eq_getElem_cons hjl]
      unfold linesL
      rw [List.flatMap_cons, List.append_assoc]
theorem rfmt_loop (s : ByteArray) (hs : (bs s).length ≤ 300) (l : List S39) (h40 : l.length ≤ 40) (ht : sumT l ≤ 1000) : ∀ (d j : Nat) (acc : List UInt8), j + d = l.length → acc.length ≤ 100 * j + sumT (l.take j) → Ev (fun k => trickleref14_Format.l0 k s (mk acc) l (l.length : Int) (j : Int)) (mk (acc ++ linesL s (l.drop j)))
  | 0, j, acc, hj, ha => by
    refine Ev.step (fun k => by rw [trickleref14_Format.l0]) (Ev.neg (by omega) ?_)
    rw [List.drop_of_length_le (by omega)]
    show Ev _ (mk (acc ++ []))
    rw [List.append_nil]
    exact Ev.now _
  | d + 1, j, acc, hj, ha => by
    have hjl : j < l.length := by omega
    have w0 : wrap64 ((j : Int) + 1) = ((j + 1 : Nat) : Int) := wrap_nat hjl (by omega)
    obtain ⟨p1, p2⟩ := pos_small s hs (l[j]).f0
    have hsum : sumT (l.take (j + 1)) = sumT (l.take j) + (l[j]).f1.size := by
      rw [List.take_succ_eq_append_getElem hjl, sumT_app, sumT_cons]; rfl
    have hsum2 : sumT (l.take (j + 1)) ≤ sumT l := by
      have := sumT_app (l.take (j + 1)) (l.drop (j + 1))
      rw [List.take_append_drop] at this
      omega
    have hln := line_len s hs (l[j])
    have d1 := small_dec _ (Nat.le_trans p1 (by omega))
    have d2 := small_dec _ (Nat.le_trans p2 (by omega))
    refine Ev.step (fun k => by rw [trickleref14_Format.l0]) ?_
    rw [rd_nat39 l j hjl, w0]
    clear w0
    refine Ev.pos (by omega) (Ev.pos (by omega) (Ev.pos (by omega) ?_))
    refine Ev.bind (rposition_ev s (by omega) (l[j]).f0) ?_
    refine Ev.bind (num_ev _ _ (Nat.lt_succ_self _) (by omega)) ?_
    rw [show (⟨#[58]⟩ : ByteArray) = mk [58] from rfl, show (⟨#[58, 32]⟩ : ByteArray) = mk [58, 32] from rfl, show (⟨#[10]⟩ : ByteArray) = mk [10] from rfl]
    refine Ev.pos (by rw [mk_size]; omega) ?_
    refine Ev.bind (num_ev _ _ (Nat.lt_succ_self _) (by omega)) ?_
    have hf : (l[j]).f1 = mk (bs (l[j]).f1) := rfl
    have hfl : (bs (l[j]).f1).length = (l[j]).f1.size := rfl
    rw [hf, mk_app, mk_app, mk_app, mk_app, mk_app, mk_app]
    simp only [mk_size]
    refine Ev.pos (by simp only [List.length_append, List.length_cons, List.length_nil]; omega) ?_
    refine Ev.pos (by simp only [List.length_append, List.length_cons, List.length_nil]; omega) ?_
    refine Ev.pos (by simp only [List.length_append, List.length_cons, List.length_nil]; omega) ?_
    refine Ev.pos (by simp only [List.length_append, List.length_cons, List.length_nil]; omega) ?_
    refine Ev.pos (by simp only [List.length_append, List.length_cons, List.length_nil]; omega) ?_
    have hline : Lib.decDigits (posOf ((bs s).take (clampN (bs s).length (l[j]).f0))).1 ++ [58] ++ Lib.decDigits (posOf ((bs s).take (clampN (bs s).length (l[j]).f0))).2 ++ [58, 32] ++ bs (l[j]).f1 ++ [10] = lineL s (l[j]) := by
      unfold lineL
      simp only [List.append_assoc, List.cons_append, List.nil_append]
    rw [hline]
    refine Ev.cast (rfmt_loop s hs l h40 ht d (j + 1) _ (by omega) (by rw [List.length_append]; omega)) ?_
    rw [List.drop_eq_getElem_cons hjl]
    unfold linesL
    rw [List.flatMap_cons, List.append_assoc]
end Go.Proofs.YtahgghbhpmpgfaaDoor.PX
namespace Go.Proofs.YtahgghbhpmpgfaaDoor.Pure
open Go.RowKit Go.Proofs.YtahgghbhpmpgfaaDoor.PX Go.Proofs.YtahgghbhpmpgfaaDoorW.PrintWords Go.Proofs.YtahgghbhpmpgfaaDoorW.PrintLast
set_option linter.unusedVariables false
theorem DiagFormat (s : ByteArray) (l : List S39) (hs : s.size ≤ 140737488351232) (hw : ∀ x ∈ l, x.f1.size ≤ 140737488355328) (hl : l.length ≤ 140737488355328) : ∃ n, tricklelaw14_DiagFormat.f n s l = some true := by
  have yes : Ev (fun n => tricklelaw14_DiagFormat.j0 n s l true) true := Ev.step (fun n => by rw [tricklelaw14_DiagFormat.j0]) (Ev.pos rfl (Ev.bind examples_ev (Ev.now _)))
  refine Ev.rounds (Ev.congr (fun n => by rw [tricklelaw14_DiagFormat.f, bs_size]) ?_)
  by_cases h : ((bs s).length : Int) > 300
  · exact Ev.pos h yes
  refine Ev.neg h (Ev.bind (great_ev l hl hw) ?_)
  by_cases hg : (decide (sumT l > 1000) || decide (l.length > 40)) = true
  · rw [hg]; exact yes
  · rw [Bool.not_eq_true] at hg
    rw [hg]
    rw [Bool.or_eq_false_iff, decide_eq_false_iff_not, decide_eq_false_iff_not] at hg
    have h1 := fmt_loop s (by omega) l (by omega) (by omega) l.length 0 [] (by omega) (by simp)
    have h2 := rfmt_loop s (by omega) l (by omega) (by omega) l.length 0 [] (by omega) (by simp)
    rw [List.drop_zero, List.nil_append] at h1 h2
    refine Ev.step (fun n => by rw [tricklelaw14_DiagFormat.j0]) ?_
    refine Ev.neg (by decide) ?_
    refine Ev.bind (a := mk (linesL s l)) (Ev.congr (fun n => by rw [diag_Format.f]; rfl) h1) ?_
    refine Ev.bind (a := mk (linesL s l)) (Ev.congr (fun n => by rw [trickleref14_Format.f]; rfl) h2) ?_
    exact Ev.pos rfl (Ev.bind examples_ev (Ev.now _))
end Go.Proofs.YtahgghbhpmpgfaaDoor.Pure
/- As the library's returnsInHanded_of_change_and, and the contract also gets that the world is shaped. -/
namespace Go.Proofs.YtahgghbhpmpgfaaDoor.PX
open Go Go.ChangeShapes Go.WideShapes Go.RowKit
theorem handed_shaped {H : Type} {enc : TypeId × Value → H} {a : Assume} {C : Checked} {os : Os} {f : FuncId} {fn : Func} {s : ChangeSpec} {conds : List PathCond} {apart fresh handsOn again : Bool} {X : World → Array Value → Prop}
    (hX : ∀ (w w' : World) (args : Array Value), w.heap = w'.heap → X w args → X w' args)
    (own : ownKnob C.prog.godebug = none) (started : os.Started) (noInit : C.prog.inits.idxOf? f = none) (hfn : C.prog.funcs[f]? = some fn)
    (witness : ∃ (w : World) (tape : Tape) (i : Input), w.os = os ∧ (w.forCall tape i).Shaped C.prog ∧ i.vars = [] ∧ Input.okWide C.prog (w.forCall tape i) .any w.heap.size f i ∧
      ((s.pre enc C.prog fn conds apart (w.forCall tape i).memory i.args ∧ X (w.forCall tape i).memory i.args) ∧ sizedMet enc C.prog fn (OpenSpec.ofChange s) apart (w.forCall tape i).memory i.args) ∧ a.holds C.prog (lone (Frame.enter C.prog f i.args .normal) [] (w.forCall tape i)))
    (contract : ∀ (W : World) (base : Nat) (args : Array Value) (ds gs : List (DataW H)) (before : List MemPlace), W.ShapedOpen C.prog →
      (∀ (j : Nat) t v, fn.params[j]? = some t → args[j]? = some v → Value.okWide C.prog W .any base t v) →
      DataW.Whole enc C.prog fn.params.toList s.vars apart W args.toList ds gs before →
      conds.all (PathCond.test C.prog ⟨fn.params.toList, ds, s.plain.varTypes C.prog, gs⟩) = true →
      (DataW.weightsEach C.prog (fn.params.toList ++ s.plain.varTypes C.prog) (ds ++ gs)).all (· ≤ reachBytes) = true → X W args →
      a.holds C.prog (lone (Frame.enter C.prog f args .normal) [] W) →
      Calls C.prog f args W fun e W' => ∃ v, e = .returned v ∧ s.post enc C.prog fn apart fresh handsOn again W args v W') :
    ReturnsInHanded a C os f .any (fun w args => (s.pre enc C.prog fn conds apart w args ∧ X w args) ∧ sizedMet enc C.prog fn (OpenSpec.ofChange s) apart w args) (s.post enc C.prog fn apart fresh handsOn again) := by
  refine returnsInHanded_of_calls own started noInit witness ?_
  intro w tape i _ hsh _ hok hpre hholds
  obtain ⟨_, _, _, fn', hfn', _, _, _, _, hval⟩ := hok
  have e : fn' = fn := Option.some.inj (hfn'.symm.trans hfn)
  subst e
  obtain ⟨⟨⟨ds, gs, before, hw, hc⟩, hx⟩, hz⟩ := hpre
  have hw' := DataW.Whole.of_heap (w' := w.forCall tape i) (by rfl) hw
  refine (contract (w.forCall tape i) w.heap.size i.args ds gs before hsh hval hw' hc (hz.weights hw) (hX _ _ _ (by rfl) hx) hholds).mono fun e W' ⟨v, he, hp⟩ => ?_
  subst he
  exact ChangeSpec.post_blind hp
end Go.Proofs.YtahgghbhpmpgfaaDoor.PX
