-- Written by a program of this session (wip/xprint.py, over the kit's print tool). Lean checks it.
import Derived.Test.YtakkifbcaedcoaaDoorPXx0
import Derived.Test.YtakkifbcaedcoaaDoorPXx6
import Derived.Test.YtakkifbcaedcoaaDoorPXx7
import Derived.Test.YtakkifbcaedcoaaDoorPXx10
namespace Go.Proofs.YtakkifbcaedcoaaDoor.PX
open Go.RowKit Go.Proofs.YtakkifbcaedcoaaDoorW.PrintWords Go.Proofs.YtakkifbcaedcoaaDoorW.PrintLast Go.Proofs.YtakkifbcaedcoaaDoorW.PrintMore
attribute [local go_sem] max2_int min2_int max_two min_two max_three min_three max_four min_four   -- for this text's walks alone
set_option linter.unusedVariables false
set_option linter.unusedSimpArgs false

/-! ### trickleref55_Updates: function 14 -/
mutual
def trickleref55_Updates.l0 : Nat → List (S55) → List (S33) → Bool → Int → Int → Option ((List (S33)))
  | 0, _, _, _, _, _ => none
  | k + 1, x0, x3, x4, x5, x6 => if x6 < (x0.length : Int) then (if 0 ≤ x6 then ((trickleref52_Valid.f k ((rd_T55 x0 x6).f0) ((rd_T55 x0 x6).f1) ((rd_T55 x0 x6).f2) ((rd_T55 x0 x6).f3) ((rd_T55 x0 x6).f4) ((rd_T55 x0 x6).f5)).bind fun t244 => (if t244 = true then (if ((rd_T55 x0 x6).f0) = 1 then (trickleref55_Updates.j1 k x0 x3 x4 x5 x6 false ((rd_T55 x0 x6).f0) ((rd_T55 x0 x6).f1) ((rd_T55 x0 x6).f2) ((rd_T55 x0 x6).f3) ((rd_T55 x0 x6).f4) ((rd_T55 x0 x6).f5)) else (trickleref55_Updates.j1 k x0 x3 x4 x5 x6 (((rd_T55 x0 x6).f0) != 10) ((rd_T55 x0 x6).f0) ((rd_T55 x0 x6).f1) ((rd_T55 x0 x6).f2) ((rd_T55 x0 x6).f3) ((rd_T55 x0 x6).f4) ((rd_T55 x0 x6).f5))) else (trickleref55_Updates.j1 k x0 x3 x4 x5 x6 true ((rd_T55 x0 x6).f0) ((rd_T55 x0 x6).f1) ((rd_T55 x0 x6).f2) ((rd_T55 x0 x6).f3) ((rd_T55 x0 x6).f4) ((rd_T55 x0 x6).f5)))) else (none)) else (some x3)
def trickleref55_Updates.j1 : Nat → List (S55) → List (S33) → Bool → Int → Int → Bool → Int → Int → Int → Int → Int → Int → Option ((List (S33)))
  | 0, _, _, _, _, _, _, _, _, _, _, _, _ => none
  | k + 1, x0, x3, x4, x5, x6, x30, x244000, x244001, x244002, x244003, x244004, x244005 => if x30 = true then (trickleref55_Updates.l0 k x0 x3 x4 x5 (wrap64 (x6 + 1))) else (if x4 = true then (if x244000 = 1 then (if x244003 = x5 then (if x244000 = 10 then (trickleref55_Updates.j2 k x0 x3 x6 (decide (x244003 ≤ x5)) x244000 x244001 x244002 x244003 x244004 x244005) else (trickleref55_Updates.j2 k x0 x3 x6 false x244000 x244001 x244002 x244003 x244004 x244005)) else (trickleref55_Updates.j2 k x0 x3 x6 true x244000 x244001 x244002 x244003 x244004 x244005)) else (if x244000 = 10 then (trickleref55_Updates.j2 k x0 x3 x6 (decide (x244003 ≤ x5)) x244000 x244001 x244002 x244003 x244004 x244005) else (trickleref55_Updates.j2 k x0 x3 x6 false x244000 x244001 x244002 x244003 x244004 x244005))) else (trickleref55_Updates.j2 k x0 x3 x6 false x244000 x244001 x244002 x244003 x244004 x244005))
def trickleref55_Updates.j2 : Nat → List (S55) → List (S33) → Int → Bool → Int → Int → Int → Int → Int → Int → Option ((List (S33)))
  | 0, _, _, _, _, _, _, _, _, _, _ => none
  | k + 1, x0, x3, x6, x53, x244000, x244001, x244002, x244003, x244004, x244005 => if x53 = true then (if x3.length < 8796093022208 then (trickleref55_Updates.l0 k x0 (x3 ++ [(⟨x6, 5⟩ : S33)]) true x244003 (wrap64 (x6 + 1))) else (none)) else (trickleref55_Updates.l0 k x0 x3 true x244003 (wrap64 (x6 + 1)))
end
def trickleref55_Updates.f (k : Nat) (l0 : List (S55)) : Option ((List (S33))) := trickleref55_Updates.l0 k l0 ([] : List (S33)) false 0 0
theorem trickleref55_Updates.mono_l : ∀ k, (∀ y0 y1 y2 y3 y4, LeO (trickleref55_Updates.l0 k y0 y1 y2 y3 y4) (trickleref55_Updates.l0 (k + 1) y0 y1 y2 y3 y4)) ∧ (∀ y0 y1 y2 y3 y4 y5 y6 y7 y8 y9 y10 y11, LeO (trickleref55_Updates.j1 k y0 y1 y2 y3 y4 y5 y6 y7 y8 y9 y10 y11) (trickleref55_Updates.j1 (k + 1) y0 y1 y2 y3 y4 y5 y6 y7 y8 y9 y10 y11)) ∧ (∀ y0 y1 y2 y3 y4 y5 y6 y7 y8 y9, LeO (trickleref55_Updates.j2 k y0 y1 y2 y3 y4 y5 y6 y7 y8 y9) (trickleref55_Updates.j2 (k + 1) y0 y1 y2 y3 y4 y5 y6 y7 y8 y9))
  | 0 => ⟨fun _ _ _ _ _ r h => by simp [trickleref55_Updates.l0] at h, fun _ _ _ _ _ _ _ _ _ _ _ _ r h => by simp [trickleref55_Updates.j1] at h, fun _ _ _ _ _ _ _ _ _ _ r h => by simp [trickleref55_Updates.j2] at h⟩
  | k + 1 => by
    obtain ⟨ih0, ih1, ih2⟩ := trickleref55_Updates.mono_l k
    refine ⟨?_, ?_, ?_⟩
    · intro y0 y1 y2 y3 y4
      unfold trickleref55_Updates.l0
      repeat' first
      | (with_reducible exact ih0 _ _ _ _ _)
      | (with_reducible exact ih1 _ _ _ _ _ _ _ _ _ _ _ _)
      | (with_reducible exact ih2 _ _ _ _ _ _ _ _ _ _)
      | (with_reducible exact trickleref52_Valid.mono _ _ _ _ _ _ _)
      | (with_reducible exact LeO.refl _)
      | (with_reducible exact LeO.none _)
      | (with_reducible refine LeO.ite ?_ ?_)
      | (with_reducible refine LeO.bind ?_ (fun _ => ?_))
      | exact ih0 _ _ _ _ _
      | exact ih1 _ _ _ _ _ _ _ _ _ _ _ _
      | exact ih2 _ _ _ _ _ _ _ _ _ _
      | exact trickleref52_Valid.mono _ _ _ _ _ _ _
      | exact LeO.none _
      | refine LeO.ite ?_ ?_
      | refine LeO.bind ?_ (fun _ => ?_)
    · intro y0 y1 y2 y3 y4 y5 y6 y7 y8 y9 y10 y11
      unfold trickleref55_Updates.j1
      repeat' first
      | (with_reducible exact ih0 _ _ _ _ _)
      | (with_reducible exact ih1 _ _ _ _ _ _ _ _ _ _ _ _)
      | (with_reducible exact ih2 _ _ _ _ _ _ _ _ _ _)
      | (with_reducible exact trickleref52_Valid.mono _ _ _ _ _ _ _)
      | (with_reducible exact LeO.refl _)
      | (with_reducible exact LeO.none _)
      | (with_reducible refine LeO.ite ?_ ?_)
      | (with_reducible refine LeO.bind ?_ (fun _ => ?_))
      | exact ih0 _ _ _ _ _
      | exact ih1 _ _ _ _ _ _ _ _ _ _ _ _
      | exact ih2 _ _ _ _ _ _ _ _ _ _
      | exact trickleref52_Valid.mono _ _ _ _ _ _ _
      | exact LeO.none _
      | refine LeO.ite ?_ ?_
      | refine LeO.bind ?_ (fun _ => ?_)
    · intro y0 y1 y2 y3 y4 y5 y6 y7 y8 y9
      unfold trickleref55_Updates.j2
      repeat' first
      | (with_reducible exact ih0 _ _ _ _ _)
      | (with_reducible exact ih1 _ _ _ _ _ _ _ _ _ _ _ _)
      | (with_reducible exact ih2 _ _ _ _ _ _ _ _ _ _)
      | (with_reducible exact trickleref52_Valid.mono _ _ _ _ _ _ _)
      | (with_reducible exact LeO.refl _)
      | (with_reducible exact LeO.none _)
      | (with_reducible refine LeO.ite ?_ ?_)
      | (with_reducible refine LeO.bind ?_ (fun _ => ?_))
      | exact ih0 _ _ _ _ _
      | exact ih1 _ _ _ _ _ _ _ _ _ _ _ _
      | exact ih2 _ _ _ _ _ _ _ _ _ _
      | exact trickleref52_Valid.mono _ _ _ _ _ _ _
      | exact LeO.none _
      | refine LeO.ite ?_ ?_
      | refine LeO.bind ?_ (fun _ => ?_)
theorem trickleref55_Updates.mono : ∀ a0 k, LeO (trickleref55_Updates.f k a0) (trickleref55_Updates.f (k + 1) a0) := by
  intro a0 k
  obtain ⟨ih0, ih1, ih2⟩ := trickleref55_Updates.mono_l k
  unfold trickleref55_Updates.f
  repeat' first
      | (with_reducible exact ih0 _ _ _ _ _)
      | (with_reducible exact ih1 _ _ _ _ _ _ _ _ _ _ _ _)
      | (with_reducible exact ih2 _ _ _ _ _ _ _ _ _ _)
      | (with_reducible exact trickleref52_Valid.mono _ _ _ _ _ _ _)
      | (with_reducible exact LeO.refl _)
      | (with_reducible exact LeO.none _)
      | (with_reducible refine LeO.ite ?_ ?_)
      | (with_reducible refine LeO.bind ?_ (fun _ => ?_))
      | exact ih0 _ _ _ _ _
      | exact ih1 _ _ _ _ _ _ _ _ _ _ _ _
      | exact ih2 _ _ _ _ _ _ _ _ _ _
      | exact trickleref52_Valid.mono _ _ _ _ _ _ _
      | exact LeO.none _
      | refine LeO.ite ?_ ?_
      | refine LeO.bind ?_ (fun _ => ?_)
set_option maxHeartbeats 8000000 in
set_option maxRecDepth 100000 in
theorem trickleref55_Updates.calls (k : Nat) (A0 : Option Addr) (c0 : Nat) (l0 : List (S55)) (r : List (S33)) (w : World) (hr0 : Kd.C k55 w A0 l0.length l0) (hc0 : l0.length ≤ c0) (h : trickleref55_Updates.f k l0 = some r) :
    Calls Tryd.prog 14 #[.slice A0 l0.length c0] w fun e w' => ∃ v0_ : Value, e = .returned (v0_) ∧ Kd.R k33 33 w' w.heap.size (fun _ => True) v0_ r ∧ Below w.heap.size w w' := by
  have hu55 := Tryd.underlying55
  have hu33 := Tryd.underlying33
  have HR0 := Aside0.mk hr0
  have HC0 := Aside0.mk hc0
  clear hr0 hc0
  have HB := Aside0.mk (Below.refl w.heap.size w)
  have H : (trickleref55_Updates.l0 k l0 ([] : List (S33)) false 0 0) = some r := h
  clear h
  have H' := Aside0.mk H
  clear H
  go_enter Tryd.func14, Tryd.ntmps14
  go_wp2
  go_loopg [3, 4, 5, 6] k (fun kq v3 v4 v5 v6 w' => ∃ (x3_1 : List (S33)) (x4_1 : Bool) (x5_1 : Int) (x6_1 : Int), v4 = .bool x4_1 ∧ v5 = .int .i64 x5_1 ∧ v6 = .int .i64 x6_1 ∧ Aside0 (trickleref55_Updates.l0 kq l0 x3_1 x4_1 x5_1 x6_1 = some r) ∧ Aside0 (kq ≤ k) ∧ Aside0 (Kd.R k33 33 w' w.heap.size (fun _ => True) v3 x3_1) ∧ Aside0 (Below w.heap.size w w'))
  case atStart => exact ⟨(([] : List (S33))), (false), (0), (0), (by first | rfl | (simp; done) | (simp [*]; done)), (by first | rfl | (simp; done) | (simp [*]; done)), (by first | rfl | (simp; done) | (simp [*]; done)), H', ⟨Nat.le_refl _⟩, ⟨by first | exact Kd.R_nil _ _ _ _ _ | exact Kd.N_nil _ _ _ _ _ | exact Kd.V_nil _ _ _ _ _ | exact Kd.Q_nil _ _ _ _ _ | exact Kd.S_nil _ _ _ _ _⟩, ⟨by repeat (first | (with_reducible first | exact HB.out | apply below_alloc | apply pw_below_drewN | apply below_drew1) | exact HB.out)⟩⟩
  case round =>
    clear H'
    try clear c1
    obtain ⟨x3_1, x4_1, x5_1, x6_1, rfl, rfl, rfl, HA, HK1, HO_3, HB⟩ := hrel
    cases gk with
    | zero => exact absurd HA.out (by simp [trickleref55_Updates.l0])
    | succ k1 =>
      have H := HA.out
      clear HA
      simp only [trickleref55_Updates.l0] at H
      by_cases c2 : x6_1 < (l0.length : Int)
      · rw [if_pos c2] at H
        have c2b0 : decide (x6_1 < (l0.length : Int)) = true := decide_eq_true c2
        clear c2
        by_cases c3 : 0 ≤ x6_1
        · rw [if_pos c3] at H
          have c3b0 : decide (0 ≤ x6_1) = true := decide_eq_true c3
          clear c3
          have HC4 := Aside0.mk H
          clear H
          have p242 : 0 ≤ (x6_1 : Int) := of_decide_eq_true (by first | (with_reducible assumption) | assumption)
          have q242 : x6_1 < (l0.length : Int) := of_decide_eq_true (by first | (with_reducible assumption) | assumption)
          obtain ⟨ad242, e242, hx242_0, hx242_1, hx242_2, hx242_3, hx242_4, hx242_5⟩ := at_T55 HR0.out x6_1 p242 q242
          cases e242
          replace hx242_0 := (HB.out.cell (World.block_lt_of_cell? w _ hx242_0)).trans hx242_0
          replace hx242_1 := (HB.out.cell (World.block_lt_of_cell? w _ hx242_1)).trans hx242_1
          replace hx242_2 := (HB.out.cell (World.block_lt_of_cell? w _ hx242_2)).trans hx242_2
          replace hx242_3 := (HB.out.cell (World.block_lt_of_cell? w _ hx242_3)).trans hx242_3
          replace hx242_4 := (HB.out.cell (World.block_lt_of_cell? w _ hx242_4)).trans hx242_4
          replace hx242_5 := (HB.out.cell (World.block_lt_of_cell? w _ hx242_5)).trans hx242_5
          replace p242 := eq_true p242
          replace q242 := eq_true q242
          go_upto_region 8 with (first | ((with_reducible refine gate_dst (N := 7) rfl ?_); refine box_event ?hg (N := 7) ?hd (cs := #[.int .i64 0, .int .i64 0, .int .i64 0, .int .i64 0, .int .i16 0, .int .i64 0]) (t := 55) ?hr ?_; (case hd => rfl); (case hg => rfl); (case hr => first | (go_simp; done) | (go_simp; rfl)); intro gb243 hg w5 hbox hb; have n0_ := Aside0.mk (Kd.R_below (by (with_reducible repeat (first | apply Kd.R_alloc | apply Kd.R_drewN | apply Kd.R_drew)); exact HO_3.out) hb); have n1_ := Aside0.mk (below_step (by repeat (first | (with_reducible first | exact HB.out | apply below_alloc | apply pw_below_drewN | apply below_drew1) | exact HB.out)) hb); have n2_ := Aside0.mk (hbox); have n3_ := Aside0.mk ((by rw [hg]; exact (below_size (by repeat (first | (with_reducible first | exact HB.out | apply below_alloc | apply pw_below_drewN | apply below_drew1) | exact HB.out))) : w.heap.size ≤ gb243)); have n4_ := Aside0.mk ((by rw [hg]; exact (below_size (by repeat (first | (with_reducible first | exact HB.out | apply below_alloc | apply pw_below_drewN | apply below_drew1) | exact HB.out))) : w.heap.size ≤ gb243)); clear HO_3; clear HB; have HO_3 := n0_; have HB := n1_; have BK243 := n2_; have GW243 := n3_; have GE243 := n4_; clear n0_ n1_ n2_ n3_ n4_; clear hb hbox hg; have hcz6_0 : w5.cell? ⟨gb243, 0, none⟩ = some (.int .i64 0) := (blk_cell BK243.out 0).trans rfl; have hcz6_1 : w5.cell? ⟨gb243, 1, none⟩ = some (.int .i64 0) := (blk_cell BK243.out 1).trans rfl; have hcz6_2 : w5.cell? ⟨gb243, 2, none⟩ = some (.int .i64 0) := (blk_cell BK243.out 2).trans rfl; have hcz6_3 : w5.cell? ⟨gb243, 3, none⟩ = some (.int .i64 0) := (blk_cell BK243.out 3).trans rfl; have hcz6_4 : w5.cell? ⟨gb243, 4, none⟩ = some (.int .i16 0) := (blk_cell BK243.out 4).trans rfl; have hcz6_5 : w5.cell? ⟨gb243, 5, none⟩ = some (.int .i64 0) := (blk_cell BK243.out 5).trans rfl; have hfz6_0 := blk_frozen BK243.out 0; have hfz6_1 := blk_frozen BK243.out 1; have hfz6_2 := blk_frozen BK243.out 2; have hfz6_3 := blk_frozen BK243.out 3; have hfz6_4 := blk_frozen BK243.out 4; have hfz6_5 := blk_frozen BK243.out 5))
          (try simp only [Act.put, List.setIfInBounds_toArray, List.set_cons_zero, List.set_cons_succ])
          go_cut [30] (fun v30 wc => ∃ (kq : Nat) (x30_3 : Bool), v30 = .bool x30_3 ∧ Aside0 (trickleref55_Updates.j1 kq l0 x3_1 x4_1 x5_1 x6_1 x30_3 ((rd_T55 l0 x6_1).f0) ((rd_T55 l0 x6_1).f1) ((rd_T55 l0 x6_1).f2) ((rd_T55 l0 x6_1).f3) ((rd_T55 l0 x6_1).f4) ((rd_T55 l0 x6_1).f5) = some r) ∧ Aside0 (kq ≤ k1) ∧ Aside0 (Kd.R k33 33 wc w.heap.size (fun _ => True) u3 x3_1) ∧ Aside0 (wc.heap[gb243]? = some (.cells #[.int .i64 ((rd_T55 l0 x6_1).f0), .int .i64 ((rd_T55 l0 x6_1).f1), .int .i64 ((rd_T55 l0 x6_1).f2), .int .i64 ((rd_T55 l0 x6_1).f3), .int .i16 ((rd_T55 l0 x6_1).f4), .int .i64 ((rd_T55 l0 x6_1).f5)] 55 (0, 0))) ∧ Aside0 (Below w.heap.size w wc))
          case first =>
            have H := HC4.out
            clear HC4
            replace H := Option.bind_eq_some_iff.mp H
            obtain ⟨t244, A70, H⟩ := H
            replace H : (if t244 = true then (if ((rd_T55 l0 x6_1).f0) = 1 then (trickleref55_Updates.j1 k1 l0 x3_1 x4_1 x5_1 x6_1 false ((rd_T55 l0 x6_1).f0) ((rd_T55 l0 x6_1).f1) ((rd_T55 l0 x6_1).f2) ((rd_T55 l0 x6_1).f3) ((rd_T55 l0 x6_1).f4) ((rd_T55 l0 x6_1).f5)) else (trickleref55_Updates.j1 k1 l0 x3_1 x4_1 x5_1 x6_1 (((rd_T55 l0 x6_1).f0) != 10) ((rd_T55 l0 x6_1).f0) ((rd_T55 l0 x6_1).f1) ((rd_T55 l0 x6_1).f2) ((rd_T55 l0 x6_1).f3) ((rd_T55 l0 x6_1).f4) ((rd_T55 l0 x6_1).f5))) else (trickleref55_Updates.j1 k1 l0 x3_1 x4_1 x5_1 x6_1 true ((rd_T55 l0 x6_1).f0) ((rd_T55 l0 x6_1).f1) ((rd_T55 l0 x6_1).f2) ((rd_T55 l0 x6_1).f3) ((rd_T55 l0 x6_1).f4) ((rd_T55 l0 x6_1).f5))) = some r := H
            have A7 := Aside0.mk A70
            clear A70
            by_cases c8 : t244 = true
            · subst c8
              have H1 : (if ((rd_T55 l0 x6_1).f0) = 1 then (trickleref55_Updates.j1 k1 l0 x3_1 x4_1 x5_1 x6_1 false ((rd_T55 l0 x6_1).f0) ((rd_T55 l0 x6_1).f1) ((rd_T55 l0 x6_1).f2) ((rd_T55 l0 x6_1).f3) ((rd_T55 l0 x6_1).f4) ((rd_T55 l0 x6_1).f5)) else (trickleref55_Updates.j1 k1 l0 x3_1 x4_1 x5_1 x6_1 (((rd_T55 l0 x6_1).f0) != 10) ((rd_T55 l0 x6_1).f0) ((rd_T55 l0 x6_1).f1) ((rd_T55 l0 x6_1).f2) ((rd_T55 l0 x6_1).f3) ((rd_T55 l0 x6_1).f4) ((rd_T55 l0 x6_1).f5))) = some r := by rw [if_pos rfl] at H; exact H
              clear H
              have H := H1
              clear H1
              by_cases c9 : ((rd_T55 l0 x6_1).f0) = 1
              · rw [if_pos c9] at H
                have c9b0 : (((rd_T55 l0 x6_1).f0) == 1) = true := beq_iff_eq.mpr c9
                have c9b1 : (((rd_T55 l0 x6_1).f0) != 1) = false := bne_eq_false_iff_eq.mpr c9
                clear c9
                (first | rw [c9b0] | (simp only [i64_w, i32_w]; rw [c9b0]) | skip)
                have H' := Aside0.mk H
                clear H
                have hcz10_0 : w5.cell? ⟨gb243, 0, none⟩ = some (.int .i64 0) := (blk_cell BK243.out 0).trans rfl
                have hcz10_1 : w5.cell? ⟨gb243, 1, none⟩ = some (.int .i64 0) := (blk_cell BK243.out 1).trans rfl
                have hcz10_2 : w5.cell? ⟨gb243, 2, none⟩ = some (.int .i64 0) := (blk_cell BK243.out 2).trans rfl
                have hcz10_3 : w5.cell? ⟨gb243, 3, none⟩ = some (.int .i64 0) := (blk_cell BK243.out 3).trans rfl
                have hcz10_4 : w5.cell? ⟨gb243, 4, none⟩ = some (.int .i16 0) := (blk_cell BK243.out 4).trans rfl
                have hcz10_5 : w5.cell? ⟨gb243, 5, none⟩ = some (.int .i64 0) := (blk_cell BK243.out 5).trans rfl
                have hfz10_0 := blk_frozen BK243.out 0
                have hfz10_1 := blk_frozen BK243.out 1
                have hfz10_2 := blk_frozen BK243.out 2
                have hfz10_3 := blk_frozen BK243.out 3
                have hfz10_4 := blk_frozen BK243.out 4
                have hfz10_5 := blk_frozen BK243.out 5
                go_wp2_with (first | ((with_reducible refine gate_callee (f := 28) rfl ?_); refine goesL_ (some 19) rfl rfl Tryd.func28 (by kernel_rfl) rfl #[.agg #[.int .i64 ((rd_T55 l0 x6_1).f0), .int .i64 ((rd_T55 l0 x6_1).f1), .int .i64 ((rd_T55 l0 x6_1).f2), .int .i64 ((rd_T55 l0 x6_1).f3), .int .i16 ((rd_T55 l0 x6_1).f4), .int .i64 ((rd_T55 l0 x6_1).f5)]] rfl (by (try simp only [List.map_toArray, List.map_cons, List.map_nil]); first | done | rfl | (simp only [List.length_drop, List.length_take]; rfl)) ?_; (with_reducible refine (trickleref52_Valid.calls k1 ((rd_T55 l0 x6_1).f0) ((rd_T55 l0 x6_1).f1) ((rd_T55 l0 x6_1).f2) ((rd_T55 l0 x6_1).f3) ((rd_T55 l0 x6_1).f4) ((rd_T55 l0 x6_1).f5) true _ A7.out).mono ?_); rintro e w11 ⟨rfl, hb⟩; refine ⟨_, rfl, ?_⟩; have n0_ := Aside0.mk (Kd.R_below (by (with_reducible repeat (first | apply Kd.R_alloc | apply Kd.R_drewN | apply Kd.R_drew)); exact (Kd.R_mono (Kd.R_far (p := ⟨gb243, 5, none⟩) (Kd.R_far (p := ⟨gb243, 4, none⟩) (Kd.R_far (p := ⟨gb243, 3, none⟩) (Kd.R_far (p := ⟨gb243, 2, none⟩) (Kd.R_far (p := ⟨gb243, 1, none⟩) (Kd.R_far (p := ⟨gb243, 0, none⟩) (Kd.R_types HO_3.out BK243.out (by decide)) (fun _ hk => hk.2) (.int .i64 ((rd_T55 l0 x6_1).f0))) (fun _ hk => hk.2) (.int .i64 ((rd_T55 l0 x6_1).f1))) (fun _ hk => hk.2) (.int .i64 ((rd_T55 l0 x6_1).f2))) (fun _ hk => hk.2) (.int .i64 ((rd_T55 l0 x6_1).f3))) (fun _ hk => hk.2) (.int .i16 ((rd_T55 l0 x6_1).f4))) (fun _ hk => hk.2) (.int .i64 ((rd_T55 l0 x6_1).f5))) (fun _ h_ => h_.1))) hb); have n1_ := Aside0.mk (blk_below (g := gb243) (o := .cells #[.int .i64 ((rd_T55 l0 x6_1).f0), .int .i64 ((rd_T55 l0 x6_1).f1), .int .i64 ((rd_T55 l0 x6_1).f2), .int .i64 ((rd_T55 l0 x6_1).f3), .int .i16 ((rd_T55 l0 x6_1).f4), .int .i64 ((rd_T55 l0 x6_1).f5)] 55 (0, 0)) (by (with_reducible repeat (first | refine blk_drewN ?_ _ | refine blk_drew ?_ | refine blk_alloc ?_ _)); refine blk_put (cs := #[.int .i64 ((rd_T55 l0 x6_1).f0), .int .i64 ((rd_T55 l0 x6_1).f1), .int .i64 ((rd_T55 l0 x6_1).f2), .int .i64 ((rd_T55 l0 x6_1).f3), .int .i16 ((rd_T55 l0 x6_1).f4), .int .i64 0]) ?_ 5 _ rfl; (with_reducible repeat (first | refine blk_drewN ?_ _ | refine blk_drew ?_ | refine blk_alloc ?_ _)); refine blk_put (cs := #[.int .i64 ((rd_T55 l0 x6_1).f0), .int .i64 ((rd_T55 l0 x6_1).f1), .int .i64 ((rd_T55 l0 x6_1).f2), .int .i64 ((rd_T55 l0 x6_1).f3), .int .i16 0, .int .i64 0]) ?_ 4 _ rfl; (with_reducible repeat (first | refine blk_drewN ?_ _ | refine blk_drew ?_ | refine blk_alloc ?_ _)); refine blk_put (cs := #[.int .i64 ((rd_T55 l0 x6_1).f0), .int .i64 ((rd_T55 l0 x6_1).f1), .int .i64 ((rd_T55 l0 x6_1).f2), .int .i64 0, .int .i16 0, .int .i64 0]) ?_ 3 _ rfl; (with_reducible repeat (first | refine blk_drewN ?_ _ | refine blk_drew ?_ | refine blk_alloc ?_ _)); refine blk_put (cs := #[.int .i64 ((rd_T55 l0 x6_1).f0), .int .i64 ((rd_T55 l0 x6_1).f1), .int .i64 0, .int .i64 0, .int .i16 0, .int .i64 0]) ?_ 2 _ rfl; (with_reducible repeat (first | refine blk_drewN ?_ _ | refine blk_drew ?_ | refine blk_alloc ?_ _)); refine blk_put (cs := #[.int .i64 ((rd_T55 l0 x6_1).f0), .int .i64 0, .int .i64 0, .int .i64 0, .int .i16 0, .int .i64 0]) ?_ 1 _ rfl; (with_reducible repeat (first | refine blk_drewN ?_ _ | refine blk_drew ?_ | refine blk_alloc ?_ _)); refine blk_put (cs := #[.int .i64 0, .int .i64 0, .int .i64 0, .int .i64 0, .int .i16 0, .int .i64 0]) ?_ 0 _ rfl; (with_reducible repeat (first | refine blk_drewN ?_ _ | refine blk_drew ?_ | refine blk_alloc ?_ _)); exact BK243.out) hb); have n2_ := Aside0.mk (below_step (by repeat (first | (with_reducible first | exact HB.out | apply below_alloc | apply pw_below_drewN | apply below_drew1 | refine below_set ?_ GE243.out) | exact HB.out)) hb); clear HO_3; clear BK243; clear HB; have HO_3 := n0_; have BK243 := n1_; have HB := n2_; clear n0_ n1_ n2_; (try clear hb); (try clear hb2); (try clear hk); (try clear hi); have hcz12_0 : w11.cell? ⟨gb243, 0, none⟩ = some (.int .i64 ((rd_T55 l0 x6_1).f0)) := (blk_cell BK243.out 0).trans rfl; have hcz12_1 : w11.cell? ⟨gb243, 1, none⟩ = some (.int .i64 ((rd_T55 l0 x6_1).f1)) := (blk_cell BK243.out 1).trans rfl; have hcz12_2 : w11.cell? ⟨gb243, 2, none⟩ = some (.int .i64 ((rd_T55 l0 x6_1).f2)) := (blk_cell BK243.out 2).trans rfl; have hcz12_3 : w11.cell? ⟨gb243, 3, none⟩ = some (.int .i64 ((rd_T55 l0 x6_1).f3)) := (blk_cell BK243.out 3).trans rfl; have hcz12_4 : w11.cell? ⟨gb243, 4, none⟩ = some (.int .i16 ((rd_T55 l0 x6_1).f4)) := (blk_cell BK243.out 4).trans rfl; have hcz12_5 : w11.cell? ⟨gb243, 5, none⟩ = some (.int .i64 ((rd_T55 l0 x6_1).f5)) := (blk_cell BK243.out 5).trans rfl; have hfz12_0 := blk_frozen BK243.out 0; have hfz12_1 := blk_frozen BK243.out 1; have hfz12_2 := blk_frozen BK243.out 2; have hfz12_3 := blk_frozen BK243.out 3; have hfz12_4 := blk_frozen BK243.out 4; have hfz12_5 := blk_frozen BK243.out 5))
                go_meet
                case rel => exact ⟨_, (false), (by first | rfl | (simp; done) | (simp [*]; done)), H', ⟨by have := HK1.out; first | omega | exact Nat.le_refl _⟩, ⟨by (with_reducible repeat (first | apply Kd.R_alloc | apply Kd.R_drewN | apply Kd.R_drew)); exact HO_3.out⟩, ⟨by (with_reducible repeat (first | refine blk_drewN ?_ _ | refine blk_drew ?_ | refine blk_alloc ?_ _)); exact BK243.out⟩, ⟨by repeat (first | (with_reducible first | exact HB.out | apply below_alloc | apply pw_below_drewN | apply below_drew1 | refine below_set ?_ GE243.out) | exact HB.out)⟩⟩
              · rw [if_neg c9] at H
                have c9b0 : (((rd_T55 l0 x6_1).f0) == 1) = false := beq_eq_false_iff_ne.mpr c9
                have c9b1 : (((rd_T55 l0 x6_1).f0) != 1) = true := bne_iff_ne.mpr c9
                (first | rw [c9b0] | (simp only [i64_w, i32_w]; rw [c9b0]) | skip)
                have H' := Aside0.mk H
                clear H
                have hcz13_0 : w5.cell? ⟨gb243, 0, none⟩ = some (.int .i64 0) := (blk_cell BK243.out 0).trans rfl
                have hcz13_1 : w5.cell? ⟨gb243, 1, none⟩ = some (.int .i64 0) := (blk_cell BK243.out 1).trans rfl
                have hcz13_2 : w5.cell? ⟨gb243, 2, none⟩ = some (.int .i64 0) := (blk_cell BK243.out 2).trans rfl
                have hcz13_3 : w5.cell? ⟨gb243, 3, none⟩ = some (.int .i64 0) := (blk_cell BK243.out 3).trans rfl
                have hcz13_4 : w5.cell? ⟨gb243, 4, none⟩ = some (.int .i16 0) := (blk_cell BK243.out 4).trans rfl
                have hcz13_5 : w5.cell? ⟨gb243, 5, none⟩ = some (.int .i64 0) := (blk_cell BK243.out 5).trans rfl
                have hfz13_0 := blk_frozen BK243.out 0
                have hfz13_1 := blk_frozen BK243.out 1
                have hfz13_2 := blk_frozen BK243.out 2
                have hfz13_3 := blk_frozen BK243.out 3
                have hfz13_4 := blk_frozen BK243.out 4
                have hfz13_5 := blk_frozen BK243.out 5
                go_wp2_with (first | ((with_reducible refine gate_callee (f := 28) rfl ?_); refine goesL_ (some 19) rfl rfl Tryd.func28 (by kernel_rfl) rfl #[.agg #[.int .i64 ((rd_T55 l0 x6_1).f0), .int .i64 ((rd_T55 l0 x6_1).f1), .int .i64 ((rd_T55 l0 x6_1).f2), .int .i64 ((rd_T55 l0 x6_1).f3), .int .i16 ((rd_T55 l0 x6_1).f4), .int .i64 ((rd_T55 l0 x6_1).f5)]] rfl (by (try simp only [List.map_toArray, List.map_cons, List.map_nil]); first | done | rfl | (simp only [List.length_drop, List.length_take]; rfl)) ?_; (with_reducible refine (trickleref52_Valid.calls k1 ((rd_T55 l0 x6_1).f0) ((rd_T55 l0 x6_1).f1) ((rd_T55 l0 x6_1).f2) ((rd_T55 l0 x6_1).f3) ((rd_T55 l0 x6_1).f4) ((rd_T55 l0 x6_1).f5) true _ A7.out).mono ?_); rintro e w14 ⟨rfl, hb⟩; refine ⟨_, rfl, ?_⟩; have n0_ := Aside0.mk (Kd.R_below (by (with_reducible repeat (first | apply Kd.R_alloc | apply Kd.R_drewN | apply Kd.R_drew)); exact (Kd.R_mono (Kd.R_far (p := ⟨gb243, 5, none⟩) (Kd.R_far (p := ⟨gb243, 4, none⟩) (Kd.R_far (p := ⟨gb243, 3, none⟩) (Kd.R_far (p := ⟨gb243, 2, none⟩) (Kd.R_far (p := ⟨gb243, 1, none⟩) (Kd.R_far (p := ⟨gb243, 0, none⟩) (Kd.R_types HO_3.out BK243.out (by decide)) (fun _ hk => hk.2) (.int .i64 ((rd_T55 l0 x6_1).f0))) (fun _ hk => hk.2) (.int .i64 ((rd_T55 l0 x6_1).f1))) (fun _ hk => hk.2) (.int .i64 ((rd_T55 l0 x6_1).f2))) (fun _ hk => hk.2) (.int .i64 ((rd_T55 l0 x6_1).f3))) (fun _ hk => hk.2) (.int .i16 ((rd_T55 l0 x6_1).f4))) (fun _ hk => hk.2) (.int .i64 ((rd_T55 l0 x6_1).f5))) (fun _ h_ => h_.1))) hb); have n1_ := Aside0.mk (blk_below (g := gb243) (o := .cells #[.int .i64 ((rd_T55 l0 x6_1).f0), .int .i64 ((rd_T55 l0 x6_1).f1), .int .i64 ((rd_T55 l0 x6_1).f2), .int .i64 ((rd_T55 l0 x6_1).f3), .int .i16 ((rd_T55 l0 x6_1).f4), .int .i64 ((rd_T55 l0 x6_1).f5)] 55 (0, 0)) (by (with_reducible repeat (first | refine blk_drewN ?_ _ | refine blk_drew ?_ | refine blk_alloc ?_ _)); refine blk_put (cs := #[.int .i64 ((rd_T55 l0 x6_1).f0), .int .i64 ((rd_T55 l0 x6_1).f1), .int .i64 ((rd_T55 l0 x6_1).f2), .int .i64 ((rd_T55 l0 x6_1).f3), .int .i16 ((rd_T55 l0 x6_1).f4), .int .i64 0]) ?_ 5 _ rfl; (with_reducible repeat (first | refine blk_drewN ?_ _ | refine blk_drew ?_ | refine blk_alloc ?_ _)); refine blk_put (cs := #[.int .i64 ((rd_T55 l0 x6_1).f0), .int .i64 ((rd_T55 l0 x6_1).f1), .int .i64 ((rd_T55 l0 x6_1).f2), .int .i64 ((rd_T55 l0 x6_1).f3), .int .i16 0, .int .i64 0]) ?_ 4 _ rfl; (with_reducible repeat (first | refine blk_drewN ?_ _ | refine blk_drew ?_ | refine blk_alloc ?_ _)); refine blk_put (cs := #[.int .i64 ((rd_T55 l0 x6_1).f0), .int .i64 ((rd_T55 l0 x6_1).f1), .int .i64 ((rd_T55 l0 x6_1).f2), .int .i64 0, .int .i16 0, .int .i64 0]) ?_ 3 _ rfl; (with_reducible repeat (first | refine blk_drewN ?_ _ | refine blk_drew ?_ | refine blk_alloc ?_ _)); refine blk_put (cs := #[.int .i64 ((rd_T55 l0 x6_1).f0), .int .i64 ((rd_T55 l0 x6_1).f1), .int .i64 0, .int .i64 0, .int .i16 0, .int .i64 0]) ?_ 2 _ rfl; (with_reducible repeat (first | refine blk_drewN ?_ _ | refine blk_drew ?_ | refine blk_alloc ?_ _)); refine blk_put (cs := #[.int .i64 ((rd_T55 l0 x6_1).f0), .int .i64 0, .int .i64 0, .int .i64 0, .int .i16 0, .int .i64 0]) ?_ 1 _ rfl; (with_reducible repeat (first | refine blk_drewN ?_ _ | refine blk_drew ?_ | refine blk_alloc ?_ _)); refine blk_put (cs := #[.int .i64 0, .int .i64 0, .int .i64 0, .int .i64 0, .int .i16 0, .int .i64 0]) ?_ 0 _ rfl; (with_reducible repeat (first | refine blk_drewN ?_ _ | refine blk_drew ?_ | refine blk_alloc ?_ _)); exact BK243.out) hb); have n2_ := Aside0.mk (below_step (by repeat (first | (with_reducible first | exact HB.out | apply below_alloc | apply pw_below_drewN | apply below_drew1 | refine below_set ?_ GE243.out) | exact HB.out)) hb); clear HO_3; clear BK243; clear HB; have HO_3 := n0_; have BK243 := n1_; have HB := n2_; clear n0_ n1_ n2_; (try clear hb); (try clear hb2); (try clear hk); (try clear hi); have hcz15_0 : w14.cell? ⟨gb243, 0, none⟩ = some (.int .i64 ((rd_T55 l0 x6_1).f0)) := (blk_cell BK243.out 0).trans rfl; have hcz15_1 : w14.cell? ⟨gb243, 1, none⟩ = some (.int .i64 ((rd_T55 l0 x6_1).f1)) := (blk_cell BK243.out 1).trans rfl; have hcz15_2 : w14.cell? ⟨gb243, 2, none⟩ = some (.int .i64 ((rd_T55 l0 x6_1).f2)) := (blk_cell BK243.out 2).trans rfl; have hcz15_3 : w14.cell? ⟨gb243, 3, none⟩ = some (.int .i64 ((rd_T55 l0 x6_1).f3)) := (blk_cell BK243.out 3).trans rfl; have hcz15_4 : w14.cell? ⟨gb243, 4, none⟩ = some (.int .i16 ((rd_T55 l0 x6_1).f4)) := (blk_cell BK243.out 4).trans rfl; have hcz15_5 : w14.cell? ⟨gb243, 5, none⟩ = some (.int .i64 ((rd_T55 l0 x6_1).f5)) := (blk_cell BK243.out 5).trans rfl; have hfz15_0 := blk_frozen BK243.out 0; have hfz15_1 := blk_frozen BK243.out 1; have hfz15_2 := blk_frozen BK243.out 2; have hfz15_3 := blk_frozen BK243.out 3; have hfz15_4 := blk_frozen BK243.out 4; have hfz15_5 := blk_frozen BK243.out 5))
                go_meet
                case rel => exact ⟨_, ((((rd_T55 l0 x6_1).f0) != 10)), (by first | rfl | (simp; done) | (simp [*]; done)), H', ⟨by have := HK1.out; first | omega | exact Nat.le_refl _⟩, ⟨by (with_reducible repeat (first | apply Kd.R_alloc | apply Kd.R_drewN | apply Kd.R_drew)); exact HO_3.out⟩, ⟨by (with_reducible repeat (first | refine blk_drewN ?_ _ | refine blk_drew ?_ | refine blk_alloc ?_ _)); exact BK243.out⟩, ⟨by repeat (first | (with_reducible first | exact HB.out | apply below_alloc | apply pw_below_drewN | apply below_drew1 | refine below_set ?_ GE243.out) | exact HB.out)⟩⟩
            · replace c8 := Bool.eq_false_iff.mpr c8
              subst c8
              have H1 : (trickleref55_Updates.j1 k1 l0 x3_1 x4_1 x5_1 x6_1 true ((rd_T55 l0 x6_1).f0) ((rd_T55 l0 x6_1).f1) ((rd_T55 l0 x6_1).f2) ((rd_T55 l0 x6_1).f3) ((rd_T55 l0 x6_1).f4) ((rd_T55 l0 x6_1).f5)) = some r := by rw [if_neg (show ¬ (false = true) by decide)] at H; exact H
              clear H
              have H := H1
              clear H1
              have H' := Aside0.mk H
              clear H
              have hcz16_0 : w5.cell? ⟨gb243, 0, none⟩ = some (.int .i64 0) := (blk_cell BK243.out 0).trans rfl
              have hcz16_1 : w5.cell? ⟨gb243, 1, none⟩ = some (.int .i64 0) := (blk_cell BK243.out 1).trans rfl
              have hcz16_2 : w5.cell? ⟨gb243, 2, none⟩ = some (.int .i64 0) := (blk_cell BK243.out 2).trans rfl
              have hcz16_3 : w5.cell? ⟨gb243, 3, none⟩ = some (.int .i64 0) := (blk_cell BK243.out 3).trans rfl
              have hcz16_4 : w5.cell? ⟨gb243, 4, none⟩ = some (.int .i16 0) := (blk_cell BK243.out 4).trans rfl
              have hcz16_5 : w5.cell? ⟨gb243, 5, none⟩ = some (.int .i64 0) := (blk_cell BK243.out 5).trans rfl
              have hfz16_0 := blk_frozen BK243.out 0
              have hfz16_1 := blk_frozen BK243.out 1
              have hfz16_2 := blk_frozen BK243.out 2
              have hfz16_3 := blk_frozen BK243.out 3
              have hfz16_4 := blk_frozen BK243.out 4
              have hfz16_5 := blk_frozen BK243.out 5
              go_wp2_with (first | ((with_reducible refine gate_callee (f := 28) rfl ?_); refine goesL_ (some 19) rfl rfl Tryd.func28 (by kernel_rfl) rfl #[.agg #[.int .i64 ((rd_T55 l0 x6_1).f0), .int .i64 ((rd_T55 l0 x6_1).f1), .int .i64 ((rd_T55 l0 x6_1).f2), .int .i64 ((rd_T55 l0 x6_1).f3), .int .i16 ((rd_T55 l0 x6_1).f4), .int .i64 ((rd_T55 l0 x6_1).f5)]] rfl (by (try simp only [List.map_toArray, List.map_cons, List.map_nil]); first | done | rfl | (simp only [List.length_drop, List.length_take]; rfl)) ?_; (with_reducible refine (trickleref52_Valid.calls k1 ((rd_T55 l0 x6_1).f0) ((rd_T55 l0 x6_1).f1) ((rd_T55 l0 x6_1).f2) ((rd_T55 l0 x6_1).f3) ((rd_T55 l0 x6_1).f4) ((rd_T55 l0 x6_1).f5) false _ A7.out).mono ?_); rintro e w17 ⟨rfl, hb⟩; refine ⟨_, rfl, ?_⟩; have n0_ := Aside0.mk (Kd.R_below (by (with_reducible repeat (first | apply Kd.R_alloc | apply Kd.R_drewN | apply Kd.R_drew)); exact (Kd.R_mono (Kd.R_far (p := ⟨gb243, 5, none⟩) (Kd.R_far (p := ⟨gb243, 4, none⟩) (Kd.R_far (p := ⟨gb243, 3, none⟩) (Kd.R_far (p := ⟨gb243, 2, none⟩) (Kd.R_far (p := ⟨gb243, 1, none⟩) (Kd.R_far (p := ⟨gb243, 0, none⟩) (Kd.R_types HO_3.out BK243.out (by decide)) (fun _ hk => hk.2) (.int .i64 ((rd_T55 l0 x6_1).f0))) (fun _ hk => hk.2) (.int .i64 ((rd_T55 l0 x6_1).f1))) (fun _ hk => hk.2) (.int .i64 ((rd_T55 l0 x6_1).f2))) (fun _ hk => hk.2) (.int .i64 ((rd_T55 l0 x6_1).f3))) (fun _ hk => hk.2) (.int .i16 ((rd_T55 l0 x6_1).f4))) (fun _ hk => hk.2) (.int .i64 ((rd_T55 l0 x6_1).f5))) (fun _ h_ => h_.1))) hb); have n1_ := Aside0.mk (blk_below (g := gb243) (o := .cells #[.int .i64 ((rd_T55 l0 x6_1).f0), .int .i64 ((rd_T55 l0 x6_1).f1), .int .i64 ((rd_T55 l0 x6_1).f2), .int .i64 ((rd_T55 l0 x6_1).f3), .int .i16 ((rd_T55 l0 x6_1).f4), .int .i64 ((rd_T55 l0 x6_1).f5)] 55 (0, 0)) (by (with_reducible repeat (first | refine blk_drewN ?_ _ | refine blk_drew ?_ | refine blk_alloc ?_ _)); refine blk_put (cs := #[.int .i64 ((rd_T55 l0 x6_1).f0), .int .i64 ((rd_T55 l0 x6_1).f1), .int .i64 ((rd_T55 l0 x6_1).f2), .int .i64 ((rd_T55 l0 x6_1).f3), .int .i16 ((rd_T55 l0 x6_1).f4), .int .i64 0]) ?_ 5 _ rfl; (with_reducible repeat (first | refine blk_drewN ?_ _ | refine blk_drew ?_ | refine blk_alloc ?_ _)); refine blk_put (cs := #[.int .i64 ((rd_T55 l0 x6_1).f0), .int .i64 ((rd_T55 l0 x6_1).f1), .int .i64 ((rd_T55 l0 x6_1).f2), .int .i64 ((rd_T55 l0 x6_1).f3), .int .i16 0, .int .i64 0]) ?_ 4 _ rfl; (with_reducible repeat (first | refine blk_drewN ?_ _ | refine blk_drew ?_ | refine blk_alloc ?_ _)); refine blk_put (cs := #[.int .i64 ((rd_T55 l0 x6_1).f0), .int .i64 ((rd_T55 l0 x6_1).f1), .int .i64 ((rd_T55 l0 x6_1).f2), .int .i64 0, .int .i16 0, .int .i64 0]) ?_ 3 _ rfl; (with_reducible repeat (first | refine blk_drewN ?_ _ | refine blk_drew ?_ | refine blk_alloc ?_ _)); refine blk_put (cs := #[.int .i64 ((rd_T55 l0 x6_1).f0), .int .i64 ((rd_T55 l0 x6_1).f1), .int .i64 0, .int .i64 0, .int .i16 0, .int .i64 0]) ?_ 2 _ rfl; (with_reducible repeat (first | refine blk_drewN ?_ _ | refine blk_drew ?_ | refine blk_alloc ?_ _)); refine blk_put (cs := #[.int .i64 ((rd_T55 l0 x6_1).f0), .int .i64 0, .int .i64 0, .int .i64 0, .int .i16 0, .int .i64 0]) ?_ 1 _ rfl; (with_reducible repeat (first | refine blk_drewN ?_ _ | refine blk_drew ?_ | refine blk_alloc ?_ _)); refine blk_put (cs := #[.int .i64 0, .int .i64 0, .int .i64 0, .int .i64 0, .int .i16 0, .int .i64 0]) ?_ 0 _ rfl; (with_reducible repeat (first | refine blk_drewN ?_ _ | refine blk_drew ?_ | refine blk_alloc ?_ _)); exact BK243.out) hb); have n2_ := Aside0.mk (below_step (by repeat (first | (with_reducible first | exact HB.out | apply below_alloc | apply pw_below_drewN | apply below_drew1 | refine below_set ?_ GE243.out) | exact HB.out)) hb); clear HO_3; clear BK243; clear HB; have HO_3 := n0_; have BK243 := n1_; have HB := n2_; clear n0_ n1_ n2_; (try clear hb); (try clear hb2); (try clear hk); (try clear hi)))
              go_meet
              case rel => exact ⟨_, (true), (by first | rfl | (simp; done) | (simp [*]; done)), H', ⟨by have := HK1.out; first | omega | exact Nat.le_refl _⟩, ⟨by (with_reducible repeat (first | apply Kd.R_alloc | apply Kd.R_drewN | apply Kd.R_drew)); exact HO_3.out⟩, ⟨by (with_reducible repeat (first | refine blk_drewN ?_ _ | refine blk_drew ?_ | refine blk_alloc ?_ _)); exact BK243.out⟩, ⟨by repeat (first | (with_reducible first | exact HB.out | apply below_alloc | apply pw_below_drewN | apply below_drew1 | refine below_set ?_ GE243.out) | exact HB.out)⟩⟩
          case rest =>
            clear HC4
            try clear c1
            try clear c2
            try clear c2b0
            try clear p2
            try clear q2
            try clear hx2
            try clear c3
            try clear c3b0
            try clear c8
            try clear c9
            try clear c9b0
            try clear c9b1
            try clear c14
            try clear hcz10_0
            try clear hcz10_1
            try clear hcz10_2
            try clear hcz10_3
            try clear hcz10_4
            try clear hcz10_5
            try clear hcz12_0
            try clear hcz12_1
            try clear hcz12_2
            try clear hcz12_3
            try clear hcz12_4
            try clear hcz12_5
            try clear hcz13_0
            try clear hcz13_1
            try clear hcz13_2
            try clear hcz13_3
            try clear hcz13_4
            try clear hcz13_5
            try clear hcz15_0
            try clear hcz15_1
            try clear hcz15_2
            try clear hcz15_3
            try clear hcz15_4
            try clear hcz15_5
            try clear hcz16_0
            try clear hcz16_1
            try clear hcz16_2
            try clear hcz16_3
            try clear hcz16_4
            try clear hcz16_5
            try clear hcz6_0
            try clear hcz6_1
            try clear hcz6_2
            try clear hcz6_3
            try clear hcz6_4
            try clear hcz6_5
            try clear hfz10_0
            try clear hfz10_1
            try clear hfz10_2
            try clear hfz10_3
            try clear hfz10_4
            try clear hfz10_5
            try clear hfz12_0
            try clear hfz12_1
            try clear hfz12_2
            try clear hfz12_3
            try clear hfz12_4
            try clear hfz12_5
            try clear hfz13_0
            try clear hfz13_1
            try clear hfz13_2
            try clear hfz13_3
            try clear hfz13_4
            try clear hfz13_5
            try clear hfz15_0
            try clear hfz15_1
            try clear hfz15_2
            try clear hfz15_3
            try clear hfz15_4
            try clear hfz15_5
            try clear hfz16_0
            try clear hfz16_1
            try clear hfz16_2
            try clear hfz16_3
            try clear hfz16_4
            try clear hfz16_5
            try clear hfz6_0
            try clear hfz6_1
            try clear hfz6_2
            try clear hfz6_3
            try clear hfz6_4
            try clear hfz6_5
            try clear hx242_0
            try clear hx242_1
            try clear hx242_2
            try clear hx242_3
            try clear hx242_4
            try clear hx242_5
            try clear p242
            try clear q242
            obtain ⟨kq, x30_3, rfl, HA, HJ3, HO_3, BK243, HB⟩ := hcut
            cases kq with
            | zero => exact absurd HA.out (by simp [trickleref55_Updates.j1])
            | succ kj3 =>
              have H := HA.out
              clear HA
              simp only [trickleref55_Updates.j1] at H
              by_cases c18 : x30_3 = true
              · subst c18
                have H1 : (trickleref55_Updates.l0 kj3 l0 x3_1 x4_1 x5_1 (wrap64 (x6_1 + 1))) = some r := by rw [if_pos rfl] at H; exact H
                clear H
                have H := H1
                clear H1
                have H' := Aside0.mk H
                clear H
                go_wp2
                go_roundg kj3
                case measure => have := HK1.out; have := HJ3.out; omega
                case rel => exact ⟨(x3_1), (x4_1), (x5_1), (wrap64 (x6_1 + 1)), (by first | rfl | (simp; done) | (simp [*]; done)), (by first | rfl | (simp; done) | (simp [*]; done)), (by first | rfl | (simp; done) | (simp [*]; done)), H', ⟨by have := HK1.out; have := HJ3.out; omega⟩, ⟨by (with_reducible repeat (first | apply Kd.R_alloc | apply Kd.R_drewN | apply Kd.R_drew)); exact HO_3.out⟩, ⟨by repeat (first | (with_reducible first | exact HB.out | apply below_alloc | apply pw_below_drewN | apply below_drew1 | refine below_set ?_ GE243.out) | exact HB.out)⟩⟩
              · replace c18 := Bool.eq_false_iff.mpr c18
                subst c18
                have H1 : (if x4_1 = true then (if ((rd_T55 l0 x6_1).f0) = 1 then (if ((rd_T55 l0 x6_1).f3) = x5_1 then (if ((rd_T55 l0 x6_1).f0) = 10 then (trickleref55_Updates.j2 kj3 l0 x3_1 x6_1 (decide (((rd_T55 l0 x6_1).f3) ≤ x5_1)) ((rd_T55 l0 x6_1).f0) ((rd_T55 l0 x6_1).f1) ((rd_T55 l0 x6_1).f2) ((rd_T55 l0 x6_1).f3) ((rd_T55 l0 x6_1).f4) ((rd_T55 l0 x6_1).f5)) else (trickleref55_Updates.j2 kj3 l0 x3_1 x6_1 false ((rd_T55 l0 x6_1).f0) ((rd_T55 l0 x6_1).f1) ((rd_T55 l0 x6_1).f2) ((rd_T55 l0 x6_1).f3) ((rd_T55 l0 x6_1).f4) ((rd_T55 l0 x6_1).f5))) else (trickleref55_Updates.j2 kj3 l0 x3_1 x6_1 true ((rd_T55 l0 x6_1).f0) ((rd_T55 l0 x6_1).f1) ((rd_T55 l0 x6_1).f2) ((rd_T55 l0 x6_1).f3) ((rd_T55 l0 x6_1).f4) ((rd_T55 l0 x6_1).f5))) else (if ((rd_T55 l0 x6_1).f0) = 10 then (trickleref55_Updates.j2 kj3 l0 x3_1 x6_1 (decide (((rd_T55 l0 x6_1).f3) ≤ x5_1)) ((rd_T55 l0 x6_1).f0) ((rd_T55 l0 x6_1).f1) ((rd_T55 l0 x6_1).f2) ((rd_T55 l0 x6_1).f3) ((rd_T55 l0 x6_1).f4) ((rd_T55 l0 x6_1).f5)) else (trickleref55_Updates.j2 kj3 l0 x3_1 x6_1 false ((rd_T55 l0 x6_1).f0) ((rd_T55 l0 x6_1).f1) ((rd_T55 l0 x6_1).f2) ((rd_T55 l0 x6_1).f3) ((rd_T55 l0 x6_1).f4) ((rd_T55 l0 x6_1).f5)))) else (trickleref55_Updates.j2 kj3 l0 x3_1 x6_1 false ((rd_T55 l0 x6_1).f0) ((rd_T55 l0 x6_1).f1) ((rd_T55 l0 x6_1).f2) ((rd_T55 l0 x6_1).f3) ((rd_T55 l0 x6_1).f4) ((rd_T55 l0 x6_1).f5))) = some r := by rw [if_neg (show ¬ (false = true) by decide)] at H; exact H
                clear H
                have H := H1
                clear H1
                have HC19 := Aside0.mk H
                clear H
                go_upto_region 9 with (fail)
                go_cut [53] (fun v53 wc => ∃ (kq : Nat) (x53_18 : Bool), v53 = .bool x53_18 ∧ Aside0 (trickleref55_Updates.j2 kq l0 x3_1 x6_1 x53_18 ((rd_T55 l0 x6_1).f0) ((rd_T55 l0 x6_1).f1) ((rd_T55 l0 x6_1).f2) ((rd_T55 l0 x6_1).f3) ((rd_T55 l0 x6_1).f4) ((rd_T55 l0 x6_1).f5) = some r) ∧ Aside0 (kq ≤ kj3) ∧ Aside0 (Kd.R k33 33 wc w.heap.size (fun _ => True) u3 x3_1) ∧ Aside0 (wc.heap[gb243]? = some (.cells #[.int .i64 ((rd_T55 l0 x6_1).f0), .int .i64 ((rd_T55 l0 x6_1).f1), .int .i64 ((rd_T55 l0 x6_1).f2), .int .i64 ((rd_T55 l0 x6_1).f3), .int .i16 ((rd_T55 l0 x6_1).f4), .int .i64 ((rd_T55 l0 x6_1).f5)] 55 (0, 0))) ∧ Aside0 (Below w.heap.size w wc))
                case first =>
                  have H := HC19.out
                  clear HC19
                  by_cases c20 : x4_1 = true
                  · subst c20
                    have H1 : (if ((rd_T55 l0 x6_1).f0) = 1 then (if ((rd_T55 l0 x6_1).f3) = x5_1 then (if ((rd_T55 l0 x6_1).f0) = 10 then (trickleref55_Updates.j2 kj3 l0 x3_1 x6_1 (decide (((rd_T55 l0 x6_1).f3) ≤ x5_1)) ((rd_T55 l0 x6_1).f0) ((rd_T55 l0 x6_1).f1) ((rd_T55 l0 x6_1).f2) ((rd_T55 l0 x6_1).f3) ((rd_T55 l0 x6_1).f4) ((rd_T55 l0 x6_1).f5)) else (trickleref55_Updates.j2 kj3 l0 x3_1 x6_1 false ((rd_T55 l0 x6_1).f0) ((rd_T55 l0 x6_1).f1) ((rd_T55 l0 x6_1).f2) ((rd_T55 l0 x6_1).f3) ((rd_T55 l0 x6_1).f4) ((rd_T55 l0 x6_1).f5))) else (trickleref55_Updates.j2 kj3 l0 x3_1 x6_1 true ((rd_T55 l0 x6_1).f0) ((rd_T55 l0 x6_1).f1) ((rd_T55 l0 x6_1).f2) ((rd_T55 l0 x6_1).f3) ((rd_T55 l0 x6_1).f4) ((rd_T55 l0 x6_1).f5))) else (if ((rd_T55 l0 x6_1).f0) = 10 then (trickleref55_Updates.j2 kj3 l0 x3_1 x6_1 (decide (((rd_T55 l0 x6_1).f3) ≤ x5_1)) ((rd_T55 l0 x6_1).f0) ((rd_T55 l0 x6_1).f1) ((rd_T55 l0 x6_1).f2) ((rd_T55 l0 x6_1).f3) ((rd_T55 l0 x6_1).f4) ((rd_T55 l0 x6_1).f5)) else (trickleref55_Updates.j2 kj3 l0 x3_1 x6_1 false ((rd_T55 l0 x6_1).f0) ((rd_T55 l0 x6_1).f1) ((rd_T55 l0 x6_1).f2) ((rd_T55 l0 x6_1).f3) ((rd_T55 l0 x6_1).f4) ((rd_T55 l0 x6_1).f5)))) = some r := by rw [if_pos rfl] at H; exact H
                    clear H
                    have H := H1
                    clear H1
                    by_cases c21 : ((rd_T55 l0 x6_1).f0) = 1
                    · rw [if_pos c21] at H
                      have c21b0 : (((rd_T55 l0 x6_1).f0) == 1) = true := beq_iff_eq.mpr c21
                      have c21b1 : (((rd_T55 l0 x6_1).f0) != 1) = false := bne_eq_false_iff_eq.mpr c21
                      clear c21
                      (first | rw [c21b0] | (simp only [i64_w, i32_w]; rw [c21b0]) | skip)
                      by_cases c22 : ((rd_T55 l0 x6_1).f3) = x5_1
                      · rw [if_pos c22] at H
                        have c22b0 : (((rd_T55 l0 x6_1).f3) == x5_1) = true := beq_iff_eq.mpr c22
                        have c22b1 : (((rd_T55 l0 x6_1).f3) != x5_1) = false := bne_eq_false_iff_eq.mpr c22
                        clear c22
                        by_cases c23 : ((rd_T55 l0 x6_1).f0) = 10
                        · rw [if_pos c23] at H
                          have c23b0 : (((rd_T55 l0 x6_1).f0) == 10) = true := beq_iff_eq.mpr c23
                          have c23b1 : (((rd_T55 l0 x6_1).f0) != 10) = false := bne_eq_false_iff_eq.mpr c23
                          clear c23
                          have H' := Aside0.mk H
                          clear H
                          have hcz24_0 : wc.cell? ⟨gb243, 0, none⟩ = some (.int .i64 ((rd_T55 l0 x6_1).f0)) := (blk_cell BK243.out 0).trans rfl
                          have hcz24_1 : wc.cell? ⟨gb243, 1, none⟩ = some (.int .i64 ((rd_T55 l0 x6_1).f1)) := (blk_cell BK243.out 1).trans rfl
                          have hcz24_2 : wc.cell? ⟨gb243, 2, none⟩ = some (.int .i64 ((rd_T55 l0 x6_1).f2)) := (blk_cell BK243.out 2).trans rfl
                          have hcz24_3 : wc.cell? ⟨gb243, 3, none⟩ = some (.int .i64 ((rd_T55 l0 x6_1).f3)) := (blk_cell BK243.out 3).trans rfl
                          have hcz24_4 : wc.cell? ⟨gb243, 4, none⟩ = some (.int .i16 ((rd_T55 l0 x6_1).f4)) := (blk_cell BK243.out 4).trans rfl
                          have hcz24_5 : wc.cell? ⟨gb243, 5, none⟩ = some (.int .i64 ((rd_T55 l0 x6_1).f5)) := (blk_cell BK243.out 5).trans rfl
                          have hfz24_0 := blk_frozen BK243.out 0
                          have hfz24_1 := blk_frozen BK243.out 1
                          have hfz24_2 := blk_frozen BK243.out 2
                          have hfz24_3 := blk_frozen BK243.out 3
                          have hfz24_4 := blk_frozen BK243.out 4
                          have hfz24_5 := blk_frozen BK243.out 5
                          go_wp2
                          go_meet
                          case rel => exact ⟨_, (decide (((rd_T55 l0 x6_1).f3) ≤ x5_1)), (by first | rfl | (simp; done) | (simp [*]; done)), H', ⟨by have := HK1.out; have := HJ3.out; first | omega | exact Nat.le_refl _⟩, ⟨by (with_reducible repeat (first | apply Kd.R_alloc | apply Kd.R_drewN | apply Kd.R_drew)); exact HO_3.out⟩, ⟨by (with_reducible repeat (first | refine blk_drewN ?_ _ | refine blk_drew ?_ | refine blk_alloc ?_ _)); exact BK243.out⟩, ⟨by repeat (first | (with_reducible first | exact HB.out | apply below_alloc | apply pw_below_drewN | apply below_drew1 | refine below_set ?_ GE243.out) | exact HB.out)⟩⟩
                        · rw [if_neg c23] at H
                          have c23b0 : (((rd_T55 l0 x6_1).f0) == 10) = false := beq_eq_false_iff_ne.mpr c23
                          have c23b1 : (((rd_T55 l0 x6_1).f0) != 10) = true := bne_iff_ne.mpr c23
                          have H' := Aside0.mk H
                          clear H
                          have hcz25_0 : wc.cell? ⟨gb243, 0, none⟩ = some (.int .i64 ((rd_T55 l0 x6_1).f0)) := (blk_cell BK243.out 0).trans rfl
                          have hcz25_1 : wc.cell? ⟨gb243, 1, none⟩ = some (.int .i64 ((rd_T55 l0 x6_1).f1)) := (blk_cell BK243.out 1).trans rfl
                          have hcz25_2 : wc.cell? ⟨gb243, 2, none⟩ = some (.int .i64 ((rd_T55 l0 x6_1).f2)) := (blk_cell BK243.out 2).trans rfl
                          have hcz25_3 : wc.cell? ⟨gb243, 3, none⟩ = some (.int .i64 ((rd_T55 l0 x6_1).f3)) := (blk_cell BK243.out 3).trans rfl
                          have hcz25_4 : wc.cell? ⟨gb243, 4, none⟩ = some (.int .i16 ((rd_T55 l0 x6_1).f4)) := (blk_cell BK243.out 4).trans rfl
                          have hcz25_5 : wc.cell? ⟨gb243, 5, none⟩ = some (.int .i64 ((rd_T55 l0 x6_1).f5)) := (blk_cell BK243.out 5).trans rfl
                          have hfz25_0 := blk_frozen BK243.out 0
                          have hfz25_1 := blk_frozen BK243.out 1
                          have hfz25_2 := blk_frozen BK243.out 2
                          have hfz25_3 := blk_frozen BK243.out 3
                          have hfz25_4 := blk_frozen BK243.out 4
                          have hfz25_5 := blk_frozen BK243.out 5
                          go_wp2
                          go_meet
                          case rel => exact ⟨_, (false), (by first | rfl | (simp; done) | (simp [*]; done)), H', ⟨by have := HK1.out; have := HJ3.out; first | omega | exact Nat.le_refl _⟩, ⟨by (with_reducible repeat (first | apply Kd.R_alloc | apply Kd.R_drewN | apply Kd.R_drew)); exact HO_3.out⟩, ⟨by (with_reducible repeat (first | refine blk_drewN ?_ _ | refine blk_drew ?_ | refine blk_alloc ?_ _)); exact BK243.out⟩, ⟨by repeat (first | (with_reducible first | exact HB.out | apply below_alloc | apply pw_below_drewN | apply below_drew1 | refine below_set ?_ GE243.out) | exact HB.out)⟩⟩
                      · rw [if_neg c22] at H
                        have c22b0 : (((rd_T55 l0 x6_1).f3) == x5_1) = false := beq_eq_false_iff_ne.mpr c22
                        have c22b1 : (((rd_T55 l0 x6_1).f3) != x5_1) = true := bne_iff_ne.mpr c22
                        have H' := Aside0.mk H
                        clear H
                        have hcz26_0 : wc.cell? ⟨gb243, 0, none⟩ = some (.int .i64 ((rd_T55 l0 x6_1).f0)) := (blk_cell BK243.out 0).trans rfl
                        have hcz26_1 : wc.cell? ⟨gb243, 1, none⟩ = some (.int .i64 ((rd_T55 l0 x6_1).f1)) := (blk_cell BK243.out 1).trans rfl
                        have hcz26_2 : wc.cell? ⟨gb243, 2, none⟩ = some (.int .i64 ((rd_T55 l0 x6_1).f2)) := (blk_cell BK243.out 2).trans rfl
                        have hcz26_3 : wc.cell? ⟨gb243, 3, none⟩ = some (.int .i64 ((rd_T55 l0 x6_1).f3)) := (blk_cell BK243.out 3).trans rfl
                        have hcz26_4 : wc.cell? ⟨gb243, 4, none⟩ = some (.int .i16 ((rd_T55 l0 x6_1).f4)) := (blk_cell BK243.out 4).trans rfl
                        have hcz26_5 : wc.cell? ⟨gb243, 5, none⟩ = some (.int .i64 ((rd_T55 l0 x6_1).f5)) := (blk_cell BK243.out 5).trans rfl
                        have hfz26_0 := blk_frozen BK243.out 0
                        have hfz26_1 := blk_frozen BK243.out 1
                        have hfz26_2 := blk_frozen BK243.out 2
                        have hfz26_3 := blk_frozen BK243.out 3
                        have hfz26_4 := blk_frozen BK243.out 4
                        have hfz26_5 := blk_frozen BK243.out 5
                        go_wp2
                        go_meet
                        case rel => exact ⟨_, (true), (by first | rfl | (simp; done) | (simp [*]; done)), H', ⟨by have := HK1.out; have := HJ3.out; first | omega | exact Nat.le_refl _⟩, ⟨by (with_reducible repeat (first | apply Kd.R_alloc | apply Kd.R_drewN | apply Kd.R_drew)); exact HO_3.out⟩, ⟨by (with_reducible repeat (first | refine blk_drewN ?_ _ | refine blk_drew ?_ | refine blk_alloc ?_ _)); exact BK243.out⟩, ⟨by repeat (first | (with_reducible first | exact HB.out | apply below_alloc | apply pw_below_drewN | apply below_drew1 | refine below_set ?_ GE243.out) | exact HB.out)⟩⟩
                    · rw [if_neg c21] at H
                      have c21b0 : (((rd_T55 l0 x6_1).f0) == 1) = false := beq_eq_false_iff_ne.mpr c21
                      have c21b1 : (((rd_T55 l0 x6_1).f0) != 1) = true := bne_iff_ne.mpr c21
                      (first | rw [c21b0] | (simp only [i64_w, i32_w]; rw [c21b0]) | skip)
                      by_cases c27 : ((rd_T55 l0 x6_1).f0) = 10
                      · rw [if_pos c27] at H
                        have c27b0 : (((rd_T55 l0 x6_1).f0) == 10) = true := beq_iff_eq.mpr c27
                        have c27b1 : (((rd_T55 l0 x6_1).f0) != 10) = false := bne_eq_false_iff_eq.mpr c27
                        clear c27
                        have H' := Aside0.mk H
                        clear H
                        have hcz28_0 : wc.cell? ⟨gb243, 0, none⟩ = some (.int .i64 ((rd_T55 l0 x6_1).f0)) := (blk_cell BK243.out 0).trans rfl
                        have hcz28_1 : wc.cell? ⟨gb243, 1, none⟩ = some (.int .i64 ((rd_T55 l0 x6_1).f1)) := (blk_cell BK243.out 1).trans rfl
                        have hcz28_2 : wc.cell? ⟨gb243, 2, none⟩ = some (.int .i64 ((rd_T55 l0 x6_1).f2)) := (blk_cell BK243.out 2).trans rfl
                        have hcz28_3 : wc.cell? ⟨gb243, 3, none⟩ = some (.int .i64 ((rd_T55 l0 x6_1).f3)) := (blk_cell BK243.out 3).trans rfl
                        have hcz28_4 : wc.cell? ⟨gb243, 4, none⟩ = some (.int .i16 ((rd_T55 l0 x6_1).f4)) := (blk_cell BK243.out 4).trans rfl
                        have hcz28_5 : wc.cell? ⟨gb243, 5, none⟩ = some (.int .i64 ((rd_T55 l0 x6_1).f5)) := (blk_cell BK243.out 5).trans rfl
                        have hfz28_0 := blk_frozen BK243.out 0
                        have hfz28_1 := blk_frozen BK243.out 1
                        have hfz28_2 := blk_frozen BK243.out 2
                        have hfz28_3 := blk_frozen BK243.out 3
                        have hfz28_4 := blk_frozen BK243.out 4
                        have hfz28_5 := blk_frozen BK243.out 5
                        go_wp2
                        go_meet
                        case rel => exact ⟨_, (decide (((rd_T55 l0 x6_1).f3) ≤ x5_1)), (by first | rfl | (simp; done) | (simp [*]; done)), H', ⟨by have := HK1.out; have := HJ3.out; first | omega | exact Nat.le_refl _⟩, ⟨by (with_reducible repeat (first | apply Kd.R_alloc | apply Kd.R_drewN | apply Kd.R_drew)); exact HO_3.out⟩, ⟨by (with_reducible repeat (first | refine blk_drewN ?_ _ | refine blk_drew ?_ | refine blk_alloc ?_ _)); exact BK243.out⟩, ⟨by repeat (first | (with_reducible first | exact HB.out | apply below_alloc | apply pw_below_drewN | apply below_drew1 | refine below_set ?_ GE243.out) | exact HB.out)⟩⟩
                      · rw [if_neg c27] at H
                        have c27b0 : (((rd_T55 l0 x6_1).f0) == 10) = false := beq_eq_false_iff_ne.mpr c27
                        have c27b1 : (((rd_T55 l0 x6_1).f0) != 10) = true := bne_iff_ne.mpr c27
                        have H' := Aside0.mk H
                        clear H
                        have hcz29_0 : wc.cell? ⟨gb243, 0, none⟩ = some (.int .i64 ((rd_T55 l0 x6_1).f0)) := (blk_cell BK243.out 0).trans rfl
                        have hcz29_1 : wc.cell? ⟨gb243, 1, none⟩ = some (.int .i64 ((rd_T55 l0 x6_1).f1)) := (blk_cell BK243.out 1).trans rfl
                        have hcz29_2 : wc.cell? ⟨gb243, 2, none⟩ = some (.int .i64 ((rd_T55 l0 x6_1).f2)) := (blk_cell BK243.out 2).trans rfl
                        have hcz29_3 : wc.cell? ⟨gb243, 3, none⟩ = some (.int .i64 ((rd_T55 l0 x6_1).f3)) := (blk_cell BK243.out 3).trans rfl
                        have hcz29_4 : wc.cell? ⟨gb243, 4, none⟩ = some (.int .i16 ((rd_T55 l0 x6_1).f4)) := (blk_cell BK243.out 4).trans rfl
                        have hcz29_5 : wc.cell? ⟨gb243, 5, none⟩ = some (.int .i64 ((rd_T55 l0 x6_1).f5)) := (blk_cell BK243.out 5).trans rfl
                        have hfz29_0 := blk_frozen BK243.out 0
                        have hfz29_1 := blk_frozen BK243.out 1
                        have hfz29_2 := blk_frozen BK243.out 2
                        have hfz29_3 := blk_frozen BK243.out 3
                        have hfz29_4 := blk_frozen BK243.out 4
                        have hfz29_5 := blk_frozen BK243.out 5
                        go_wp2
                        go_meet
                        case rel => exact ⟨_, (false), (by first | rfl | (simp; done) | (simp [*]; done)), H', ⟨by have := HK1.out; have := HJ3.out; first | omega | exact Nat.le_refl _⟩, ⟨by (with_reducible repeat (first | apply Kd.R_alloc | apply Kd.R_drewN | apply Kd.R_drew)); exact HO_3.out⟩, ⟨by (with_reducible repeat (first | refine blk_drewN ?_ _ | refine blk_drew ?_ | refine blk_alloc ?_ _)); exact BK243.out⟩, ⟨by repeat (first | (with_reducible first | exact HB.out | apply below_alloc | apply pw_below_drewN | apply below_drew1 | refine below_set ?_ GE243.out) | exact HB.out)⟩⟩
                  · replace c20 := Bool.eq_false_iff.mpr c20
                    subst c20
                    have H1 : (trickleref55_Updates.j2 kj3 l0 x3_1 x6_1 false ((rd_T55 l0 x6_1).f0) ((rd_T55 l0 x6_1).f1) ((rd_T55 l0 x6_1).f2) ((rd_T55 l0 x6_1).f3) ((rd_T55 l0 x6_1).f4) ((rd_T55 l0 x6_1).f5)) = some r := by rw [if_neg (show ¬ (false = true) by decide)] at H; exact H
                    clear H
                    have H := H1
                    clear H1
                    have H' := Aside0.mk H
                    clear H
                    go_wp2
                    go_meet
                    case rel => exact ⟨_, (false), (by first | rfl | (simp; done) | (simp [*]; done)), H', ⟨by have := HK1.out; have := HJ3.out; first | omega | exact Nat.le_refl _⟩, ⟨by (with_reducible repeat (first | apply Kd.R_alloc | apply Kd.R_drewN | apply Kd.R_drew)); exact HO_3.out⟩, ⟨by (with_reducible repeat (first | refine blk_drewN ?_ _ | refine blk_drew ?_ | refine blk_alloc ?_ _)); exact BK243.out⟩, ⟨by repeat (first | (with_reducible first | exact HB.out | apply below_alloc | apply pw_below_drewN | apply below_drew1 | refine below_set ?_ GE243.out) | exact HB.out)⟩⟩
                case rest =>
                  clear HC19
                  try clear c1
                  try clear c2
                  try clear c2b0
                  try clear p2
                  try clear q2
                  try clear hx2
                  try clear c3
                  try clear c3b0
                  try clear p6
                  try clear c8
                  try clear c9
                  try clear c9b0
                  try clear c9b1
                  try clear c14
                  try clear c18
                  try clear c20
                  try clear c21
                  try clear c21b0
                  try clear c21b1
                  try clear c22
                  try clear c22b0
                  try clear c22b1
                  try clear c23
                  try clear c23b0
                  try clear c23b1
                  try clear p24
                  try clear q24
                  try clear hx24
                  try clear c27
                  try clear c27b0
                  try clear c27b1
                  try clear c28
                  try clear hcz10_0
                  try clear hcz10_1
                  try clear hcz10_2
                  try clear hcz10_3
                  try clear hcz10_4
                  try clear hcz10_5
                  try clear hcz12_0
                  try clear hcz12_1
                  try clear hcz12_2
                  try clear hcz12_3
                  try clear hcz12_4
                  try clear hcz12_5
                  try clear hcz13_0
                  try clear hcz13_1
                  try clear hcz13_2
                  try clear hcz13_3
                  try clear hcz13_4
                  try clear hcz13_5
                  try clear hcz15_0
                  try clear hcz15_1
                  try clear hcz15_2
                  try clear hcz15_3
                  try clear hcz15_4
                  try clear hcz15_5
                  try clear hcz16_0
                  try clear hcz16_1
                  try clear hcz16_2
                  try clear hcz16_3
                  try clear hcz16_4
                  try clear hcz16_5
                  try clear hcz24_0
                  try clear hcz24_1
                  try clear hcz24_2
                  try clear hcz24_3
                  try clear hcz24_4
                  try clear hcz24_5
                  try clear hcz25_0
                  try clear hcz25_1
                  try clear hcz25_2
                  try clear hcz25_3
                  try clear hcz25_4
                  try clear hcz25_5
                  try clear hcz26_0
                  try clear hcz26_1
                  try clear hcz26_2
                  try clear hcz26_3
                  try clear hcz26_4
                  try clear hcz26_5
                  try clear hcz28_0
                  try clear hcz28_1
                  try clear hcz28_2
                  try clear hcz28_3
                  try clear hcz28_4
                  try clear hcz28_5
                  try clear hcz29_0
                  try clear hcz29_1
                  try clear hcz29_2
                  try clear hcz29_3
                  try clear hcz29_4
                  try clear hcz29_5
                  try clear hcz6_0
                  try clear hcz6_1
                  try clear hcz6_2
                  try clear hcz6_3
                  try clear hcz6_4
                  try clear hcz6_5
                  try clear hfz10_0
                  try clear hfz10_1
                  try clear hfz10_2
                  try clear hfz10_3
                  try clear hfz10_4
                  try clear hfz10_5
                  try clear hfz12_0
                  try clear hfz12_1
                  try clear hfz12_2
                  try clear hfz12_3
                  try clear hfz12_4
                  try clear hfz12_5
                  try clear hfz13_0
                  try clear hfz13_1
                  try clear hfz13_2
                  try clear hfz13_3
                  try clear hfz13_4
                  try clear hfz13_5
                  try clear hfz15_0
                  try clear hfz15_1
                  try clear hfz15_2
                  try clear hfz15_3
                  try clear hfz15_4
                  try clear hfz15_5
                  try clear hfz16_0
                  try clear hfz16_1
                  try clear hfz16_2
                  try clear hfz16_3
                  try clear hfz16_4
                  try clear hfz16_5
                  try clear hfz24_0
                  try clear hfz24_1
                  try clear hfz24_2
                  try clear hfz24_3
                  try clear hfz24_4
                  try clear hfz24_5
                  try clear hfz25_0
                  try clear hfz25_1
                  try clear hfz25_2
                  try clear hfz25_3
                  try clear hfz25_4
                  try clear hfz25_5
                  try clear hfz26_0
                  try clear hfz26_1
                  try clear hfz26_2
                  try clear hfz26_3
                  try clear hfz26_4
                  try clear hfz26_5
                  try clear hfz28_0
                  try clear hfz28_1
                  try clear hfz28_2
                  try clear hfz28_3
                  try clear hfz28_4
                  try clear hfz28_5
                  try clear hfz29_0
                  try clear hfz29_1
                  try clear hfz29_2
                  try clear hfz29_3
                  try clear hfz29_4
                  try clear hfz29_5
                  try clear hfz6_0
                  try clear hfz6_1
                  try clear hfz6_2
                  try clear hfz6_3
                  try clear hfz6_4
                  try clear hfz6_5
                  try clear hx242_0
                  try clear hx242_1
                  try clear hx242_2
                  try clear hx242_3
                  try clear hx242_4
                  try clear hx242_5
                  try clear p2
                  try clear p242
                  try clear q2
                  try clear q242
                  obtain ⟨kq, x53_18, rfl, HA, HJ18, HO_3, BK243, HB⟩ := hcut
                  cases kq with
                  | zero => exact absurd HA.out (by simp [trickleref55_Updates.j2])
                  | succ kj18 =>
                    have H := HA.out
                    clear HA
                    simp only [trickleref55_Updates.j2] at H
                    by_cases c30 : x53_18 = true
                    · subst c30
                      have H1 : (if x3_1.length < 8796093022208 then (trickleref55_Updates.l0 kj18 l0 (x3_1 ++ [(⟨x6_1, 5⟩ : S33)]) true ((rd_T55 l0 x6_1).f3) (wrap64 (x6_1 + 1))) else (none)) = some r := by rw [if_pos rfl] at H; exact H
                      clear H
                      have H := H1
                      clear H1
                      by_cases c31 : x3_1.length < 8796093022208
                      · rw [if_pos c31] at H
                        have LMc31 := Aside0.mk c31
                        clear c31
                        obtain ⟨y245, hy245⟩ : ∃ y_ : List (S33), y_ = (x3_1 ++ [(⟨x6_1, 5⟩ : S33)]) := ⟨_, rfl⟩
                        replace H : (trickleref55_Updates.l0 kj18 l0 y245 true ((rd_T55 l0 x6_1).f3) (wrap64 (x6_1 + 1))) = some r := by first | (rw [hy245]; with_reducible exact H) | (have H2_ := (Option.bind_some _ _).symm.trans H; rw [hy245]; with_reducible exact H2_) | (have H2_ := (Option.bind_some _ _).symm.trans H; with_reducible exact H2_) | with_reducible exact H | (rw [hy245]; exact H) | exact H
                        have Ny245 := Aside0.mk hy245
                        clear hy245
                        have H' := Aside0.mk H
                        clear H
                        go_wp2_with (first | ((with_reducible refine gate_builtin (b := .append) (xs := #[.tmp 54, .tmp 57]) rfl ?_); at_builtin; refine Kd.R_append k33 (w0 := w) w.heap.size rfl (.tmp 54) (.tmp 57) 25 33 (.agg #[(.int .i64 0), (.int .i64 0)]) 16 rfl Tryd.underlying25 info33 rfl (by decide) (by omega) u3 x3_1 (⟨x6_1, 5⟩ : S33) [.int .i64 x6_1, .int .i64 5] (fun _ => True) (fun _ => False) rfl rfl ?aP (fun _ hk => hk.elim) ?aF ?aO ?aB ?aS ?aL ?_; (case aP => exact k33_mkM _ _ _ (⟨x6_1, 5⟩ : S33)); (case aB => exact (by repeat (first | (with_reducible first | exact HB.out | apply below_alloc | apply pw_below_drewN | apply below_drew1 | refine below_set ?_ GE243.out) | exact HB.out))); (case aF => exact (fun _ _ => trivial)); (case aO => exact (by (with_reducible repeat (first | apply Kd.R_alloc | apply Kd.R_drewN | apply Kd.R_drew)); exact HO_3.out)); (case aS => exact (below_size (by repeat (first | (with_reducible first | exact HB.out | apply below_alloc | apply pw_below_drewN | apply below_drew1 | refine below_set ?_ GE243.out) | exact HB.out)))); (case aL => have := LMc31.out; omega); intro v246 w32 ho hb hg hat; rw [← Ny245.out] at ho; have n0_ := Aside0.mk (blk_grown (g := gb243) (o := .cells #[.int .i64 ((rd_T55 l0 x6_1).f0), .int .i64 ((rd_T55 l0 x6_1).f1), .int .i64 ((rd_T55 l0 x6_1).f2), .int .i64 ((rd_T55 l0 x6_1).f3), .int .i16 ((rd_T55 l0 x6_1).f4), .int .i64 ((rd_T55 l0 x6_1).f5)] 55 (0, 0)) (by (with_reducible repeat (first | refine blk_drewN ?_ _ | refine blk_drew ?_ | refine blk_alloc ?_ _)); exact BK243.out) hg (Kd.R_ne HO_3.out BK243.out (by decide))); have n1_ := Aside0.mk (hb); have n2_ := Aside0.mk (ho); clear BK243; clear HB; clear HO_3; have BK243 := n0_; have HB := n1_; have HO247 := n2_; clear n0_ n1_ n2_; clear ho hb hg hat; have hcz33_0 : w32.cell? ⟨gb243, 0, none⟩ = some (.int .i64 ((rd_T55 l0 x6_1).f0)) := (blk_cell BK243.out 0).trans rfl; have hcz33_1 : w32.cell? ⟨gb243, 1, none⟩ = some (.int .i64 ((rd_T55 l0 x6_1).f1)) := (blk_cell BK243.out 1).trans rfl; have hcz33_2 : w32.cell? ⟨gb243, 2, none⟩ = some (.int .i64 ((rd_T55 l0 x6_1).f2)) := (blk_cell BK243.out 2).trans rfl; have hcz33_3 : w32.cell? ⟨gb243, 3, none⟩ = some (.int .i64 ((rd_T55 l0 x6_1).f3)) := (blk_cell BK243.out 3).trans rfl; have hcz33_4 : w32.cell? ⟨gb243, 4, none⟩ = some (.int .i16 ((rd_T55 l0 x6_1).f4)) := (blk_cell BK243.out 4).trans rfl; have hcz33_5 : w32.cell? ⟨gb243, 5, none⟩ = some (.int .i64 ((rd_T55 l0 x6_1).f5)) := (blk_cell BK243.out 5).trans rfl; have hfz33_0 := blk_frozen BK243.out 0; have hfz33_1 := blk_frozen BK243.out 1; have hfz33_2 := blk_frozen BK243.out 2; have hfz33_3 := blk_frozen BK243.out 3; have hfz33_4 := blk_frozen BK243.out 4; have hfz33_5 := blk_frozen BK243.out 5))
                        go_roundg kj18
                        case measure => have := HK1.out; have := HJ3.out; have := HJ18.out; omega
                        case rel => exact ⟨(y245), (true), (((rd_T55 l0 x6_1).f3)), (wrap64 (x6_1 + 1)), (by first | rfl | (simp; done) | (simp [*]; done)), (by first | rfl | (simp; done) | (simp [*]; done)), (by first | rfl | (simp; done) | (simp [*]; done)), H', ⟨by have := HK1.out; have := HJ3.out; have := HJ18.out; omega⟩, ⟨by (with_reducible repeat (first | apply Kd.R_alloc | apply Kd.R_drewN | apply Kd.R_drew)); exact HO247.out⟩, ⟨by repeat (first | (with_reducible first | exact HB.out | apply below_alloc | apply pw_below_drewN | apply below_drew1 | refine below_set ?_ GE243.out) | exact HB.out)⟩⟩
                      · rw [if_neg c31] at H
                        exact absurd H (by simp)
                    · replace c30 := Bool.eq_false_iff.mpr c30
                      subst c30
                      have H1 : (trickleref55_Updates.l0 kj18 l0 x3_1 true ((rd_T55 l0 x6_1).f3) (wrap64 (x6_1 + 1))) = some r := by rw [if_neg (show ¬ (false = true) by decide)] at H; exact H
                      clear H
                      have H := H1
                      clear H1
                      have H' := Aside0.mk H
                      clear H
                      have hcz34_0 : wc.cell? ⟨gb243, 0, none⟩ = some (.int .i64 ((rd_T55 l0 x6_1).f0)) := (blk_cell BK243.out 0).trans rfl
                      have hcz34_1 : wc.cell? ⟨gb243, 1, none⟩ = some (.int .i64 ((rd_T55 l0 x6_1).f1)) := (blk_cell BK243.out 1).trans rfl
                      have hcz34_2 : wc.cell? ⟨gb243, 2, none⟩ = some (.int .i64 ((rd_T55 l0 x6_1).f2)) := (blk_cell BK243.out 2).trans rfl
                      have hcz34_3 : wc.cell? ⟨gb243, 3, none⟩ = some (.int .i64 ((rd_T55 l0 x6_1).f3)) := (blk_cell BK243.out 3).trans rfl
                      have hcz34_4 : wc.cell? ⟨gb243, 4, none⟩ = some (.int .i16 ((rd_T55 l0 x6_1).f4)) := (blk_cell BK243.out 4).trans rfl
                      have hcz34_5 : wc.cell? ⟨gb243, 5, none⟩ = some (.int .i64 ((rd_T55 l0 x6_1).f5)) := (blk_cell BK243.out 5).trans rfl
                      have hfz34_0 := blk_frozen BK243.out 0
                      have hfz34_1 := blk_frozen BK243.out 1
                      have hfz34_2 := blk_frozen BK243.out 2
                      have hfz34_3 := blk_frozen BK243.out 3
                      have hfz34_4 := blk_frozen BK243.out 4
                      have hfz34_5 := blk_frozen BK243.out 5
                      go_wp2
                      go_roundg kj18
                      case measure => have := HK1.out; have := HJ3.out; have := HJ18.out; omega
                      case rel => exact ⟨(x3_1), (true), (((rd_T55 l0 x6_1).f3)), (wrap64 (x6_1 + 1)), (by first | rfl | (simp; done) | (simp [*]; done)), (by first | rfl | (simp; done) | (simp [*]; done)), (by first | rfl | (simp; done) | (simp [*]; done)), H', ⟨by have := HK1.out; have := HJ3.out; have := HJ18.out; omega⟩, ⟨by (with_reducible repeat (first | apply Kd.R_alloc | apply Kd.R_drewN | apply Kd.R_drew)); exact HO_3.out⟩, ⟨by repeat (first | (with_reducible first | exact HB.out | apply below_alloc | apply pw_below_drewN | apply below_drew1 | refine below_set ?_ GE243.out) | exact HB.out)⟩⟩
        · rw [if_neg c3] at H
          exact absurd H (by simp)
      · rw [if_neg c2] at H
        have c2b0 : decide (x6_1 < (l0.length : Int)) = false := decide_eq_false c2
        clear c2
        obtain rfl := Option.some.inj H
        go_wp2
        go_ret
        exact ⟨_, by first | rfl | (simp [errW_none, errW_some] <;> rfl) | (simp [*, errW_none, errW_some] <;> rfl), by (with_reducible repeat (first | apply Kd.R_alloc | apply Kd.R_drewN | apply Kd.R_drew)); exact HO_3.out, by repeat (first | (with_reducible first | exact HB.out | apply below_alloc | apply pw_below_drewN | apply below_drew1) | exact HB.out)⟩

/-! ### tricklelaw55_VerifyUpdates: function 4 -/
def tricklelaw55_VerifyUpdates.f (k : Nat) (l0 : List (S55)) : Option (Bool) := (tricklelaw55_wakes.f).bind fun t248 => (if t248 = true then (if (l0.length : Int) > 90 then (some true) else ((verify_Updates.f k l0).bind fun t249 => ((tricklelaw55_plain.f k t249).bind fun t252 => ((trickleref55_Updates.f k l0).bind fun t255 => ((trickleref55_Same.f k t252 t255).bind fun t258 => (some t258)))))) else (some false))
theorem tricklelaw55_VerifyUpdates.mono : ∀ a0 k, LeO (tricklelaw55_VerifyUpdates.f k a0) (tricklelaw55_VerifyUpdates.f (k + 1) a0) := by
  intro a0 k
  unfold tricklelaw55_VerifyUpdates.f
  repeat' first
      | (with_reducible exact tricklelaw55_plain.mono _ _)
      | (with_reducible exact trickleref55_Same.mono _ _ _)
      | (with_reducible exact trickleref55_Updates.mono _ _)
      | (with_reducible exact verify_Updates.mono _ _)
      | (with_reducible exact LeO.refl _)
      | (with_reducible exact LeO.none _)
      | (with_reducible refine LeO.ite ?_ ?_)
      | (with_reducible refine LeO.bind ?_ (fun _ => ?_))
      | exact tricklelaw55_plain.mono _ _
      | exact trickleref55_Same.mono _ _ _
      | exact trickleref55_Updates.mono _ _
      | exact verify_Updates.mono _ _
      | exact LeO.none _
      | refine LeO.ite ?_ ?_
      | refine LeO.bind ?_ (fun _ => ?_)
set_option maxHeartbeats 8000000 in
set_option maxRecDepth 100000 in
theorem tricklelaw55_VerifyUpdates.calls (k : Nat) (A0 : Option Addr) (c0 : Nat) (l0 : List (S55)) (r : Bool) (w : World) (hr0 : Kd.C k55 w A0 l0.length l0) (hc0 : l0.length ≤ c0) (hG : GW w) (h : tricklelaw55_VerifyUpdates.f k l0 = some r) :
    Calls Tryd.prog 4 #[.slice A0 l0.length c0] w fun e w' => e = .returned (.bool r) ∧ Below w.heap.size w w' := by
  have HG := Aside0.mk hG
  clear hG
  have HR0 := Aside0.mk hr0
  have HC0 := Aside0.mk hc0
  clear hr0 hc0
  have HB := Aside0.mk (Below.refl w.heap.size w)
  have H : ((tricklelaw55_wakes.f).bind fun t248 => (if t248 = true then (if (l0.length : Int) > 90 then (some true) else ((verify_Updates.f k l0).bind fun t249 => ((tricklelaw55_plain.f k t249).bind fun t252 => ((trickleref55_Updates.f k l0).bind fun t255 => ((trickleref55_Same.f k t252 t255).bind fun t258 => (some t258)))))) else (some false))) = some r := h
  clear h
  replace H := Option.bind_eq_some_iff.mp H
  obtain ⟨t248, A20, H⟩ := H
  replace H : (if t248 = true then (if (l0.length : Int) > 90 then (some true) else ((verify_Updates.f k l0).bind fun t249 => ((tricklelaw55_plain.f k t249).bind fun t252 => ((trickleref55_Updates.f k l0).bind fun t255 => ((trickleref55_Same.f k t252 t255).bind fun t258 => (some t258)))))) else (some false)) = some r := H
  have A2 := Aside0.mk A20
  clear A20
  by_cases c3 : t248 = true
  · subst c3
    have H1 : (if (l0.length : Int) > 90 then (some true) else ((verify_Updates.f k l0).bind fun t249 => ((tricklelaw55_plain.f k t249).bind fun t252 => ((trickleref55_Updates.f k l0).bind fun t255 => ((trickleref55_Same.f k t252 t255).bind fun t258 => (some t258)))))) = some r := by rw [if_pos rfl] at H; exact H
    clear H
    have H := H1
    clear H1
    by_cases c4 : (l0.length : Int) > 90
    · rw [if_pos c4] at H
      have c4b0 : decide (90 < (l0.length : Int)) = true := decide_eq_true c4
      have c4b1 : decide (90 < l0.length) = true := decide_eq_true (by omega)
      clear c4
      obtain rfl := Option.some.inj H
      go_enter Tryd.func4, Tryd.ntmps4
      go_wp2_with (first | ((with_reducible refine gate_callee (f := 8) rfl ?_); refine goesL_ (some 3) rfl rfl Tryd.func8 (by kernel_rfl) rfl #[] rfl (by (try simp only [List.map_toArray, List.map_cons, List.map_nil]); first | done | rfl | (simp only [List.length_drop, List.length_take]; rfl)) ?_; (with_reducible refine (tricklelaw55_wakes.calls  true _ ?side1 A2.out).mono ?_); (case side1 => refine GW.below HG.out ?_; repeat (first | (with_reducible first | exact HB.out | apply below_alloc | apply pw_below_drewN | apply below_drew1) | exact HB.out)); rintro e w5 ⟨rfl, hb⟩; refine ⟨_, rfl, ?_⟩; have n0_ := Aside0.mk (below_step (by repeat (first | (with_reducible first | exact HB.out | apply below_alloc | apply pw_below_drewN | apply below_drew1) | exact HB.out)) hb); clear HB; have HB := n0_; clear n0_; (try clear hb); (try clear hb2); (try clear hk); (try clear hi)))
      go_ret
      exact ⟨by first | rfl | (simp [errW_none, errW_some] <;> rfl) | (simp [*, errW_none, errW_some] <;> rfl), by repeat (first | (with_reducible first | exact HB.out | apply below_alloc | apply pw_below_drewN | apply below_drew1) | exact HB.out)⟩
    · rw [if_neg c4] at H
      have c4b0 : decide (90 < (l0.length : Int)) = false := decide_eq_false c4
      have c4b1 : decide (90 < l0.length) = false := decide_eq_false (by omega)
      clear c4
      replace H := Option.bind_eq_some_iff.mp H
      obtain ⟨t249, A60, H⟩ := H
      replace H : ((tricklelaw55_plain.f k t249).bind fun t252 => ((trickleref55_Updates.f k l0).bind fun t255 => ((trickleref55_Same.f k t252 t255).bind fun t258 => (some t258)))) = some r := H
      have A6 := Aside0.mk A60
      clear A60
      replace H := Option.bind_eq_some_iff.mp H
      obtain ⟨t252, A70, H⟩ := H
      replace H : ((trickleref55_Updates.f k l0).bind fun t255 => ((trickleref55_Same.f k t252 t255).bind fun t258 => (some t258))) = some r := H
      have A7 := Aside0.mk A70
      clear A70
      replace H := Option.bind_eq_some_iff.mp H
      obtain ⟨t255, A80, H⟩ := H
      replace H : ((trickleref55_Same.f k t252 t255).bind fun t258 => (some t258)) = some r := H
      have A8 := Aside0.mk A80
      clear A80
      replace H := Option.bind_eq_some_iff.mp H
      obtain ⟨t258, A90, H⟩ := H
      replace H : (some t258) = some r := H
      have A9 := Aside0.mk A90
      clear A90
      obtain rfl := Option.some.inj H
      go_enter Tryd.func4, Tryd.ntmps4
      go_wp2_with (first | ((with_reducible refine gate_callee (f := 8) rfl ?_); refine goesL_ (some 3) rfl rfl Tryd.func8 (by kernel_rfl) rfl #[] rfl (by (try simp only [List.map_toArray, List.map_cons, List.map_nil]); first | done | rfl | (simp only [List.length_drop, List.length_take]; rfl)) ?_; (with_reducible refine (tricklelaw55_wakes.calls  true _ ?side1 A2.out).mono ?_); (case side1 => refine GW.below HG.out ?_; repeat (first | (with_reducible first | exact HB.out | apply below_alloc | apply pw_below_drewN | apply below_drew1) | exact HB.out)); rintro e w10 ⟨rfl, hb⟩; refine ⟨_, rfl, ?_⟩; have n0_ := Aside0.mk (below_step (by repeat (first | (with_reducible first | exact HB.out | apply below_alloc | apply pw_below_drewN | apply below_drew1) | exact HB.out)) hb); clear HB; have HB := n0_; clear n0_; (try clear hb); (try clear hb2); (try clear hk); (try clear hi)) | (go_at_call 13; (with_reducible refine (verify_Updates.calls k _ _ l0 t249 _ ?side1 ?side2 ?side3 A6.out).mono ?_); (case side1 => repeat (first | exact (Kd.C_below HR0.out HB.out) | (with_reducible refine Kd.C_alloc ?_ _) | (with_reducible refine Kd.C_drewN ?_ _) | (with_reducible refine Kd.C_drew ?_))); (case side2 => exact HC0.out); (case side3 => refine GW.below HG.out ?_; repeat (first | (with_reducible first | exact HB.out | apply below_alloc | apply pw_below_drewN | apply below_drew1) | exact HB.out)); rintro e w11 ⟨v250, rfl, ho0, hb⟩; have n0_ := Aside0.mk (Kd.R_lower ho0 (below_size (by repeat (first | (with_reducible first | exact HB.out | apply below_alloc | apply pw_below_drewN | apply below_drew1) | exact HB.out)))); have n1_ := Aside0.mk (below_step (by repeat (first | (with_reducible first | exact HB.out | apply below_alloc | apply pw_below_drewN | apply below_drew1) | exact HB.out)) hb); clear HB; have HO251 := n0_; have HB := n1_; clear n0_ n1_; (try clear hb); (try clear hb2); (try clear hk); (try clear hi); (try clear ho0); obtain ⟨Ao12, co12, eo12⟩ := Kd.R_slice HO251.out; subst eo12) | (go_at_call 10; (with_reducible refine (tricklelaw55_plain.calls k _ _ t249 t252 _ ?side1 ?side2 A7.out).mono ?_); (case side1 => repeat (first | exact (Kd.R_reads' HO251.out).2.2 | (with_reducible refine Kd.C_alloc ?_ _) | (with_reducible refine Kd.C_drewN ?_ _) | (with_reducible refine Kd.C_drew ?_))); (case side2 => exact (Kd.R_reads' HO251.out).2.1); rintro e w13 ⟨v253, rfl, ho0, hb⟩; have n0_ := Aside0.mk (Kd.R_below (by (with_reducible repeat (first | apply Kd.R_alloc | apply Kd.R_drewN | apply Kd.R_drew)); exact HO251.out) hb); have n1_ := Aside0.mk (Kd.R_lower ho0 (below_size (by repeat (first | (with_reducible first | exact HB.out | apply below_alloc | apply pw_below_drewN | apply below_drew1) | exact HB.out)))); have n2_ := Aside0.mk (below_step (by repeat (first | (with_reducible first | exact HB.out | apply below_alloc | apply pw_below_drewN | apply below_drew1) | exact HB.out)) hb); clear HO251; clear HB; have HO251 := n0_; have HO254 := n1_; have HB := n2_; clear n0_ n1_ n2_; (try clear hb); (try clear hb2); (try clear hk); (try clear hi); (try clear ho0)) | (go_at_call 14; (with_reducible refine (trickleref55_Updates.calls k _ _ l0 t255 _ ?side1 ?side2 A8.out).mono ?_); (case side1 => repeat (first | exact (Kd.C_below HR0.out HB.out) | (with_reducible refine Kd.C_alloc ?_ _) | (with_reducible refine Kd.C_drewN ?_ _) | (with_reducible refine Kd.C_drew ?_))); (case side2 => exact HC0.out); rintro e w14 ⟨v256, rfl, ho0, hb⟩; have n0_ := Aside0.mk (Kd.R_below (by (with_reducible repeat (first | apply Kd.R_alloc | apply Kd.R_drewN | apply Kd.R_drew)); exact HO251.out) hb); have n1_ := Aside0.mk (Kd.R_elder' (by (with_reducible repeat (first | apply Kd.R_alloc | apply Kd.R_drewN | apply Kd.R_drew)); exact HO254.out) (Kd.R_base ho0) hb); have n2_ := Aside0.mk (Kd.R_lower (Kd.R_new' ho0 (Kd.R_lt (by (with_reducible repeat (first | apply Kd.R_alloc | apply Kd.R_drewN | apply Kd.R_drew)); exact HO254.out))) (below_size (by repeat (first | (with_reducible first | exact HB.out | apply below_alloc | apply pw_below_drewN | apply below_drew1) | exact HB.out)))); have n3_ := Aside0.mk (below_step (by repeat (first | (with_reducible first | exact HB.out | apply below_alloc | apply pw_below_drewN | apply below_drew1) | exact HB.out)) hb); clear HO251; clear HO254; clear HB; have HO251 := n0_; have HO254 := n1_; have HO257 := n2_; have HB := n3_; clear n0_ n1_ n2_ n3_; (try clear hb); (try clear hb2); (try clear hk); (try clear hi); (try clear ho0); obtain ⟨Ao15, co15, eo15⟩ := Kd.R_slice HO254.out; subst eo15; obtain ⟨Ao16, co16, eo16⟩ := Kd.R_slice HO257.out; subst eo16) | (go_at_call 9; (with_reducible refine (trickleref55_Same.calls k _ _ t252 _ _ t255 t258 _ ?side1 ?side2 ?side3 ?side4 A9.out).mono ?_); (case side1 => repeat (first | exact (Kd.R_reads' HO254.out).2.2 | (with_reducible refine Kd.C_alloc ?_ _) | (with_reducible refine Kd.C_drewN ?_ _) | (with_reducible refine Kd.C_drew ?_))); (case side2 => exact (Kd.R_reads' HO254.out).2.1); (case side3 => repeat (first | exact (Kd.R_reads' HO257.out).2.2 | (with_reducible refine Kd.C_alloc ?_ _) | (with_reducible refine Kd.C_drewN ?_ _) | (with_reducible refine Kd.C_drew ?_))); (case side4 => exact (Kd.R_reads' HO257.out).2.1); rintro e w' ⟨rfl, ⟨nd, rfl⟩⟩))
      go_ret
      exact ⟨by first | rfl | (simp [errW_none, errW_some] <;> rfl) | (simp [*, errW_none, errW_some] <;> rfl), by repeat (first | (with_reducible first | exact HB.out | apply below_alloc | apply pw_below_drewN | apply below_drew1) | exact HB.out)⟩
  · replace c3 := Bool.eq_false_iff.mpr c3
    subst c3
    have H1 : (some false) = some r := by rw [if_neg (show ¬ (false = true) by decide)] at H; exact H
    clear H
    have H := H1
    clear H1
    obtain rfl := Option.some.inj H
    go_enter Tryd.func4, Tryd.ntmps4
    go_wp2_with (first | ((with_reducible refine gate_callee (f := 8) rfl ?_); refine goesL_ (some 3) rfl rfl Tryd.func8 (by kernel_rfl) rfl #[] rfl (by (try simp only [List.map_toArray, List.map_cons, List.map_nil]); first | done | rfl | (simp only [List.length_drop, List.length_take]; rfl)) ?_; (with_reducible refine (tricklelaw55_wakes.calls  false _ ?side1 A2.out).mono ?_); (case side1 => refine GW.below HG.out ?_; repeat (first | (with_reducible first | exact HB.out | apply below_alloc | apply pw_below_drewN | apply below_drew1) | exact HB.out)); rintro e w17 ⟨rfl, hb⟩; refine ⟨_, rfl, ?_⟩; have n0_ := Aside0.mk (below_step (by repeat (first | (with_reducible first | exact HB.out | apply below_alloc | apply pw_below_drewN | apply below_drew1) | exact HB.out)) hb); clear HB; have HB := n0_; clear n0_; (try clear hb); (try clear hb2); (try clear hk); (try clear hi)))
    go_ret
    exact ⟨by first | rfl | (simp [errW_none, errW_some] <;> rfl) | (simp [*, errW_none, errW_some] <;> rfl), by repeat (first | (with_reducible first | exact HB.out | apply below_alloc | apply pw_below_drewN | apply below_drew1) | exact HB.out)⟩

end Go.Proofs.YtakkifbcaedcoaaDoor.PX
