/- Parts of the proof, merged in build order: PXx6, MLook. -/
import Derived.Test.YteonloecenodbaaB1
import Derived.Test.YteonloecenodbaaB2
import Derived.Deep.RegionHeld3
-- Written by a program of this session (wip/xprint.py, over the kit's print tool). Lean checks it.
namespace Go.Proofs.Yteonloecenodbaa.PX
open Go.RowKit Go.Proofs.YteonloecenodbaaW.PrintWords Go.Proofs.YteonloecenodbaaW.PrintLast Go.Proofs.YteonloecenodbaaW.PrintMore
attribute [local go_sem] max2_int min2_int max_two min_two max_three min_three max_four min_four   -- for this text's walks alone
set_option linter.unusedVariables false
set_option linter.unusedSimpArgs false

/-! ### check_declarations: function 112 -/
mutual
def check_declarations.l0 : Nat → List (S164) → List (S144) → Int → Int → List (S144) → List (S85) → List ByteArray → List ByteArray → List (S131) → List (S61) → Option ((List (S164)))
  | 0, _, _, _, _, _, _, _, _, _, _ => none
  | k + 1, x3, x18, x19, x20, x128000, x128001, x128002, x128003, x128004, x128005 => if x20 < x19 then (if 0 ≤ x20 then (if x20 < (x18.length : Int) then (if x3.length < 3518437208883 then (check_declarations.l0 k (x3 ++ [(⟨(rd_T144 x18 x20).f0, 1, x20, (rd_T144 x18 x20).f2⟩ : S164)]) x18 x19 (wrap64 (x20 + 1)) x128000 x128001 x128002 x128003 x128004 x128005) else (none)) else (none)) else (none)) else (check_declarations.l1 k x3 x128001 (x128001.length : Int) 0 x128000 x128001 x128002 x128003 x128004 x128005)
def check_declarations.l1 : Nat → List (S164) → List (S85) → Int → Int → List (S144) → List (S85) → List ByteArray → List ByteArray → List (S131) → List (S61) → Option ((List (S164)))
  | 0, _, _, _, _, _, _, _, _, _, _ => none
  | k + 1, x3, x36, x37, x38, x128000, x128001, x128002, x128003, x128004, x128005 => if x38 < x37 then (if 0 ≤ x38 then (if x38 < (x36.length : Int) then (if ((rd_T85 x36 x38).f1) = 0 then (if x3.length < 3518437208883 then (check_declarations.l1 k (x3 ++ [(⟨(rd_T85 x36 x38).f0, 2, x38, (rd_T85 x36 x38).f3⟩ : S164)]) x36 x37 (wrap64 (x38 + 1)) x128000 x128001 x128002 x128003 x128004 x128005) else (none)) else (if x3.length < 3518437208883 then (check_declarations.l1 k (x3 ++ [(⟨(rd_T85 x36 x38).f0, 3, x38, (rd_T85 x36 x38).f3⟩ : S164)]) x36 x37 (wrap64 (x38 + 1)) x128000 x128001 x128002 x128003 x128004 x128005) else (none))) else (none)) else (none)) else (check_declarations.l2 k x3 x128002 (x128002.length : Int) 0 x128000 x128001 x128002 x128003 x128004 x128005)
def check_declarations.l2 : Nat → List (S164) → List ByteArray → Int → Int → List (S144) → List (S85) → List ByteArray → List ByteArray → List (S131) → List (S61) → Option ((List (S164)))
  | 0, _, _, _, _, _, _, _, _, _, _ => none
  | k + 1, x3, x58, x59, x60, x128000, x128001, x128002, x128003, x128004, x128005 => if x60 < x59 then (if 0 ≤ x60 then (if x60 < (x58.length : Int) then (if x3.length < 3518437208883 then (check_declarations.l2 k (x3 ++ [(⟨rdOf ByteArray.empty x58 x60, 4, x60, 0⟩ : S164)]) x58 x59 (wrap64 (x60 + 1)) x128000 x128001 x128002 x128003 x128004 x128005) else (none)) else (none)) else (none)) else (check_declarations.l3 k x3 x128003 (x128003.length : Int) 0 x128000 x128001 x128002 x128003 x128004 x128005)
def check_declarations.l3 : Nat → List (S164) → List ByteArray → Int → Int → List (S144) → List (S85) → List ByteArray → List ByteArray → List (S131) → List (S61) → Option ((List (S164)))
  | 0, _, _, _, _, _, _, _, _, _, _ => none
  | k + 1, x3, x73, x74, x75, x128000, x128001, x128002, x128003, x128004, x128005 => if x75 < x74 then (if 0 ≤ x75 then (if x75 < (x73.length : Int) then (if x3.length < 3518437208883 then (check_declarations.l3 k (x3 ++ [(⟨rdOf ByteArray.empty x73 x75, 5, x75, 0⟩ : S164)]) x73 x74 (wrap64 (x75 + 1)) x128000 x128001 x128002 x128003 x128004 x128005) else (none)) else (none)) else (none)) else (check_declarations.l4 k x3 x128004 (x128004.length : Int) 0 x128000 x128001 x128002 x128003 x128004 x128005)
def check_declarations.l4 : Nat → List (S164) → List (S131) → Int → Int → List (S144) → List (S85) → List ByteArray → List ByteArray → List (S131) → List (S61) → Option ((List (S164)))
  | 0, _, _, _, _, _, _, _, _, _, _ => none
  | k + 1, x3, x88, x89, x90, x128000, x128001, x128002, x128003, x128004, x128005 => if x90 < x89 then (if 0 ≤ x90 then (if x90 < (x88.length : Int) then (if x3.length < 3518437208883 then (check_declarations.l4 k (x3 ++ [(⟨(rd_T131 x88 x90).f0, 6, x90, (rd_T131 x88 x90).f2⟩ : S164)]) x88 x89 (wrap64 (x90 + 1)) x128000 x128001 x128002 x128003 x128004 x128005) else (none)) else (none)) else (none)) else (check_declarations.l5 k x3 x128005 (x128005.length : Int) 0)
def check_declarations.l5 : Nat → List (S164) → List (S61) → Int → Int → Option ((List (S164)))
  | 0, _, _, _, _ => none
  | k + 1, x3, x106, x107, x108 => if x108 < x107 then (if 0 ≤ x108 then (if x108 < (x106.length : Int) then (if x3.length < 3518437208883 then (check_declarations.l5 k (x3 ++ [(⟨(rd_T61 x106 x108).f0, 8, x108, (rd_T61 x106 x108).f7⟩ : S164)]) x106 x107 (wrap64 (x108 + 1))) else (none)) else (none)) else (none)) else (some x3)
end
def check_declarations.f (k : Nat) (l0_0 : List (S144)) (l0_1 : List (S85)) (l0_2 : List ByteArray) (l0_3 : List ByteArray) (l0_4 : List (S131)) (l0_5 : List (S61)) : Option ((List (S164))) := check_declarations.l0 k ([] : List (S164)) l0_0 (l0_0.length : Int) 0 l0_0 l0_1 l0_2 l0_3 l0_4 l0_5
set_option maxHeartbeats 8000000 in
set_option maxRecDepth 100000 in
theorem check_declarations.calls (k : Nat) (A0_0 : Option Addr) (c0_0 : Nat) (l0_0 : List (S144)) (A0_1 : Option Addr) (c0_1 : Nat) (l0_1 : List (S85)) (A0_2 : Option Addr) (c0_2 : Nat) (l0_2 : List ByteArray) (A0_3 : Option Addr) (c0_3 : Nat) (l0_3 : List ByteArray) (A0_4 : Option Addr) (c0_4 : Nat) (l0_4 : List (S131)) (A0_5 : Option Addr) (c0_5 : Nat) (l0_5 : List (S61)) (r : List (S164)) (w : World) (hr0_0 : Kd.C k144 w A0_0 l0_0.length l0_0) (hc0_0 : l0_0.length ≤ c0_0) (hr0_1 : Kd.C k85 w A0_1 l0_1.length l0_1) (hc0_1 : l0_1.length ≤ c0_1) (hr0_2 : Kd.C Kd.string w A0_2 l0_2.length l0_2) (hc0_2 : l0_2.length ≤ c0_2) (hr0_3 : Kd.C Kd.string w A0_3 l0_3.length l0_3) (hc0_3 : l0_3.length ≤ c0_3) (hr0_4 : Kd.C k131 w A0_4 l0_4.length l0_4) (hc0_4 : l0_4.length ≤ c0_4) (hr0_5 : Kd.C k61 w A0_5 l0_5.length l0_5) (hc0_5 : l0_5.length ≤ c0_5) (h : check_declarations.f k l0_0 l0_1 l0_2 l0_3 l0_4 l0_5 = some r) :
    Calls Try.prog 112 #[.agg #[.slice A0_0 l0_0.length c0_0, .slice A0_1 l0_1.length c0_1, .slice A0_2 l0_2.length c0_2, .slice A0_3 l0_3.length c0_3, .slice A0_4 l0_4.length c0_4, .slice A0_5 l0_5.length c0_5]] w fun e w' => ∃ v0_ : Value, e = .returned (v0_) ∧ Kd.R k164 164 w' w.heap.size (fun _ => True) v0_ r ∧ Below w.heap.size w w' := by
  have hu28 := Try.underlying28
  have hu144 := Try.underlying144
  have hu164 := Try.underlying164
  have hu85 := Try.underlying85
  have hu131 := Try.underlying131
  have hu61 := Try.underlying61
  have HR0_0 := Aside0.mk hr0_0
  have HC0_0 := Aside0.mk hc0_0
  clear hr0_0 hc0_0
  have HR0_1 := Aside0.mk hr0_1
  have HC0_1 := Aside0.mk hc0_1
  clear hr0_1 hc0_1
  have HR0_2 := Aside0.mk hr0_2
  have HC0_2 := Aside0.mk hc0_2
  clear hr0_2 hc0_2
  have HR0_3 := Aside0.mk hr0_3
  have HC0_3 := Aside0.mk hc0_3
  clear hr0_3 hc0_3
  have HR0_4 := Aside0.mk hr0_4
  have HC0_4 := Aside0.mk hc0_4
  clear hr0_4 hc0_4
  have HR0_5 := Aside0.mk hr0_5
  have HC0_5 := Aside0.mk hc0_5
  clear hr0_5 hc0_5
  have HB := Aside0.mk (Below.refl w.heap.size w)
  have H : (check_declarations.l0 k ([] : List (S164)) l0_0 (l0_0.length : Int) 0 l0_0 l0_1 l0_2 l0_3 l0_4 l0_5) = some r := h
  clear h
  have H' := Aside0.mk H
  clear H
  go_enter Try.func112, Try.ntmps112
  go_wp2_with (first | ((with_reducible refine gate_dst (N := 1) rfl ?_); refine box_event ?hg (N := 1) ?hd (cs := #[.slice A0_0 l0_0.length c0_0, .slice A0_1 l0_1.length c0_1, .slice A0_2 l0_2.length c0_2, .slice A0_3 l0_3.length c0_3, .slice A0_4 l0_4.length c0_4, .slice A0_5 l0_5.length c0_5]) (t := 28) ?hr ?_; (case hd => rfl); (case hg => rfl); (case hr => first | (go_simp; done) | (go_simp; rfl)); intro gb127 hg w2 hbox hb; have n0_ := Aside0.mk (below_step (by repeat (first | (with_reducible first | exact HB.out | apply below_alloc | apply pw_below_drewN | apply below_drew1) | exact HB.out)) hb); have n1_ := Aside0.mk (hbox); have n2_ := Aside0.mk ((by rw [hg]; exact (below_size (by repeat (first | (with_reducible first | exact HB.out | apply below_alloc | apply pw_below_drewN | apply below_drew1) | exact HB.out))) : w.heap.size ≤ gb127)); have n3_ := Aside0.mk ((by rw [hg]; exact (below_size (by repeat (first | (with_reducible first | exact HB.out | apply below_alloc | apply pw_below_drewN | apply below_drew1) | exact HB.out))) : w.heap.size ≤ gb127)); clear HB; have HB := n0_; have BK127 := n1_; have GW127 := n2_; have GE127 := n3_; clear n0_ n1_ n2_ n3_; clear hb hbox hg; have hcz3_0 : w2.cell? ⟨gb127, 0, none⟩ = some (.slice A0_0 l0_0.length c0_0) := (blk_cell BK127.out 0).trans rfl; have hcz3_1 : w2.cell? ⟨gb127, 1, none⟩ = some (.slice A0_1 l0_1.length c0_1) := (blk_cell BK127.out 1).trans rfl; have hcz3_2 : w2.cell? ⟨gb127, 2, none⟩ = some (.slice A0_2 l0_2.length c0_2) := (blk_cell BK127.out 2).trans rfl; have hcz3_3 : w2.cell? ⟨gb127, 3, none⟩ = some (.slice A0_3 l0_3.length c0_3) := (blk_cell BK127.out 3).trans rfl; have hcz3_4 : w2.cell? ⟨gb127, 4, none⟩ = some (.slice A0_4 l0_4.length c0_4) := (blk_cell BK127.out 4).trans rfl; have hcz3_5 : w2.cell? ⟨gb127, 5, none⟩ = some (.slice A0_5 l0_5.length c0_5) := (blk_cell BK127.out 5).trans rfl; have hfz3_0 := blk_frozen BK127.out 0; have hfz3_1 := blk_frozen BK127.out 1; have hfz3_2 := blk_frozen BK127.out 2; have hfz3_3 := blk_frozen BK127.out 3; have hfz3_4 := blk_frozen BK127.out 4; have hfz3_5 := blk_frozen BK127.out 5))
  go_loopg [3, 20] k (fun kq v3 v20 w' => ∃ (x3_1 : List (S164)) (x20_1 : Int), v20 = .int .i64 x20_1 ∧ Aside0 (check_declarations.l0 kq x3_1 l0_0 (l0_0.length : Int) x20_1 l0_0 l0_1 l0_2 l0_3 l0_4 l0_5 = some r) ∧ Aside0 (kq ≤ k) ∧ Aside0 (Kd.R k164 164 w' w.heap.size (fun _ => True) v3 x3_1) ∧ Aside0 (w'.heap[gb127]? = some (.cells #[(.slice A0_0 l0_0.length c0_0), (.slice A0_1 l0_1.length c0_1), (.slice A0_2 l0_2.length c0_2), (.slice A0_3 l0_3.length c0_3), (.slice A0_4 l0_4.length c0_4), (.slice A0_5 l0_5.length c0_5)] 28 (0, 0))) ∧ Aside0 (Below w.heap.size w w'))
  case atStart => exact ⟨(([] : List (S164))), (0), (by first | rfl | (simp; done) | (simp [*]; done)), H', ⟨Nat.le_refl _⟩, ⟨by first | exact Kd.R_nil _ _ _ _ _ | exact Kd.N_nil _ _ _ _ _ | exact Kd.V_nil _ _ _ _ _ | exact Kd.Q_nil _ _ _ _ _ | exact Kd.S_nil _ _ _ _ _⟩, ⟨by (with_reducible repeat (first | refine blk_drewN ?_ _ | refine blk_drew ?_ | refine blk_alloc ?_ _)); exact BK127.out⟩, ⟨by repeat (first | (with_reducible first | exact HB.out | apply below_alloc | apply pw_below_drewN | apply below_drew1 | refine below_set ?_ GE127.out) | exact HB.out)⟩⟩
  case round =>
    clear H'
    try clear c1
    try clear p2
    try clear hcz3_0
    try clear hcz3_1
    try clear hcz3_2
    try clear hcz3_3
    try clear hcz3_4
    try clear hcz3_5
    try clear hfz3_0
    try clear hfz3_1
    try clear hfz3_2
    try clear hfz3_3
    try clear hfz3_4
    try clear hfz3_5
    obtain ⟨x3_1, x20_1, rfl, HA, HK1, HO_3, BK127, HB⟩ := hrel
    cases gk with
    | zero => exact absurd HA.out (by simp [check_declarations.l0])
    | succ k1 =>
      have H := HA.out
      clear HA
      simp only [check_declarations.l0] at H
      by_cases c4 : x20_1 < (l0_0.length : Int)
      · rw [if_pos c4] at H
        have c4b0 : decide (x20_1 < (l0_0.length : Int)) = true := decide_eq_true c4
        clear c4
        by_cases c5 : 0 ≤ x20_1
        · rw [if_pos c5] at H
          have c5b0 : decide (0 ≤ x20_1) = true := decide_eq_true c5
          clear c5
          by_cases c6 : x20_1 < (l0_0.length : Int)
          · rw [if_pos c6] at H
            have c6b0 : decide (x20_1 < (l0_0.length : Int)) = true := decide_eq_true c6
            clear c6
            by_cases c7 : x3_1.length < 3518437208883
            · rw [if_pos c7] at H
              have LMc7 := Aside0.mk c7
              clear c7
              obtain ⟨y130, hy130⟩ : ∃ y_ : List (S164), y_ = (x3_1 ++ [(⟨(rd_T144 l0_0 x20_1).f0, 1, x20_1, (rd_T144 l0_0 x20_1).f2⟩ : S164)]) := ⟨_, rfl⟩
              replace H : (check_declarations.l0 k1 y130 l0_0 (l0_0.length : Int) (wrap64 (x20_1 + 1)) l0_0 l0_1 l0_2 l0_3 l0_4 l0_5) = some r := by first | (rw [hy130]; with_reducible exact H) | (have H2_ := (Option.bind_some _ _).symm.trans H; rw [hy130]; with_reducible exact H2_) | (have H2_ := (Option.bind_some _ _).symm.trans H; with_reducible exact H2_) | with_reducible exact H | (rw [hy130]; exact H) | exact H
              have Ny130 := Aside0.mk hy130
              clear hy130
              have H' := Aside0.mk H
              clear H
              have p128 : 0 ≤ (x20_1 : Int) := of_decide_eq_true (by first | (with_reducible assumption) | assumption)
              have q128 : x20_1 < (l0_0.length : Int) := of_decide_eq_true (by first | (with_reducible assumption) | assumption)
              obtain ⟨ad128, e128, hx128_0, hx128_1, hx128_2⟩ := at_T144 HR0_0.out x20_1 p128 q128
              cases e128
              replace hx128_0 := (HB.out.cell (World.block_lt_of_cell? w _ hx128_0)).trans hx128_0
              replace hx128_1 := (HB.out.cell (World.block_lt_of_cell? w _ hx128_1)).trans hx128_1
              replace hx128_2 := (HB.out.cell (World.block_lt_of_cell? w _ hx128_2)).trans hx128_2
              replace p128 := eq_true p128
              replace q128 := eq_true q128
              go_wp2_with (first | ((with_reducible refine gate_dst (N := 5) rfl ?_); refine box_event ?hg (N := 5) ?hd (cs := #[.string (⟨#[]⟩ : ByteArray), .int .i16 0, .int .i64 0]) (t := 144) ?hr ?_; (case hd => rfl); (case hg => rfl); (case hr => first | (go_simp; done) | (go_simp; rfl)); intro gb129 hg w8 hbox hb; have n0_ := Aside0.mk (Kd.R_below (by (with_reducible repeat (first | apply Kd.R_alloc | apply Kd.R_drewN | apply Kd.R_drew)); exact HO_3.out) hb); have n1_ := Aside0.mk (blk_below (g := gb127) (o := .cells #[.slice (some ad128) l0_0.length c0_0, .slice A0_1 l0_1.length c0_1, .slice A0_2 l0_2.length c0_2, .slice A0_3 l0_3.length c0_3, .slice A0_4 l0_4.length c0_4, .slice A0_5 l0_5.length c0_5] 28 (0, 0)) (by (with_reducible repeat (first | refine blk_drewN ?_ _ | refine blk_drew ?_ | refine blk_alloc ?_ _)); exact BK127.out) hb); have n2_ := Aside0.mk (below_step (by repeat (first | (with_reducible first | exact HB.out | apply below_alloc | apply pw_below_drewN | apply below_drew1 | refine below_set ?_ GE127.out) | exact HB.out)) hb); have n3_ := Aside0.mk (hbox); have n4_ := Aside0.mk ((by rw [hg]; exact (below_size (by repeat (first | (with_reducible first | exact HB.out | apply below_alloc | apply pw_below_drewN | apply below_drew1 | refine below_set ?_ GE127.out) | exact HB.out))) : w.heap.size ≤ gb129)); have n5_ := Aside0.mk ((by rw [hg]; exact (below_size (by repeat (first | (with_reducible first | exact HB.out | apply below_alloc | apply pw_below_drewN | apply below_drew1 | refine below_set ?_ GE127.out) | exact HB.out))) : w.heap.size ≤ gb129)); have n6_ := Aside0.mk ((by rw [hg]; exact Nat.ne_of_lt (blk_lt (g := gb127) (o := .cells #[.slice (some ad128) l0_0.length c0_0, .slice A0_1 l0_1.length c0_1, .slice A0_2 l0_2.length c0_2, .slice A0_3 l0_3.length c0_3, .slice A0_4 l0_4.length c0_4, .slice A0_5 l0_5.length c0_5] 28 (0, 0)) (by (with_reducible repeat (first | refine blk_drewN ?_ _ | refine blk_drew ?_ | refine blk_alloc ?_ _)); exact BK127.out)) : gb127 ≠ gb129)); have n7_ := Aside0.mk ((by rw [hg]; exact Nat.ne_of_gt (blk_lt (g := gb127) (o := .cells #[.slice (some ad128) l0_0.length c0_0, .slice A0_1 l0_1.length c0_1, .slice A0_2 l0_2.length c0_2, .slice A0_3 l0_3.length c0_3, .slice A0_4 l0_4.length c0_4, .slice A0_5 l0_5.length c0_5] 28 (0, 0)) (by (with_reducible repeat (first | refine blk_drewN ?_ _ | refine blk_drew ?_ | refine blk_alloc ?_ _)); exact BK127.out)) : gb129 ≠ gb127)); clear HO_3; clear BK127; clear HB; have HO_3 := n0_; have BK127 := n1_; have HB := n2_; have BK129 := n3_; have GW129 := n4_; have GE129 := n5_; have NB127_129 := n6_; have NB129_127 := n7_; clear n0_ n1_ n2_ n3_ n4_ n5_ n6_ n7_; clear hb hbox hg; have hnb9 := NB129_127.out; have hnc9 := NB127_129.out; have hcz10_0 : w8.cell? ⟨gb129, 0, none⟩ = some (.string (⟨#[]⟩ : ByteArray)) := (blk_cell BK129.out 0).trans rfl; have hcz10_1 : w8.cell? ⟨gb129, 1, none⟩ = some (.int .i16 0) := (blk_cell BK129.out 1).trans rfl; have hcz10_2 : w8.cell? ⟨gb129, 2, none⟩ = some (.int .i64 0) := (blk_cell BK129.out 2).trans rfl; have hfz10_0 := blk_frozen BK129.out 0; have hfz10_1 := blk_frozen BK129.out 1; have hfz10_2 := blk_frozen BK129.out 2) | ((with_reducible refine gate_builtin (b := .append) (xs := #[.tmp 25, .tmp 32]) rfl ?_); at_builtin; refine Kd.R_append k164 (w0 := w) w.heap.size rfl (.tmp 25) (.tmp 32) 179 164 (.agg #[(.string ⟨#[]⟩), (.int .i64 0), (.int .i64 0), (.int .i64 0)]) 40 rfl Try.underlying179 info164 rfl (by decide) (by omega) u3 x3_1 (⟨(rd_T144 l0_0 x20_1).f0, 1, x20_1, (rd_T144 l0_0 x20_1).f2⟩ : S164) [.string ((rd_T144 l0_0 x20_1).f0), .int .i64 1, .int .i64 x20_1, .int .i64 ((rd_T144 l0_0 x20_1).f2)] (fun _ => True) (fun _ => False) rfl (by first | (go_simp; done) | (go_simp; rfl)) ?aP (fun _ hk => hk.elim) ?aF ?aO ?aB ?aS ?aL ?_; (case aP => exact k164_mkM _ _ _ (⟨(rd_T144 l0_0 x20_1).f0, 1, x20_1, (rd_T144 l0_0 x20_1).f2⟩ : S164)); (case aB => exact (by repeat (first | (with_reducible first | exact HB.out | apply below_alloc | apply pw_below_drewN | apply below_drew1 | refine below_set ?_ GE127.out | refine below_set ?_ GE129.out) | exact HB.out))); (case aF => exact (fun _ _ => trivial)); (case aO => exact (by (with_reducible repeat (first | apply Kd.R_alloc | apply Kd.R_drewN | apply Kd.R_drew)); exact Kd.R_mono (Kd.R_far (p := ⟨gb129, 2, none⟩) (Kd.R_far (p := ⟨gb129, 1, none⟩) (Kd.R_far (p := ⟨gb129, 0, none⟩) (Kd.R_types HO_3.out BK129.out (by decide)) (fun _ hk => hk.2) (.string ((rd_T144 l0_0 x20_1).f0))) (fun _ hk => hk.2) (.int .i16 ((rd_T144 l0_0 x20_1).f1))) (fun _ hk => hk.2) (.int .i64 ((rd_T144 l0_0 x20_1).f2))) (fun _ hk => trivial))); (case aS => exact (below_size (by repeat (first | (with_reducible first | exact HB.out | apply below_alloc | apply pw_below_drewN | apply below_drew1 | refine below_set ?_ GE127.out | refine below_set ?_ GE129.out) | exact HB.out)))); (case aL => have := LMc7.out; omega); intro v131 w11 ho hb hg hat; rw [← Ny130.out] at ho; have n0_ := Aside0.mk (blk_grown (g := gb127) (o := .cells #[.slice (some ad128) l0_0.length c0_0, .slice A0_1 l0_1.length c0_1, .slice A0_2 l0_2.length c0_2, .slice A0_3 l0_3.length c0_3, .slice A0_4 l0_4.length c0_4, .slice A0_5 l0_5.length c0_5] 28 (0, 0)) (by (with_reducible repeat (first | refine blk_drewN ?_ _ | refine blk_drew ?_ | refine blk_alloc ?_ _)); refine blk_far ?_ NB127_129.out _; (with_reducible repeat (first | refine blk_drewN ?_ _ | refine blk_drew ?_ | refine blk_alloc ?_ _)); refine blk_far ?_ NB127_129.out _; (with_reducible repeat (first | refine blk_drewN ?_ _ | refine blk_drew ?_ | refine blk_alloc ?_ _)); refine blk_far ?_ NB127_129.out _; (with_reducible repeat (first | refine blk_drewN ?_ _ | refine blk_drew ?_ | refine blk_alloc ?_ _)); exact BK127.out) hg (Kd.R_ne HO_3.out BK127.out (by decide))); have n1_ := Aside0.mk (blk_grown (g := gb129) (o := .cells #[.string ((rd_T144 l0_0 x20_1).f0), .int .i16 ((rd_T144 l0_0 x20_1).f1), .int .i64 ((rd_T144 l0_0 x20_1).f2)] 144 (0, 0)) (by (with_reducible repeat (first | refine blk_drewN ?_ _ | refine blk_drew ?_ | refine blk_alloc ?_ _)); refine blk_put (cs := #[.string ((rd_T144 l0_0 x20_1).f0), .int .i16 ((rd_T144 l0_0 x20_1).f1), .int .i64 0]) ?_ 2 _ rfl; (with_reducible repeat (first | refine blk_drewN ?_ _ | refine blk_drew ?_ | refine blk_alloc ?_ _)); refine blk_put (cs := #[.string ((rd_T144 l0_0 x20_1).f0), .int .i16 0, .int .i64 0]) ?_ 1 _ rfl; (with_reducible repeat (first | refine blk_drewN ?_ _ | refine blk_drew ?_ | refine blk_alloc ?_ _)); refine blk_put (cs := #[.string (⟨#[]⟩ : ByteArray), .int .i16 0, .int .i64 0]) ?_ 0 _ rfl; (with_reducible repeat (first | refine blk_drewN ?_ _ | refine blk_drew ?_ | refine blk_alloc ?_ _)); exact BK129.out) hg (Kd.R_ne HO_3.out BK129.out (by decide))); have n2_ := Aside0.mk (hb); have n3_ := Aside0.mk (ho); clear BK127; clear BK129; clear HB; clear HO_3; have BK127 := n0_; have BK129 := n1_; have HB := n2_; have HO132 := n3_; clear n0_ n1_ n2_ n3_; clear ho hb hg hat))
              go_roundg k1
              case measure => have := HK1.out; omega
              case rel => exact ⟨(y130), (wrap64 (x20_1 + 1)), (by first | rfl | (simp; done) | (simp [*]; done)), H', ⟨by have := HK1.out; omega⟩, ⟨by (with_reducible repeat (first | apply Kd.R_alloc | apply Kd.R_drewN | apply Kd.R_drew)); exact HO132.out⟩, ⟨by (with_reducible repeat (first | refine blk_drewN ?_ _ | refine blk_drew ?_ | refine blk_alloc ?_ _)); exact BK127.out⟩, ⟨by repeat (first | (with_reducible first | exact HB.out | apply below_alloc | apply pw_below_drewN | apply below_drew1 | refine below_set ?_ GE127.out | refine below_set ?_ GE129.out) | exact HB.out)⟩⟩
            · rw [if_neg c7] at H
              exact absurd H (by simp)
          · rw [if_neg c6] at H
            exact absurd H (by simp)
        · rw [if_neg c5] at H
          exact absurd H (by simp)
      · rw [if_neg c4] at H
        have c4b0 : decide (x20_1 < (l0_0.length : Int)) = false := decide_eq_false c4
        clear c4
        have H' := Aside0.mk H
        clear H
        have hcz12_0 : wr.cell? ⟨gb127, 0, none⟩ = some (.slice A0_0 l0_0.length c0_0) := (blk_cell BK127.out 0).trans rfl
        have hcz12_1 : wr.cell? ⟨gb127, 1, none⟩ = some (.slice A0_1 l0_1.length c0_1) := (blk_cell BK127.out 1).trans rfl
        have hcz12_2 : wr.cell? ⟨gb127, 2, none⟩ = some (.slice A0_2 l0_2.length c0_2) := (blk_cell BK127.out 2).trans rfl
        have hcz12_3 : wr.cell? ⟨gb127, 3, none⟩ = some (.slice A0_3 l0_3.length c0_3) := (blk_cell BK127.out 3).trans rfl
        have hcz12_4 : wr.cell? ⟨gb127, 4, none⟩ = some (.slice A0_4 l0_4.length c0_4) := (blk_cell BK127.out 4).trans rfl
        have hcz12_5 : wr.cell? ⟨gb127, 5, none⟩ = some (.slice A0_5 l0_5.length c0_5) := (blk_cell BK127.out 5).trans rfl
        have hfz12_0 := blk_frozen BK127.out 0
        have hfz12_1 := blk_frozen BK127.out 1
        have hfz12_2 := blk_frozen BK127.out 2
        have hfz12_3 := blk_frozen BK127.out 3
        have hfz12_4 := blk_frozen BK127.out 4
        have hfz12_5 := blk_frozen BK127.out 5
        go_wp2
        go_loopg [3, 38] k1 (fun kq v3 v38 w' => ∃ (x3_2 : List (S164)) (x38_2 : Int), v38 = .int .i64 x38_2 ∧ Aside0 (check_declarations.l1 kq x3_2 l0_1 (l0_1.length : Int) x38_2 l0_0 l0_1 l0_2 l0_3 l0_4 l0_5 = some r) ∧ Aside0 (kq ≤ k1) ∧ Aside0 (Kd.R k164 164 w' w.heap.size (fun _ => True) v3 x3_2) ∧ Aside0 (w'.heap[gb127]? = some (.cells #[(.slice A0_0 l0_0.length c0_0), (.slice A0_1 l0_1.length c0_1), (.slice A0_2 l0_2.length c0_2), (.slice A0_3 l0_3.length c0_3), (.slice A0_4 l0_4.length c0_4), (.slice A0_5 l0_5.length c0_5)] 28 (0, 0))) ∧ Aside0 (Below w.heap.size w w'))
        case atStart => exact ⟨(x3_1), (0), (by first | rfl | (simp; done) | (simp [*]; done)), H', ⟨Nat.le_refl _⟩, ⟨by (with_reducible repeat (first | apply Kd.R_alloc | apply Kd.R_drewN | apply Kd.R_drew)); exact HO_3.out⟩, ⟨by (with_reducible repeat (first | refine blk_drewN ?_ _ | refine blk_drew ?_ | refine blk_alloc ?_ _)); exact BK127.out⟩, ⟨by repeat (first | (with_reducible first | exact HB.out | apply below_alloc | apply pw_below_drewN | apply below_drew1 | refine below_set ?_ GE127.out) | exact HB.out)⟩⟩
        case round =>
          clear H'
          try clear c1
          try clear p1
          try clear q1
          try clear hx1
          try clear p2
          try clear c4
          try clear c4b0
          try clear c5
          try clear c5b0
          try clear c6
          try clear c6b0
          try clear p6
          try clear c7
          try clear c9
          try clear c11
          try clear p12
          try clear q12
          try clear hx12
          try clear hcz10_0
          try clear hcz10_1
          try clear hcz10_2
          try clear hcz12_0
          try clear hcz12_1
          try clear hcz12_2
          try clear hcz12_3
          try clear hcz12_4
          try clear hcz12_5
          try clear hcz3_0
          try clear hcz3_1
          try clear hcz3_2
          try clear hcz3_3
          try clear hcz3_4
          try clear hcz3_5
          try clear hfz10_0
          try clear hfz10_1
          try clear hfz10_2
          try clear hfz12_0
          try clear hfz12_1
          try clear hfz12_2
          try clear hfz12_3
          try clear hfz12_4
          try clear hfz12_5
          try clear hfz3_0
          try clear hfz3_1
          try clear hfz3_2
          try clear hfz3_3
          try clear hfz3_4
          try clear hfz3_5
          try clear hx128_0
          try clear hx128_1
          try clear hx128_2
          try clear p128
          try clear p2
          try clear q128
          obtain ⟨x3_2, x38_2, rfl, HA, HK2, HO_3, BK127, HB⟩ := hrel
          cases gk with
          | zero => exact absurd HA.out (by simp [check_declarations.l1])
          | succ k2 =>
            have H := HA.out
            clear HA
            simp only [check_declarations.l1] at H
            by_cases c13 : x38_2 < (l0_1.length : Int)
            · rw [if_pos c13] at H
              have c13b0 : decide (x38_2 < (l0_1.length : Int)) = true := decide_eq_true c13
              clear c13
              by_cases c14 : 0 ≤ x38_2
              · rw [if_pos c14] at H
                have c14b0 : decide (0 ≤ x38_2) = true := decide_eq_true c14
                clear c14
                by_cases c15 : x38_2 < (l0_1.length : Int)
                · rw [if_pos c15] at H
                  have c15b0 : decide (x38_2 < (l0_1.length : Int)) = true := decide_eq_true c15
                  clear c15
                  by_cases c16 : ((rd_T85 l0_1 x38_2).f1) = 0
                  · rw [if_pos c16] at H
                    have c16b0 : (((rd_T85 l0_1 x38_2).f1) == 0) = true := beq_iff_eq.mpr c16
                    have c16b1 : (((rd_T85 l0_1 x38_2).f1) != 0) = false := bne_eq_false_iff_eq.mpr c16
                    clear c16
                    by_cases c17 : x3_2.length < 3518437208883
                    · rw [if_pos c17] at H
                      have LMc17 := Aside0.mk c17
                      clear c17
                      obtain ⟨y135, hy135⟩ : ∃ y_ : List (S164), y_ = (x3_2 ++ [(⟨(rd_T85 l0_1 x38_2).f0, 2, x38_2, (rd_T85 l0_1 x38_2).f3⟩ : S164)]) := ⟨_, rfl⟩
                      replace H : (check_declarations.l1 k2 y135 l0_1 (l0_1.length : Int) (wrap64 (x38_2 + 1)) l0_0 l0_1 l0_2 l0_3 l0_4 l0_5) = some r := by first | (rw [hy135]; with_reducible exact H) | (have H2_ := (Option.bind_some _ _).symm.trans H; rw [hy135]; with_reducible exact H2_) | (have H2_ := (Option.bind_some _ _).symm.trans H; with_reducible exact H2_) | with_reducible exact H | (rw [hy135]; exact H) | exact H
                      have Ny135 := Aside0.mk hy135
                      clear hy135
                      have H' := Aside0.mk H
                      clear H
                      have p133 : 0 ≤ (x38_2 : Int) := of_decide_eq_true (by first | (with_reducible assumption) | assumption)
                      have q133 : x38_2 < (l0_1.length : Int) := of_decide_eq_true (by first | (with_reducible assumption) | assumption)
                      obtain ⟨ad133, e133, hx133_0, hx133_1, hx133_2, hx133_3⟩ := at_T85 HR0_1.out x38_2 p133 q133
                      cases e133
                      replace hx133_0 := (HB.out.cell (World.block_lt_of_cell? w _ hx133_0)).trans hx133_0
                      replace hx133_1 := (HB.out.cell (World.block_lt_of_cell? w _ hx133_1)).trans hx133_1
                      replace hx133_2 := (HB.out.cell (World.block_lt_of_cell? w _ hx133_2)).trans hx133_2
                      replace hx133_3 := (HB.out.cell (World.block_lt_of_cell? w _ hx133_3)).trans hx133_3
                      replace p133 := eq_true p133
                      replace q133 := eq_true q133
                      go_wp2_with (first | ((with_reducible refine gate_dst (N := 7) rfl ?_); refine box_event ?hg (N := 7) ?hd (cs := #[.string (⟨#[]⟩ : ByteArray), .int .i64 0, .int .i16 0, .int .i64 0]) (t := 85) ?hr ?_; (case hd => rfl); (case hg => rfl); (case hr => first | (go_simp; done) | (go_simp; rfl)); intro gb134 hg w18 hbox hb; have n0_ := Aside0.mk (Kd.R_below (by (with_reducible repeat (first | apply Kd.R_alloc | apply Kd.R_drewN | apply Kd.R_drew)); exact HO_3.out) hb); have n1_ := Aside0.mk (blk_below (g := gb127) (o := .cells #[.slice A0_0 l0_0.length c0_0, .slice (some ad133) l0_1.length c0_1, .slice A0_2 l0_2.length c0_2, .slice A0_3 l0_3.length c0_3, .slice A0_4 l0_4.length c0_4, .slice A0_5 l0_5.length c0_5] 28 (0, 0)) (by (with_reducible repeat (first | refine blk_drewN ?_ _ | refine blk_drew ?_ | refine blk_alloc ?_ _)); exact BK127.out) hb); have n2_ := Aside0.mk (below_step (by repeat (first | (with_reducible first | exact HB.out | apply below_alloc | apply pw_below_drewN | apply below_drew1 | refine below_set ?_ GE127.out) | exact HB.out)) hb); have n3_ := Aside0.mk (hbox); have n4_ := Aside0.mk ((by rw [hg]; exact (below_size (by repeat (first | (with_reducible first | exact HB.out | apply below_alloc | apply pw_below_drewN | apply below_drew1 | refine below_set ?_ GE127.out) | exact HB.out))) : w.heap.size ≤ gb134)); have n5_ := Aside0.mk ((by rw [hg]; exact (below_size (by repeat (first | (with_reducible first | exact HB.out | apply below_alloc | apply pw_below_drewN | apply below_drew1 | refine below_set ?_ GE127.out) | exact HB.out))) : w.heap.size ≤ gb134)); have n6_ := Aside0.mk ((by rw [hg]; exact Nat.ne_of_lt (blk_lt (g := gb127) (o := .cells #[.slice A0_0 l0_0.length c0_0, .slice (some ad133) l0_1.length c0_1, .slice A0_2 l0_2.length c0_2, .slice A0_3 l0_3.length c0_3, .slice A0_4 l0_4.length c0_4, .slice A0_5 l0_5.length c0_5] 28 (0, 0)) (by (with_reducible repeat (first | refine blk_drewN ?_ _ | refine blk_drew ?_ | refine blk_alloc ?_ _)); exact BK127.out)) : gb127 ≠ gb134)); have n7_ := Aside0.mk ((by rw [hg]; exact Nat.ne_of_gt (blk_lt (g := gb127) (o := .cells #[.slice A0_0 l0_0.length c0_0, .slice (some ad133) l0_1.length c0_1, .slice A0_2 l0_2.length c0_2, .slice A0_3 l0_3.length c0_3, .slice A0_4 l0_4.length c0_4, .slice A0_5 l0_5.length c0_5] 28 (0, 0)) (by (with_reducible repeat (first | refine blk_drewN ?_ _ | refine blk_drew ?_ | refine blk_alloc ?_ _)); exact BK127.out)) : gb134 ≠ gb127)); clear HO_3; clear BK127; clear HB; have HO_3 := n0_; have BK127 := n1_; have HB := n2_; have BK134 := n3_; have GW134 := n4_; have GE134 := n5_; have NB127_134 := n6_; have NB134_127 := n7_; clear n0_ n1_ n2_ n3_ n4_ n5_ n6_ n7_; clear hb hbox hg; have hnb19 := NB134_127.out; have hnc19 := NB127_134.out; have hcz20_0 : w18.cell? ⟨gb134, 0, none⟩ = some (.string (⟨#[]⟩ : ByteArray)) := (blk_cell BK134.out 0).trans rfl; have hcz20_1 : w18.cell? ⟨gb134, 1, none⟩ = some (.int .i64 0) := (blk_cell BK134.out 1).trans rfl; have hcz20_2 : w18.cell? ⟨gb134, 2, none⟩ = some (.int .i16 0) := (blk_cell BK134.out 2).trans rfl; have hcz20_3 : w18.cell? ⟨gb134, 3, none⟩ = some (.int .i64 0) := (blk_cell BK134.out 3).trans rfl; have hfz20_0 := blk_frozen BK134.out 0; have hfz20_1 := blk_frozen BK134.out 1; have hfz20_2 := blk_frozen BK134.out 2; have hfz20_3 := blk_frozen BK134.out 3) | ((with_reducible refine gate_builtin (b := .append) (xs := #[.tmp 46, .tmp 54]) rfl ?_); at_builtin; refine Kd.R_append k164 (w0 := w) w.heap.size rfl (.tmp 46) (.tmp 54) 179 164 (.agg #[(.string ⟨#[]⟩), (.int .i64 0), (.int .i64 0), (.int .i64 0)]) 40 rfl Try.underlying179 info164 rfl (by decide) (by omega) u3 x3_2 (⟨(rd_T85 l0_1 x38_2).f0, 2, x38_2, (rd_T85 l0_1 x38_2).f3⟩ : S164) [.string ((rd_T85 l0_1 x38_2).f0), .int .i64 2, .int .i64 x38_2, .int .i64 ((rd_T85 l0_1 x38_2).f3)] (fun _ => True) (fun _ => False) rfl (by first | (go_simp; done) | (go_simp; rfl)) ?aP (fun _ hk => hk.elim) ?aF ?aO ?aB ?aS ?aL ?_; (case aP => exact k164_mkM _ _ _ (⟨(rd_T85 l0_1 x38_2).f0, 2, x38_2, (rd_T85 l0_1 x38_2).f3⟩ : S164)); (case aB => exact (by repeat (first | (with_reducible first | exact HB.out | apply below_alloc | apply pw_below_drewN | apply below_drew1 | refine below_set ?_ GE127.out | refine below_set ?_ GE134.out) | exact HB.out))); (case aF => exact (fun _ _ => trivial)); (case aO => exact (by (with_reducible repeat (first | apply Kd.R_alloc | apply Kd.R_drewN | apply Kd.R_drew)); exact Kd.R_mono (Kd.R_far (p := ⟨gb134, 3, none⟩) (Kd.R_far (p := ⟨gb134, 2, none⟩) (Kd.R_far (p := ⟨gb134, 1, none⟩) (Kd.R_far (p := ⟨gb134, 0, none⟩) (Kd.R_types HO_3.out BK134.out (by decide)) (fun _ hk => hk.2) (.string ((rd_T85 l0_1 x38_2).f0))) (fun _ hk => hk.2) (.int .i64 ((rd_T85 l0_1 x38_2).f1))) (fun _ hk => hk.2) (.int .i16 ((rd_T85 l0_1 x38_2).f2))) (fun _ hk => hk.2) (.int .i64 ((rd_T85 l0_1 x38_2).f3))) (fun _ hk => trivial))); (case aS => exact (below_size (by repeat (first | (with_reducible first | exact HB.out | apply below_alloc | apply pw_below_drewN | apply below_drew1 | refine below_set ?_ GE127.out | refine below_set ?_ GE134.out) | exact HB.out)))); (case aL => have := LMc17.out; omega); intro v136 w21 ho hb hg hat; rw [← Ny135.out] at ho; have n0_ := Aside0.mk (blk_grown (g := gb127) (o := .cells #[.slice A0_0 l0_0.length c0_0, .slice (some ad133) l0_1.length c0_1, .slice A0_2 l0_2.length c0_2, .slice A0_3 l0_3.length c0_3, .slice A0_4 l0_4.length c0_4, .slice A0_5 l0_5.length c0_5] 28 (0, 0)) (by (with_reducible repeat (first | refine blk_drewN ?_ _ | refine blk_drew ?_ | refine blk_alloc ?_ _)); refine blk_far ?_ NB127_134.out _; (with_reducible repeat (first | refine blk_drewN ?_ _ | refine blk_drew ?_ | refine blk_alloc ?_ _)); refine blk_far ?_ NB127_134.out _; (with_reducible repeat (first | refine blk_drewN ?_ _ | refine blk_drew ?_ | refine blk_alloc ?_ _)); refine blk_far ?_ NB127_134.out _; (with_reducible repeat (first | refine blk_drewN ?_ _ | refine blk_drew ?_ | refine blk_alloc ?_ _)); refine blk_far ?_ NB127_134.out _; (with_reducible repeat (first | refine blk_drewN ?_ _ | refine blk_drew ?_ | refine blk_alloc ?_ _)); exact BK127.out) hg (Kd.R_ne HO_3.out BK127.out (by decide))); have n1_ := Aside0.mk (blk_grown (g := gb134) (o := .cells #[.string ((rd_T85 l0_1 x38_2).f0), .int .i64 ((rd_T85 l0_1 x38_2).f1), .int .i16 ((rd_T85 l0_1 x38_2).f2), .int .i64 ((rd_T85 l0_1 x38_2).f3)] 85 (0, 0)) (by (with_reducible repeat (first | refine blk_drewN ?_ _ | refine blk_drew ?_ | refine blk_alloc ?_ _)); refine blk_put (cs := #[.string ((rd_T85 l0_1 x38_2).f0), .int .i64 ((rd_T85 l0_1 x38_2).f1), .int .i16 ((rd_T85 l0_1 x38_2).f2), .int .i64 0]) ?_ 3 _ rfl; (with_reducible repeat (first | refine blk_drewN ?_ _ | refine blk_drew ?_ | refine blk_alloc ?_ _)); refine blk_put (cs := #[.string ((rd_T85 l0_1 x38_2).f0), .int .i64 ((rd_T85 l0_1 x38_2).f1), .int .i16 0, .int .i64 0]) ?_ 2 _ rfl; (with_reducible repeat (first | refine blk_drewN ?_ _ | refine blk_drew ?_ | refine blk_alloc ?_ _)); refine blk_put (cs := #[.string ((rd_T85 l0_1 x38_2).f0), .int .i64 0, .int .i16 0, .int .i64 0]) ?_ 1 _ rfl; (with_reducible repeat (first | refine blk_drewN ?_ _ | refine blk_drew ?_ | refine blk_alloc ?_ _)); refine blk_put (cs := #[.string (⟨#[]⟩ : ByteArray), .int .i64 0, .int .i16 0, .int .i64 0]) ?_ 0 _ rfl; (with_reducible repeat (first | refine blk_drewN ?_ _ | refine blk_drew ?_ | refine blk_alloc ?_ _)); exact BK134.out) hg (Kd.R_ne HO_3.out BK134.out (by decide))); have n2_ := Aside0.mk (hb); have n3_ := Aside0.mk (ho); clear BK127; clear BK134; clear HB; clear HO_3; have BK127 := n0_; have BK134 := n1_; have HB := n2_; have HO137 := n3_; clear n0_ n1_ n2_ n3_; clear ho hb hg hat))
                      go_roundg k2
                      case measure => have := HK1.out; have := HK2.out; omega
                      case rel => exact ⟨(y135), (wrap64 (x38_2 + 1)), (by first | rfl | (simp; done) | (simp [*]; done)), H', ⟨by have := HK1.out; have := HK2.out; omega⟩, ⟨by (with_reducible repeat (first | apply Kd.R_alloc | apply Kd.R_drewN | apply Kd.R_drew)); exact HO137.out⟩, ⟨by (with_reducible repeat (first | refine blk_drewN ?_ _ | refine blk_drew ?_ | refine blk_alloc ?_ _)); exact BK127.out⟩, ⟨by repeat (first | (with_reducible first | exact HB.out | apply below_alloc | apply pw_below_drewN | apply below_drew1 | refine below_set ?_ GE127.out | refine below_set ?_ GE134.out) | exact HB.out)⟩⟩
                    · rw [if_neg c17] at H
                      exact absurd H (by simp)
                  · rw [if_neg c16] at H
                    have c16b0 : (((rd_T85 l0_1 x38_2).f1) == 0) = false := beq_eq_false_iff_ne.mpr c16
                    have c16b1 : (((rd_T85 l0_1 x38_2).f1) != 0) = true := bne_iff_ne.mpr c16
                    by_cases c22 : x3_2.length < 3518437208883
                    · rw [if_pos c22] at H
                      have LMc22 := Aside0.mk c22
                      clear c22
                      obtain ⟨y138, hy138⟩ : ∃ y_ : List (S164), y_ = (x3_2 ++ [(⟨(rd_T85 l0_1 x38_2).f0, 3, x38_2, (rd_T85 l0_1 x38_2).f3⟩ : S164)]) := ⟨_, rfl⟩
                      replace H : (check_declarations.l1 k2 y138 l0_1 (l0_1.length : Int) (wrap64 (x38_2 + 1)) l0_0 l0_1 l0_2 l0_3 l0_4 l0_5) = some r := by first | (rw [hy138]; with_reducible exact H) | (have H2_ := (Option.bind_some _ _).symm.trans H; rw [hy138]; with_reducible exact H2_) | (have H2_ := (Option.bind_some _ _).symm.trans H; with_reducible exact H2_) | with_reducible exact H | (rw [hy138]; exact H) | exact H
                      have Ny138 := Aside0.mk hy138
                      clear hy138
                      have H' := Aside0.mk H
                      clear H
                      have p133 : 0 ≤ (x38_2 : Int) := of_decide_eq_true (by first | (with_reducible assumption) | assumption)
                      have q133 : x38_2 < (l0_1.length : Int) := of_decide_eq_true (by first | (with_reducible assumption) | assumption)
                      obtain ⟨ad133, e133, hx133_0, hx133_1, hx133_2, hx133_3⟩ := at_T85 HR0_1.out x38_2 p133 q133
                      cases e133
                      replace hx133_0 := (HB.out.cell (World.block_lt_of_cell? w _ hx133_0)).trans hx133_0
                      replace hx133_1 := (HB.out.cell (World.block_lt_of_cell? w _ hx133_1)).trans hx133_1
                      replace hx133_2 := (HB.out.cell (World.block_lt_of_cell? w _ hx133_2)).trans hx133_2
                      replace hx133_3 := (HB.out.cell (World.block_lt_of_cell? w _ hx133_3)).trans hx133_3
                      replace p133 := eq_true p133
                      replace q133 := eq_true q133
                      go_wp2_with (first | ((with_reducible refine gate_dst (N := 7) rfl ?_); refine box_event ?hg (N := 7) ?hd (cs := #[.string (⟨#[]⟩ : ByteArray), .int .i64 0, .int .i16 0, .int .i64 0]) (t := 85) ?hr ?_; (case hd => rfl); (case hg => rfl); (case hr => first | (go_simp; done) | (go_simp; rfl)); intro gb134 hg w23 hbox hb; have n0_ := Aside0.mk (Kd.R_below (by (with_reducible repeat (first | apply Kd.R_alloc | apply Kd.R_drewN | apply Kd.R_drew)); exact HO_3.out) hb); have n1_ := Aside0.mk (blk_below (g := gb127) (o := .cells #[.slice A0_0 l0_0.length c0_0, .slice (some ad133) l0_1.length c0_1, .slice A0_2 l0_2.length c0_2, .slice A0_3 l0_3.length c0_3, .slice A0_4 l0_4.length c0_4, .slice A0_5 l0_5.length c0_5] 28 (0, 0)) (by (with_reducible repeat (first | refine blk_drewN ?_ _ | refine blk_drew ?_ | refine blk_alloc ?_ _)); exact BK127.out) hb); have n2_ := Aside0.mk (below_step (by repeat (first | (with_reducible first | exact HB.out | apply below_alloc | apply pw_below_drewN | apply below_drew1 | refine below_set ?_ GE127.out) | exact HB.out)) hb); have n3_ := Aside0.mk (hbox); have n4_ := Aside0.mk ((by rw [hg]; exact (below_size (by repeat (first | (with_reducible first | exact HB.out | apply below_alloc | apply pw_below_drewN | apply below_drew1 | refine below_set ?_ GE127.out) | exact HB.out))) : w.heap.size ≤ gb134)); have n5_ := Aside0.mk ((by rw [hg]; exact (below_size (by repeat (first | (with_reducible first | exact HB.out | apply below_alloc | apply pw_below_drewN | apply below_drew1 | refine below_set ?_ GE127.out) | exact HB.out))) : w.heap.size ≤ gb134)); have n6_ := Aside0.mk ((by rw [hg]; exact Nat.ne_of_lt (blk_lt (g := gb127) (o := .cells #[.slice A0_0 l0_0.length c0_0, .slice (some ad133) l0_1.length c0_1, .slice A0_2 l0_2.length c0_2, .slice A0_3 l0_3.length c0_3, .slice A0_4 l0_4.length c0_4, .slice A0_5 l0_5.length c0_5] 28 (0, 0)) (by (with_reducible repeat (first | refine blk_drewN ?_ _ | refine blk_drew ?_ | refine blk_alloc ?_ _)); exact BK127.out)) : gb127 ≠ gb134)); have n7_ := Aside0.mk ((by rw [hg]; exact Nat.ne_of_gt (blk_lt (g := gb127) (o := .cells #[.slice A0_0 l0_0.length c0_0, .slice (some ad133) l0_1.length c0_1, .slice A0_2 l0_2.length c0_2, .slice A0_3 l0_3.length c0_3, .slice A0_4 l0_4.length c0_4, .slice A0_5 l0_5.length c0_5] 28 (0, 0)) (by (with_reducible repeat (first | refine blk_drewN ?_ _ | refine blk_drew ?_ | refine blk_alloc ?_ _)); exact BK127.out)) : gb134 ≠ gb127)); clear HO_3; clear BK127; clear HB; have HO_3 := n0_; have BK127 := n1_; have HB := n2_; have BK134 := n3_; have GW134 := n4_; have GE134 := n5_; have NB127_134 := n6_; have NB134_127 := n7_; clear n0_ n1_ n2_ n3_ n4_ n5_ n6_ n7_; clear hb hbox hg; have hnb24 := NB134_127.out; have hnc24 := NB127_134.out; have hcz25_0 : w23.cell? ⟨gb134, 0, none⟩ = some (.string (⟨#[]⟩ : ByteArray)) := (blk_cell BK134.out 0).trans rfl; have hcz25_1 : w23.cell? ⟨gb134, 1, none⟩ = some (.int .i64 0) := (blk_cell BK134.out 1).trans rfl; have hcz25_2 : w23.cell? ⟨gb134, 2, none⟩ = some (.int .i16 0) := (blk_cell BK134.out 2).trans rfl; have hcz25_3 : w23.cell? ⟨gb134, 3, none⟩ = some (.int .i64 0) := (blk_cell BK134.out 3).trans rfl; have hfz25_0 := blk_frozen BK134.out 0; have hfz25_1 := blk_frozen BK134.out 1; have hfz25_2 := blk_frozen BK134.out 2; have hfz25_3 := blk_frozen BK134.out 3) | ((with_reducible refine gate_builtin (b := .append) (xs := #[.tmp 46, .tmp 54]) rfl ?_); at_builtin; refine Kd.R_append k164 (w0 := w) w.heap.size rfl (.tmp 46) (.tmp 54) 179 164 (.agg #[(.string ⟨#[]⟩), (.int .i64 0), (.int .i64 0), (.int .i64 0)]) 40 rfl Try.underlying179 info164 rfl (by decide) (by omega) u3 x3_2 (⟨(rd_T85 l0_1 x38_2).f0, 3, x38_2, (rd_T85 l0_1 x38_2).f3⟩ : S164) [.string ((rd_T85 l0_1 x38_2).f0), .int .i64 3, .int .i64 x38_2, .int .i64 ((rd_T85 l0_1 x38_2).f3)] (fun _ => True) (fun _ => False) rfl (by first | (go_simp; done) | (go_simp; rfl)) ?aP (fun _ hk => hk.elim) ?aF ?aO ?aB ?aS ?aL ?_; (case aP => exact k164_mkM _ _ _ (⟨(rd_T85 l0_1 x38_2).f0, 3, x38_2, (rd_T85 l0_1 x38_2).f3⟩ : S164)); (case aB => exact (by repeat (first | (with_reducible first | exact HB.out | apply below_alloc | apply pw_below_drewN | apply below_drew1 | refine below_set ?_ GE127.out | refine below_set ?_ GE134.out) | exact HB.out))); (case aF => exact (fun _ _ => trivial)); (case aO => exact (by (with_reducible repeat (first | apply Kd.R_alloc | apply Kd.R_drewN | apply Kd.R_drew)); exact Kd.R_mono (Kd.R_far (p := ⟨gb134, 3, none⟩) (Kd.R_far (p := ⟨gb134, 2, none⟩) (Kd.R_far (p := ⟨gb134, 1, none⟩) (Kd.R_far (p := ⟨gb134, 0, none⟩) (Kd.R_types HO_3.out BK134.out (by decide)) (fun _ hk => hk.2) (.string ((rd_T85 l0_1 x38_2).f0))) (fun _ hk => hk.2) (.int .i64 ((rd_T85 l0_1 x38_2).f1))) (fun _ hk => hk.2) (.int .i16 ((rd_T85 l0_1 x38_2).f2))) (fun _ hk => hk.2) (.int .i64 ((rd_T85 l0_1 x38_2).f3))) (fun _ hk => trivial))); (case aS => exact (below_size (by repeat (first | (with_reducible first | exact HB.out | apply below_alloc | apply pw_below_drewN | apply below_drew1 | refine below_set ?_ GE127.out | refine below_set ?_ GE134.out) | exact HB.out)))); (case aL => have := LMc22.out; omega); intro v139 w26 ho hb hg hat; rw [← Ny138.out] at ho; have n0_ := Aside0.mk (blk_grown (g := gb127) (o := .cells #[.slice A0_0 l0_0.length c0_0, .slice (some ad133) l0_1.length c0_1, .slice A0_2 l0_2.length c0_2, .slice A0_3 l0_3.length c0_3, .slice A0_4 l0_4.length c0_4, .slice A0_5 l0_5.length c0_5] 28 (0, 0)) (by (with_reducible repeat (first | refine blk_drewN ?_ _ | refine blk_drew ?_ | refine blk_alloc ?_ _)); refine blk_far ?_ NB127_134.out _; (with_reducible repeat (first | refine blk_drewN ?_ _ | refine blk_drew ?_ | refine blk_alloc ?_ _)); refine blk_far ?_ NB127_134.out _; (with_reducible repeat (first | refine blk_drewN ?_ _ | refine blk_drew ?_ | refine blk_alloc ?_ _)); refine blk_far ?_ NB127_134.out _; (with_reducible repeat (first | refine blk_drewN ?_ _ | refine blk_drew ?_ | refine blk_alloc ?_ _)); refine blk_far ?_ NB127_134.out _; (with_reducible repeat (first | refine blk_drewN ?_ _ | refine blk_drew ?_ | refine blk_alloc ?_ _)); exact BK127.out) hg (Kd.R_ne HO_3.out BK127.out (by decide))); have n1_ := Aside0.mk (blk_grown (g := gb134) (o := .cells #[.string ((rd_T85 l0_1 x38_2).f0), .int .i64 ((rd_T85 l0_1 x38_2).f1), .int .i16 ((rd_T85 l0_1 x38_2).f2), .int .i64 ((rd_T85 l0_1 x38_2).f3)] 85 (0, 0)) (by (with_reducible repeat (first | refine blk_drewN ?_ _ | refine blk_drew ?_ | refine blk_alloc ?_ _)); refine blk_put (cs := #[.string ((rd_T85 l0_1 x38_2).f0), .int .i64 ((rd_T85 l0_1 x38_2).f1), .int .i16 ((rd_T85 l0_1 x38_2).f2), .int .i64 0]) ?_ 3 _ rfl; (with_reducible repeat (first | refine blk_drewN ?_ _ | refine blk_drew ?_ | refine blk_alloc ?_ _)); refine blk_put (cs := #[.string ((rd_T85 l0_1 x38_2).f0), .int .i64 ((rd_T85 l0_1 x38_2).f1), .int .i16 0, .int .i64 0]) ?_ 2 _ rfl; (with_reducible repeat (first | refine blk_drewN ?_ _ | refine blk_drew ?_ | refine blk_alloc ?_ _)); refine blk_put (cs := #[.string ((rd_T85 l0_1 x38_2).f0), .int .i64 0, .int .i16 0, .int .i64 0]) ?_ 1 _ rfl; (with_reducible repeat (first | refine blk_drewN ?_ _ | refine blk_drew ?_ | refine blk_alloc ?_ _)); refine blk_put (cs := #[.string (⟨#[]⟩ : ByteArray), .int .i64 0, .int .i16 0, .int .i64 0]) ?_ 0 _ rfl; (with_reducible repeat (first | refine blk_drewN ?_ _ | refine blk_drew ?_ | refine blk_alloc ?_ _)); exact BK134.out) hg (Kd.R_ne HO_3.out BK134.out (by decide))); have n2_ := Aside0.mk (hb); have n3_ := Aside0.mk (ho); clear BK127; clear BK134; clear HB; clear HO_3; have BK127 := n0_; have BK134 := n1_; have HB := n2_; have HO140 := n3_; clear n0_ n1_ n2_ n3_; clear ho hb hg hat))
                      go_roundg k2
                      case measure => have := HK1.out; have := HK2.out; omega
                      case rel => exact ⟨(y138), (wrap64 (x38_2 + 1)), (by first | rfl | (simp; done) | (simp [*]; done)), H', ⟨by have := HK1.out; have := HK2.out; omega⟩, ⟨by (with_reducible repeat (first | apply Kd.R_alloc | apply Kd.R_drewN | apply Kd.R_drew)); exact HO140.out⟩, ⟨by (with_reducible repeat (first | refine blk_drewN ?_ _ | refine blk_drew ?_ | refine blk_alloc ?_ _)); exact BK127.out⟩, ⟨by repeat (first | (with_reducible first | exact HB.out | apply below_alloc | apply pw_below_drewN | apply below_drew1 | refine below_set ?_ GE127.out | refine below_set ?_ GE134.out) | exact HB.out)⟩⟩
                    · rw [if_neg c22] at H
                      exact absurd H (by simp)
                · rw [if_neg c15] at H
                  exact absurd H (by simp)
              · rw [if_neg c14] at H
                exact absurd H (by simp)
            · rw [if_neg c13] at H
              have c13b0 : decide (x38_2 < (l0_1.length : Int)) = false := decide_eq_false c13
              clear c13
              have H' := Aside0.mk H
              clear H
              have hcz27_0 : wr.cell? ⟨gb127, 0, none⟩ = some (.slice A0_0 l0_0.length c0_0) := (blk_cell BK127.out 0).trans rfl
              have hcz27_1 : wr.cell? ⟨gb127, 1, none⟩ = some (.slice A0_1 l0_1.length c0_1) := (blk_cell BK127.out 1).trans rfl
              have hcz27_2 : wr.cell? ⟨gb127, 2, none⟩ = some (.slice A0_2 l0_2.length c0_2) := (blk_cell BK127.out 2).trans rfl
              have hcz27_3 : wr.cell? ⟨gb127, 3, none⟩ = some (.slice A0_3 l0_3.length c0_3) := (blk_cell BK127.out 3).trans rfl
              have hcz27_4 : wr.cell? ⟨gb127, 4, none⟩ = some (.slice A0_4 l0_4.length c0_4) := (blk_cell BK127.out 4).trans rfl
              have hcz27_5 : wr.cell? ⟨gb127, 5, none⟩ = some (.slice A0_5 l0_5.length c0_5) := (blk_cell BK127.out 5).trans rfl
              have hfz27_0 := blk_frozen BK127.out 0
              have hfz27_1 := blk_frozen BK127.out 1
              have hfz27_2 := blk_frozen BK127.out 2
              have hfz27_3 := blk_frozen BK127.out 3
              have hfz27_4 := blk_frozen BK127.out 4
              have hfz27_5 := blk_frozen BK127.out 5
              go_wp2
              go_loopg [3, 60] k2 (fun kq v3 v60 w' => ∃ (x3_3 : List (S164)) (x60_3 : Int), v60 = .int .i64 x60_3 ∧ Aside0 (check_declarations.l2 kq x3_3 l0_2 (l0_2.length : Int) x60_3 l0_0 l0_1 l0_2 l0_3 l0_4 l0_5 = some r) ∧ Aside0 (kq ≤ k2) ∧ Aside0 (Kd.R k164 164 w' w.heap.size (fun _ => True) v3 x3_3) ∧ Aside0 (w'.heap[gb127]? = some (.cells #[(.slice A0_0 l0_0.length c0_0), (.slice A0_1 l0_1.length c0_1), (.slice A0_2 l0_2.length c0_2), (.slice A0_3 l0_3.length c0_3), (.slice A0_4 l0_4.length c0_4), (.slice A0_5 l0_5.length c0_5)] 28 (0, 0))) ∧ Aside0 (Below w.heap.size w w'))
              case atStart => exact ⟨(x3_2), (0), (by first | rfl | (simp; done) | (simp [*]; done)), H', ⟨Nat.le_refl _⟩, ⟨by (with_reducible repeat (first | apply Kd.R_alloc | apply Kd.R_drewN | apply Kd.R_drew)); exact HO_3.out⟩, ⟨by (with_reducible repeat (first | refine blk_drewN ?_ _ | refine blk_drew ?_ | refine blk_alloc ?_ _)); exact BK127.out⟩, ⟨by repeat (first | (with_reducible first | exact HB.out | apply below_alloc | apply pw_below_drewN | apply below_drew1 | refine below_set ?_ GE127.out) | exact HB.out)⟩⟩
              case round =>
                clear H'
                try clear c1
                try clear p1
                try clear q1
                try clear hx1
                try clear c2
                try clear p2
                try clear c4
                try clear c4b0
                try clear c5
                try clear c5b0
                try clear c6
                try clear c6b0
                try clear p6
                try clear c7
                try clear c9
                try clear c11
                try clear p12
                try clear q12
                try clear hx12
                try clear c13
                try clear c13b0
                try clear p13
                try clear q13
                try clear hx13
                try clear c14
                try clear c14b0
                try clear c15
                try clear c15b0
                try clear c16
                try clear c16b0
                try clear c16b1
                try clear c17
                try clear c19
                try clear c22
                try clear c24
                try clear hcz10_0
                try clear hcz10_1
                try clear hcz10_2
                try clear hcz12_0
                try clear hcz12_1
                try clear hcz12_2
                try clear hcz12_3
                try clear hcz12_4
                try clear hcz12_5
                try clear hcz20_0
                try clear hcz20_1
                try clear hcz20_2
                try clear hcz20_3
                try clear hcz25_0
                try clear hcz25_1
                try clear hcz25_2
                try clear hcz25_3
                try clear hcz27_0
                try clear hcz27_1
                try clear hcz27_2
                try clear hcz27_3
                try clear hcz27_4
                try clear hcz27_5
                try clear hcz3_0
                try clear hcz3_1
                try clear hcz3_2
                try clear hcz3_3
                try clear hcz3_4
                try clear hcz3_5
                try clear hfz10_0
                try clear hfz10_1
                try clear hfz10_2
                try clear hfz12_0
                try clear hfz12_1
                try clear hfz12_2
                try clear hfz12_3
                try clear hfz12_4
                try clear hfz12_5
                try clear hfz20_0
                try clear hfz20_1
                try clear hfz20_2
                try clear hfz20_3
                try clear hfz25_0
                try clear hfz25_1
                try clear hfz25_2
                try clear hfz25_3
                try clear hfz27_0
                try clear hfz27_1
                try clear hfz27_2
                try clear hfz27_3
                try clear hfz27_4
                try clear hfz27_5
                try clear hfz3_0
                try clear hfz3_1
                try clear hfz3_2
                try clear hfz3_3
                try clear hfz3_4
                try clear hfz3_5
                try clear hx128_0
                try clear hx128_1
                try clear hx128_2
                try clear hx133_0
                try clear hx133_1
                try clear hx133_2
                try clear hx133_3
                try clear p1
                try clear p12
                try clear p128
                try clear p133
                try clear p2
                try clear p6
                try clear q1
                try clear q12
                try clear q128
                try clear q133
                obtain ⟨x3_3, x60_3, rfl, HA, HK3, HO_3, BK127, HB⟩ := hrel
                cases gk with
                | zero => exact absurd HA.out (by simp [check_declarations.l2])
                | succ k3 =>
                  have H := HA.out
                  clear HA
                  simp only [check_declarations.l2] at H
                  by_cases c28 : x60_3 < (l0_2.length : Int)
                  · rw [if_pos c28] at H
                    have c28b0 : decide (x60_3 < (l0_2.length : Int)) = true := decide_eq_true c28
                    clear c28
                    by_cases c29 : 0 ≤ x60_3
                    · rw [if_pos c29] at H
                      have c29b0 : decide (0 ≤ x60_3) = true := decide_eq_true c29
                      clear c29
                      by_cases c30 : x60_3 < (l0_2.length : Int)
                      · rw [if_pos c30] at H
                        have c30b0 : decide (x60_3 < (l0_2.length : Int)) = true := decide_eq_true c30
                        clear c30
                        by_cases c31 : x3_3.length < 3518437208883
                        · rw [if_pos c31] at H
                          have LMc31 := Aside0.mk c31
                          clear c31
                          obtain ⟨y142, hy142⟩ : ∃ y_ : List (S164), y_ = (x3_3 ++ [(⟨rdOf ByteArray.empty l0_2 x60_3, 4, x60_3, 0⟩ : S164)]) := ⟨_, rfl⟩
                          replace H : (check_declarations.l2 k3 y142 l0_2 (l0_2.length : Int) (wrap64 (x60_3 + 1)) l0_0 l0_1 l0_2 l0_3 l0_4 l0_5) = some r := by first | (rw [hy142]; with_reducible exact H) | (have H2_ := (Option.bind_some _ _).symm.trans H; rw [hy142]; with_reducible exact H2_) | (have H2_ := (Option.bind_some _ _).symm.trans H; with_reducible exact H2_) | with_reducible exact H | (rw [hy142]; exact H) | exact H
                          have Ny142 := Aside0.mk hy142
                          clear hy142
                          have H' := Aside0.mk H
                          clear H
                          have p141 : 0 ≤ (x60_3 : Int) := of_decide_eq_true (by first | (with_reducible assumption) | assumption)
                          have q141 : x60_3 < (l0_2.length : Int) := of_decide_eq_true (by first | (with_reducible assumption) | assumption)
                          obtain ⟨ad141, e141, hx141_0⟩ := Kd.at_string HR0_2.out x60_3 p141 q141
                          cases e141
                          replace hx141_0 := (HB.out.cell (World.block_lt_of_cell? w _ hx141_0)).trans hx141_0
                          replace p141 := eq_true p141
                          replace q141 := eq_true q141
                          go_wp2_with (first | ((with_reducible refine gate_builtin (b := .append) (xs := #[.tmp 65, .tmp 69]) rfl ?_); at_builtin; refine Kd.R_append k164 (w0 := w) w.heap.size rfl (.tmp 65) (.tmp 69) 179 164 (.agg #[(.string ⟨#[]⟩), (.int .i64 0), (.int .i64 0), (.int .i64 0)]) 40 rfl Try.underlying179 info164 rfl (by decide) (by omega) u3 x3_3 (⟨rdOf ByteArray.empty l0_2 x60_3, 4, x60_3, 0⟩ : S164) [.string (rdOf ByteArray.empty l0_2 x60_3), .int .i64 4, .int .i64 x60_3, .int .i64 0] (fun _ => True) (fun _ => False) rfl rfl ?aP (fun _ hk => hk.elim) ?aF ?aO ?aB ?aS ?aL ?_; (case aP => exact k164_mkM _ _ _ (⟨rdOf ByteArray.empty l0_2 x60_3, 4, x60_3, 0⟩ : S164)); (case aB => exact (by repeat (first | (with_reducible first | exact HB.out | apply below_alloc | apply pw_below_drewN | apply below_drew1 | refine below_set ?_ GE127.out) | exact HB.out))); (case aF => exact (fun _ _ => trivial)); (case aO => exact (by (with_reducible repeat (first | apply Kd.R_alloc | apply Kd.R_drewN | apply Kd.R_drew)); exact HO_3.out)); (case aS => exact (below_size (by repeat (first | (with_reducible first | exact HB.out | apply below_alloc | apply pw_below_drewN | apply below_drew1 | refine below_set ?_ GE127.out) | exact HB.out)))); (case aL => have := LMc31.out; omega); intro v143 w32 ho hb hg hat; rw [← Ny142.out] at ho; have n0_ := Aside0.mk (blk_grown (g := gb127) (o := .cells #[.slice A0_0 l0_0.length c0_0, .slice A0_1 l0_1.length c0_1, .slice (some ad141) l0_2.length c0_2, .slice A0_3 l0_3.length c0_3, .slice A0_4 l0_4.length c0_4, .slice A0_5 l0_5.length c0_5] 28 (0, 0)) (by (with_reducible repeat (first | refine blk_drewN ?_ _ | refine blk_drew ?_ | refine blk_alloc ?_ _)); exact BK127.out) hg (Kd.R_ne HO_3.out BK127.out (by decide))); have n1_ := Aside0.mk (hb); have n2_ := Aside0.mk (ho); clear BK127; clear HB; clear HO_3; have BK127 := n0_; have HB := n1_; have HO144 := n2_; clear n0_ n1_ n2_; clear ho hb hg hat))
                          go_roundg k3
                          case measure => have := HK1.out; have := HK2.out; have := HK3.out; omega
                          case rel => exact ⟨(y142), (wrap64 (x60_3 + 1)), (by first | rfl | (simp; done) | (simp [*]; done)), H', ⟨by have := HK1.out; have := HK2.out; have := HK3.out; omega⟩, ⟨by (with_reducible repeat (first | apply Kd.R_alloc | apply Kd.R_drewN | apply Kd.R_drew)); exact HO144.out⟩, ⟨by (with_reducible repeat (first | refine blk_drewN ?_ _ | refine blk_drew ?_ | refine blk_alloc ?_ _)); exact BK127.out⟩, ⟨by repeat (first | (with_reducible first | exact HB.out | apply below_alloc | apply pw_below_drewN | apply below_drew1 | refine below_set ?_ GE127.out) | exact HB.out)⟩⟩
                        · rw [if_neg c31] at H
                          exact absurd H (by simp)
                      · rw [if_neg c30] at H
                        exact absurd H (by simp)
                    · rw [if_neg c29] at H
                      exact absurd H (by simp)
                  · rw [if_neg c28] at H
                    have c28b0 : decide (x60_3 < (l0_2.length : Int)) = false := decide_eq_false c28
                    clear c28
                    have H' := Aside0.mk H
                    clear H
                    have hcz33_0 : wr.cell? ⟨gb127, 0, none⟩ = some (.slice A0_0 l0_0.length c0_0) := (blk_cell BK127.out 0).trans rfl
                    have hcz33_1 : wr.cell? ⟨gb127, 1, none⟩ = some (.slice A0_1 l0_1.length c0_1) := (blk_cell BK127.out 1).trans rfl
                    have hcz33_2 : wr.cell? ⟨gb127, 2, none⟩ = some (.slice A0_2 l0_2.length c0_2) := (blk_cell BK127.out 2).trans rfl
                    have hcz33_3 : wr.cell? ⟨gb127, 3, none⟩ = some (.slice A0_3 l0_3.length c0_3) := (blk_cell BK127.out 3).trans rfl
                    have hcz33_4 : wr.cell? ⟨gb127, 4, none⟩ = some (.slice A0_4 l0_4.length c0_4) := (blk_cell BK127.out 4).trans rfl
                    have hcz33_5 : wr.cell? ⟨gb127, 5, none⟩ = some (.slice A0_5 l0_5.length c0_5) := (blk_cell BK127.out 5).trans rfl
                    have hfz33_0 := blk_frozen BK127.out 0
                    have hfz33_1 := blk_frozen BK127.out 1
                    have hfz33_2 := blk_frozen BK127.out 2
                    have hfz33_3 := blk_frozen BK127.out 3
                    have hfz33_4 := blk_frozen BK127.out 4
                    have hfz33_5 := blk_frozen BK127.out 5
                    go_wp2
                    go_loopg [3, 75] k3 (fun kq v3 v75 w' => ∃ (x3_4 : List (S164)) (x75_4 : Int), v75 = .int .i64 x75_4 ∧ Aside0 (check_declarations.l3 kq x3_4 l0_3 (l0_3.length : Int) x75_4 l0_0 l0_1 l0_2 l0_3 l0_4 l0_5 = some r) ∧ Aside0 (kq ≤ k3) ∧ Aside0 (Kd.R k164 164 w' w.heap.size (fun _ => True) v3 x3_4) ∧ Aside0 (w'.heap[gb127]? = some (.cells #[(.slice A0_0 l0_0.length c0_0), (.slice A0_1 l0_1.length c0_1), (.slice A0_2 l0_2.length c0_2), (.slice A0_3 l0_3.length c0_3), (.slice A0_4 l0_4.length c0_4), (.slice A0_5 l0_5.length c0_5)] 28 (0, 0))) ∧ Aside0 (Below w.heap.size w w'))
                    case atStart => exact ⟨(x3_3), (0), (by first | rfl | (simp; done) | (simp [*]; done)), H', ⟨Nat.le_refl _⟩, ⟨by (with_reducible repeat (first | apply Kd.R_alloc | apply Kd.R_drewN | apply Kd.R_drew)); exact HO_3.out⟩, ⟨by (with_reducible repeat (first | refine blk_drewN ?_ _ | refine blk_drew ?_ | refine blk_alloc ?_ _)); exact BK127.out⟩, ⟨by repeat (first | (with_reducible first | exact HB.out | apply below_alloc | apply pw_below_drewN | apply below_drew1 | refine below_set ?_ GE127.out) | exact HB.out)⟩⟩
                    case round =>
                      clear H'
                      try clear c1
                      try clear p1
                      try clear q1
                      try clear hx1
                      try clear c2
                      try clear p2
                      try clear c3
                      try clear c4
                      try clear c4b0
                      try clear c5
                      try clear c5b0
                      try clear c6
                      try clear c6b0
                      try clear p6
                      try clear c7
                      try clear c9
                      try clear c11
                      try clear p12
                      try clear q12
                      try clear hx12
                      try clear c13
                      try clear c13b0
                      try clear p13
                      try clear q13
                      try clear hx13
                      try clear c14
                      try clear c14b0
                      try clear p14
                      try clear q14
                      try clear hx14
                      try clear c15
                      try clear c15b0
                      try clear c16
                      try clear c16b0
                      try clear c16b1
                      try clear c17
                      try clear c19
                      try clear c22
                      try clear c24
                      try clear c28
                      try clear c28b0
                      try clear c29
                      try clear c29b0
                      try clear c30
                      try clear c30b0
                      try clear c31
                      try clear hcz10_0
                      try clear hcz10_1
                      try clear hcz10_2
                      try clear hcz12_0
                      try clear hcz12_1
                      try clear hcz12_2
                      try clear hcz12_3
                      try clear hcz12_4
                      try clear hcz12_5
                      try clear hcz20_0
                      try clear hcz20_1
                      try clear hcz20_2
                      try clear hcz20_3
                      try clear hcz25_0
                      try clear hcz25_1
                      try clear hcz25_2
                      try clear hcz25_3
                      try clear hcz27_0
                      try clear hcz27_1
                      try clear hcz27_2
                      try clear hcz27_3
                      try clear hcz27_4
                      try clear hcz27_5
                      try clear hcz33_0
                      try clear hcz33_1
                      try clear hcz33_2
                      try clear hcz33_3
                      try clear hcz33_4
                      try clear hcz33_5
                      try clear hcz3_0
                      try clear hcz3_1
                      try clear hcz3_2
                      try clear hcz3_3
                      try clear hcz3_4
                      try clear hcz3_5
                      try clear hfz10_0
                      try clear hfz10_1
                      try clear hfz10_2
                      try clear hfz12_0
                      try clear hfz12_1
                      try clear hfz12_2
                      try clear hfz12_3
                      try clear hfz12_4
                      try clear hfz12_5
                      try clear hfz20_0
                      try clear hfz20_1
                      try clear hfz20_2
                      try clear hfz20_3
                      try clear hfz25_0
                      try clear hfz25_1
                      try clear hfz25_2
                      try clear hfz25_3
                      try clear hfz27_0
                      try clear hfz27_1
                      try clear hfz27_2
                      try clear hfz27_3
                      try clear hfz27_4
                      try clear hfz27_5
                      try clear hfz33_0
                      try clear hfz33_1
                      try clear hfz33_2
                      try clear hfz33_3
                      try clear hfz33_4
                      try clear hfz33_5
                      try clear hfz3_0
                      try clear hfz3_1
                      try clear hfz3_2
                      try clear hfz3_3
                      try clear hfz3_4
                      try clear hfz3_5
                      try clear hx128_0
                      try clear hx128_1
                      try clear hx128_2
                      try clear hx133_0
                      try clear hx133_1
                      try clear hx133_2
                      try clear hx133_3
                      try clear hx141_0
                      try clear p1
                      try clear p12
                      try clear p128
                      try clear p13
                      try clear p133
                      try clear p141
                      try clear p2
                      try clear p6
                      try clear q1
                      try clear q12
                      try clear q128
                      try clear q13
                      try clear q133
                      try clear q141
                      obtain ⟨x3_4, x75_4, rfl, HA, HK4, HO_3, BK127, HB⟩ := hrel
                      cases gk with
                      | zero => exact absurd HA.out (by simp [check_declarations.l3])
                      | succ k4 =>
                        have H := HA.out
                        clear HA
                        simp only [check_declarations.l3] at H
                        by_cases c34 : x75_4 < (l0_3.length : Int)
                        · rw [if_pos c34] at H
                          have c34b0 : decide (x75_4 < (l0_3.length : Int)) = true := decide_eq_true c34
                          clear c34
                          by_cases c35 : 0 ≤ x75_4
                          · rw [if_pos c35] at H
                            have c35b0 : decide (0 ≤ x75_4) = true := decide_eq_true c35
                            clear c35
                            by_cases c36 : x75_4 < (l0_3.length : Int)
                            · rw [if_pos c36] at H
                              have c36b0 : decide (x75_4 < (l0_3.length : Int)) = true := decide_eq_true c36
                              clear c36
                              by_cases c37 : x3_4.length < 3518437208883
                              · rw [if_pos c37] at H
                                have LMc37 := Aside0.mk c37
                                clear c37
                                obtain ⟨y146, hy146⟩ : ∃ y_ : List (S164), y_ = (x3_4 ++ [(⟨rdOf ByteArray.empty l0_3 x75_4, 5, x75_4, 0⟩ : S164)]) := ⟨_, rfl⟩
                                replace H : (check_declarations.l3 k4 y146 l0_3 (l0_3.length : Int) (wrap64 (x75_4 + 1)) l0_0 l0_1 l0_2 l0_3 l0_4 l0_5) = some r := by first | (rw [hy146]; with_reducible exact H) | (have H2_ := (Option.bind_some _ _).symm.trans H; rw [hy146]; with_reducible exact H2_) | (have H2_ := (Option.bind_some _ _).symm.trans H; with_reducible exact H2_) | with_reducible exact H | (rw [hy146]; exact H) | exact H
                                have Ny146 := Aside0.mk hy146
                                clear hy146
                                have H' := Aside0.mk H
                                clear H
                                have p145 : 0 ≤ (x75_4 : Int) := of_decide_eq_true (by first | (with_reducible assumption) | assumption)
                                have q145 : x75_4 < (l0_3.length : Int) := of_decide_eq_true (by first | (with_reducible assumption) | assumption)
                                obtain ⟨ad145, e145, hx145_0⟩ := Kd.at_string HR0_3.out x75_4 p145 q145
                                cases e145
                                replace hx145_0 := (HB.out.cell (World.block_lt_of_cell? w _ hx145_0)).trans hx145_0
                                replace p145 := eq_true p145
                                replace q145 := eq_true q145
                                go_wp2_with (first | ((with_reducible refine gate_builtin (b := .append) (xs := #[.tmp 80, .tmp 84]) rfl ?_); at_builtin; refine Kd.R_append k164 (w0 := w) w.heap.size rfl (.tmp 80) (.tmp 84) 179 164 (.agg #[(.string ⟨#[]⟩), (.int .i64 0), (.int .i64 0), (.int .i64 0)]) 40 rfl Try.underlying179 info164 rfl (by decide) (by omega) u3 x3_4 (⟨rdOf ByteArray.empty l0_3 x75_4, 5, x75_4, 0⟩ : S164) [.string (rdOf ByteArray.empty l0_3 x75_4), .int .i64 5, .int .i64 x75_4, .int .i64 0] (fun _ => True) (fun _ => False) rfl rfl ?aP (fun _ hk => hk.elim) ?aF ?aO ?aB ?aS ?aL ?_; (case aP => exact k164_mkM _ _ _ (⟨rdOf ByteArray.empty l0_3 x75_4, 5, x75_4, 0⟩ : S164)); (case aB => exact (by repeat (first | (with_reducible first | exact HB.out | apply below_alloc | apply pw_below_drewN | apply below_drew1 | refine below_set ?_ GE127.out) | exact HB.out))); (case aF => exact (fun _ _ => trivial)); (case aO => exact (by (with_reducible repeat (first | apply Kd.R_alloc | apply Kd.R_drewN | apply Kd.R_drew)); exact HO_3.out)); (case aS => exact (below_size (by repeat (first | (with_reducible first | exact HB.out | apply below_alloc | apply pw_below_drewN | apply below_drew1 | refine below_set ?_ GE127.out) | exact HB.out)))); (case aL => have := LMc37.out; omega); intro v147 w38 ho hb hg hat; rw [← Ny146.out] at ho; have n0_ := Aside0.mk (blk_grown (g := gb127) (o := .cells #[.slice A0_0 l0_0.length c0_0, .slice A0_1 l0_1.length c0_1, .slice A0_2 l0_2.length c0_2, .slice (some ad145) l0_3.length c0_3, .slice A0_4 l0_4.length c0_4, .slice A0_5 l0_5.length c0_5] 28 (0, 0)) (by (with_reducible repeat (first | refine blk_drewN ?_ _ | refine blk_drew ?_ | refine blk_alloc ?_ _)); exact BK127.out) hg (Kd.R_ne HO_3.out BK127.out (by decide))); have n1_ := Aside0.mk (hb); have n2_ := Aside0.mk (ho); clear BK127; clear HB; clear HO_3; have BK127 := n0_; have HB := n1_; have HO148 := n2_; clear n0_ n1_ n2_; clear ho hb hg hat))
                                go_roundg k4
                                case measure => have := HK1.out; have := HK2.out; have := HK3.out; have := HK4.out; omega
                                case rel => exact ⟨(y146), (wrap64 (x75_4 + 1)), (by first | rfl | (simp; done) | (simp [*]; done)), H', ⟨by have := HK1.out; have := HK2.out; have := HK3.out; have := HK4.out; omega⟩, ⟨by (with_reducible repeat (first | apply Kd.R_alloc | apply Kd.R_drewN | apply Kd.R_drew)); exact HO148.out⟩, ⟨by (with_reducible repeat (first | refine blk_drewN ?_ _ | refine blk_drew ?_ | refine blk_alloc ?_ _)); exact BK127.out⟩, ⟨by repeat (first | (with_reducible first | exact HB.out | apply below_alloc | apply pw_below_drewN | apply below_drew1 | refine below_set ?_ GE127.out) | exact HB.out)⟩⟩
                              · rw [if_neg c37] at H
                                exact absurd H (by simp)
                            · rw [if_neg c36] at H
                              exact absurd H (by simp)
                          · rw [if_neg c35] at H
                            exact absurd H (by simp)
                        · rw [if_neg c34] at H
                          have c34b0 : decide (x75_4 < (l0_3.length : Int)) = false := decide_eq_false c34
                          clear c34
                          have H' := Aside0.mk H
                          clear H
                          have hcz39_0 : wr.cell? ⟨gb127, 0, none⟩ = some (.slice A0_0 l0_0.length c0_0) := (blk_cell BK127.out 0).trans rfl
                          have hcz39_1 : wr.cell? ⟨gb127, 1, none⟩ = some (.slice A0_1 l0_1.length c0_1) := (blk_cell BK127.out 1).trans rfl
                          have hcz39_2 : wr.cell? ⟨gb127, 2, none⟩ = some (.slice A0_2 l0_2.length c0_2) := (blk_cell BK127.out 2).trans rfl
                          have hcz39_3 : wr.cell? ⟨gb127, 3, none⟩ = some (.slice A0_3 l0_3.length c0_3) := (blk_cell BK127.out 3).trans rfl
                          have hcz39_4 : wr.cell? ⟨gb127, 4, none⟩ = some (.slice A0_4 l0_4.length c0_4) := (blk_cell BK127.out 4).trans rfl
                          have hcz39_5 : wr.cell? ⟨gb127, 5, none⟩ = some (.slice A0_5 l0_5.length c0_5) := (blk_cell BK127.out 5).trans rfl
                          have hfz39_0 := blk_frozen BK127.out 0
                          have hfz39_1 := blk_frozen BK127.out 1
                          have hfz39_2 := blk_frozen BK127.out 2
                          have hfz39_3 := blk_frozen BK127.out 3
                          have hfz39_4 := blk_frozen BK127.out 4
                          have hfz39_5 := blk_frozen BK127.out 5
                          go_wp2
                          go_loopg [3, 90] k4 (fun kq v3 v90 w' => ∃ (x3_5 : List (S164)) (x90_5 : Int), v90 = .int .i64 x90_5 ∧ Aside0 (check_declarations.l4 kq x3_5 l0_4 (l0_4.length : Int) x90_5 l0_0 l0_1 l0_2 l0_3 l0_4 l0_5 = some r) ∧ Aside0 (kq ≤ k4) ∧ Aside0 (Kd.R k164 164 w' w.heap.size (fun _ => True) v3 x3_5) ∧ Aside0 (w'.heap[gb127]? = some (.cells #[(.slice A0_0 l0_0.length c0_0), (.slice A0_1 l0_1.length c0_1), (.slice A0_2 l0_2.length c0_2), (.slice A0_3 l0_3.length c0_3), (.slice A0_4 l0_4.length c0_4), (.slice A0_5 l0_5.length c0_5)] 28 (0, 0))) ∧ Aside0 (Below w.heap.size w w'))
                          case atStart => exact ⟨(x3_4), (0), (by first | rfl | (simp; done) | (simp [*]; done)), H', ⟨Nat.le_refl _⟩, ⟨by (with_reducible repeat (first | apply Kd.R_alloc | apply Kd.R_drewN | apply Kd.R_drew)); exact HO_3.out⟩, ⟨by (with_reducible repeat (first | refine blk_drewN ?_ _ | refine blk_drew ?_ | refine blk_alloc ?_ _)); exact BK127.out⟩, ⟨by repeat (first | (with_reducible first | exact HB.out | apply below_alloc | apply pw_below_drewN | apply below_drew1 | refine below_set ?_ GE127.out) | exact HB.out)⟩⟩
                          case round =>
                            clear H'
                            try clear c1
                            try clear p1
                            try clear q1
                            try clear hx1
                            try clear c2
                            try clear p2
                            try clear c3
                            try clear c4
                            try clear c4b0
                            try clear c5
                            try clear c5b0
                            try clear c6
                            try clear c6b0
                            try clear p6
                            try clear c7
                            try clear c9
                            try clear c11
                            try clear p12
                            try clear q12
                            try clear hx12
                            try clear c13
                            try clear c13b0
                            try clear p13
                            try clear q13
                            try clear hx13
                            try clear c14
                            try clear c14b0
                            try clear p14
                            try clear q14
                            try clear hx14
                            try clear c15
                            try clear c15b0
                            try clear c16
                            try clear c16b0
                            try clear c16b1
                            try clear c17
                            try clear c19
                            try clear c22
                            try clear c24
                            try clear c28
                            try clear c28b0
                            try clear c29
                            try clear c29b0
                            try clear c30
                            try clear c30b0
                            try clear c31
                            try clear c34
                            try clear c34b0
                            try clear c35
                            try clear c35b0
                            try clear c36
                            try clear c36b0
                            try clear c37
                            try clear hcz10_0
                            try clear hcz10_1
                            try clear hcz10_2
                            try clear hcz12_0
                            try clear hcz12_1
                            try clear hcz12_2
                            try clear hcz12_3
                            try clear hcz12_4
                            try clear hcz12_5
                            try clear hcz20_0
                            try clear hcz20_1
                            try clear hcz20_2
                            try clear hcz20_3
                            try clear hcz25_0
                            try clear hcz25_1
                            try clear hcz25_2
                            try clear hcz25_3
                            try clear hcz27_0
                            try clear hcz27_1
                            try clear hcz27_2
                            try clear hcz27_3
                            try clear hcz27_4
                            try clear hcz27_5
                            try clear hcz33_0
                            try clear hcz33_1
                            try clear hcz33_2
                            try clear hcz33_3
                            try clear hcz33_4
                            try clear hcz33_5
                            try clear hcz39_0
                            try clear hcz39_1
                            try clear hcz39_2
                            try clear hcz39_3
                            try clear hcz39_4
                            try clear hcz39_5
                            try clear hcz3_0
                            try clear hcz3_1
                            try clear hcz3_2
                            try clear hcz3_3
                            try clear hcz3_4
                            try clear hcz3_5
                            try clear hfz10_0
                            try clear hfz10_1
                            try clear hfz10_2
                            try clear hfz12_0
                            try clear hfz12_1
                            try clear hfz12_2
                            try clear hfz12_3
                            try clear hfz12_4
                            try clear hfz12_5
                            try clear hfz20_0
                            try clear hfz20_1
                            try clear hfz20_2
                            try clear hfz20_3
                            try clear hfz25_0
                            try clear hfz25_1
                            try clear hfz25_2
                            try clear hfz25_3
                            try clear hfz27_0
                            try clear hfz27_1
                            try clear hfz27_2
                            try clear hfz27_3
                            try clear hfz27_4
                            try clear hfz27_5
                            try clear hfz33_0
                            try clear hfz33_1
                            try clear hfz33_2
                            try clear hfz33_3
                            try clear hfz33_4
                            try clear hfz33_5
                            try clear hfz39_0
                            try clear hfz39_1
                            try clear hfz39_2
                            try clear hfz39_3
                            try clear hfz39_4
                            try clear hfz39_5
                            try clear hfz3_0
                            try clear hfz3_1
                            try clear hfz3_2
                            try clear hfz3_3
                            try clear hfz3_4
                            try clear hfz3_5
                            try clear hx128_0
                            try clear hx128_1
                            try clear hx128_2
                            try clear hx133_0
                            try clear hx133_1
                            try clear hx133_2
                            try clear hx133_3
                            try clear hx141_0
                            try clear hx145_0
                            try clear p1
                            try clear p12
                            try clear p128
                            try clear p13
                            try clear p133
                            try clear p14
                            try clear p141
                            try clear p145
                            try clear p2
                            try clear p6
                            try clear q1
                            try clear q12
                            try clear q128
                            try clear q13
                            try clear q133
                            try clear q14
                            try clear q141
                            try clear q145
                            obtain ⟨x3_5, x90_5, rfl, HA, HK5, HO_3, BK127, HB⟩ := hrel
                            cases gk with
                            | zero => exact absurd HA.out (by simp [check_declarations.l4])
                            | succ k5 =>
                              have H := HA.out
                              clear HA
                              simp only [check_declarations.l4] at H
                              by_cases c40 : x90_5 < (l0_4.length : Int)
                              · rw [if_pos c40] at H
                                have c40b0 : decide (x90_5 < (l0_4.length : Int)) = true := decide_eq_true c40
                                clear c40
                                by_cases c41 : 0 ≤ x90_5
                                · rw [if_pos c41] at H
                                  have c41b0 : decide (0 ≤ x90_5) = true := decide_eq_true c41
                                  clear c41
                                  by_cases c42 : x90_5 < (l0_4.length : Int)
                                  · rw [if_pos c42] at H
                                    have c42b0 : decide (x90_5 < (l0_4.length : Int)) = true := decide_eq_true c42
                                    clear c42
                                    by_cases c43 : x3_5.length < 3518437208883
                                    · rw [if_pos c43] at H
                                      have LMc43 := Aside0.mk c43
                                      clear c43
                                      obtain ⟨y151, hy151⟩ : ∃ y_ : List (S164), y_ = (x3_5 ++ [(⟨(rd_T131 l0_4 x90_5).f0, 6, x90_5, (rd_T131 l0_4 x90_5).f2⟩ : S164)]) := ⟨_, rfl⟩
                                      replace H : (check_declarations.l4 k5 y151 l0_4 (l0_4.length : Int) (wrap64 (x90_5 + 1)) l0_0 l0_1 l0_2 l0_3 l0_4 l0_5) = some r := by first | (rw [hy151]; with_reducible exact H) | (have H2_ := (Option.bind_some _ _).symm.trans H; rw [hy151]; with_reducible exact H2_) | (have H2_ := (Option.bind_some _ _).symm.trans H; with_reducible exact H2_) | with_reducible exact H | (rw [hy151]; exact H) | exact H
                                      have Ny151 := Aside0.mk hy151
                                      clear hy151
                                      have H' := Aside0.mk H
                                      clear H
                                      have p149 : 0 ≤ (x90_5 : Int) := of_decide_eq_true (by first | (with_reducible assumption) | assumption)
                                      have q149 : x90_5 < (l0_4.length : Int) := of_decide_eq_true (by first | (with_reducible assumption) | assumption)
                                      obtain ⟨ad149, e149, hx149_0, hx149_1, hx149_2⟩ := at_T131 HR0_4.out x90_5 p149 q149
                                      cases e149
                                      replace hx149_0 := (HB.out.cell (World.block_lt_of_cell? w _ hx149_0)).trans hx149_0
                                      replace hx149_1 := (HB.out.cell (World.block_lt_of_cell? w _ hx149_1)).trans hx149_1
                                      replace hx149_2 := (HB.out.cell (World.block_lt_of_cell? w _ hx149_2)).trans hx149_2
                                      replace p149 := eq_true p149
                                      replace q149 := eq_true q149
                                      go_wp2_with (first | ((with_reducible refine gate_dst (N := 14) rfl ?_); refine box_event ?hg (N := 14) ?hd (cs := #[.string (⟨#[]⟩ : ByteArray), .int .i64 0, .int .i64 0]) (t := 131) ?hr ?_; (case hd => rfl); (case hg => rfl); (case hr => first | (go_simp; done) | (go_simp; rfl)); intro gb150 hg w44 hbox hb; have n0_ := Aside0.mk (Kd.R_below (by (with_reducible repeat (first | apply Kd.R_alloc | apply Kd.R_drewN | apply Kd.R_drew)); exact HO_3.out) hb); have n1_ := Aside0.mk (blk_below (g := gb127) (o := .cells #[.slice A0_0 l0_0.length c0_0, .slice A0_1 l0_1.length c0_1, .slice A0_2 l0_2.length c0_2, .slice A0_3 l0_3.length c0_3, .slice (some ad149) l0_4.length c0_4, .slice A0_5 l0_5.length c0_5] 28 (0, 0)) (by (with_reducible repeat (first | refine blk_drewN ?_ _ | refine blk_drew ?_ | refine blk_alloc ?_ _)); exact BK127.out) hb); have n2_ := Aside0.mk (below_step (by repeat (first | (with_reducible first | exact HB.out | apply below_alloc | apply pw_below_drewN | apply below_drew1 | refine below_set ?_ GE127.out) | exact HB.out)) hb); have n3_ := Aside0.mk (hbox); have n4_ := Aside0.mk ((by rw [hg]; exact (below_size (by repeat (first | (with_reducible first | exact HB.out | apply below_alloc | apply pw_below_drewN | apply below_drew1 | refine below_set ?_ GE127.out) | exact HB.out))) : w.heap.size ≤ gb150)); have n5_ := Aside0.mk ((by rw [hg]; exact (below_size (by repeat (first | (with_reducible first | exact HB.out | apply below_alloc | apply pw_below_drewN | apply below_drew1 | refine below_set ?_ GE127.out) | exact HB.out))) : w.heap.size ≤ gb150)); have n6_ := Aside0.mk ((by rw [hg]; exact Nat.ne_of_lt (blk_lt (g := gb127) (o := .cells #[.slice A0_0 l0_0.length c0_0, .slice A0_1 l0_1.length c0_1, .slice A0_2 l0_2.length c0_2, .slice A0_3 l0_3.length c0_3, .slice (some ad149) l0_4.length c0_4, .slice A0_5 l0_5.length c0_5] 28 (0, 0)) (by (with_reducible repeat (first | refine blk_drewN ?_ _ | refine blk_drew ?_ | refine blk_alloc ?_ _)); exact BK127.out)) : gb127 ≠ gb150)); have n7_ := Aside0.mk ((by rw [hg]; exact Nat.ne_of_gt (blk_lt (g := gb127) (o := .cells #[.slice A0_0 l0_0.length c0_0, .slice A0_1 l0_1.length c0_1, .slice A0_2 l0_2.length c0_2, .slice A0_3 l0_3.length c0_3, .slice (some ad149) l0_4.length c0_4, .slice A0_5 l0_5.length c0_5] 28 (0, 0)) (by (with_reducible repeat (first | refine blk_drewN ?_ _ | refine blk_drew ?_ | refine blk_alloc ?_ _)); exact BK127.out)) : gb150 ≠ gb127)); clear HO_3; clear BK127; clear HB; have HO_3 := n0_; have BK127 := n1_; have HB := n2_; have BK150 := n3_; have GW150 := n4_; have GE150 := n5_; have NB127_150 := n6_; have NB150_127 := n7_; clear n0_ n1_ n2_ n3_ n4_ n5_ n6_ n7_; clear hb hbox hg; have hnb45 := NB150_127.out; have hnc45 := NB127_150.out; have hcz46_0 : w44.cell? ⟨gb150, 0, none⟩ = some (.string (⟨#[]⟩ : ByteArray)) := (blk_cell BK150.out 0).trans rfl; have hcz46_1 : w44.cell? ⟨gb150, 1, none⟩ = some (.int .i64 0) := (blk_cell BK150.out 1).trans rfl; have hcz46_2 : w44.cell? ⟨gb150, 2, none⟩ = some (.int .i64 0) := (blk_cell BK150.out 2).trans rfl; have hfz46_0 := blk_frozen BK150.out 0; have hfz46_1 := blk_frozen BK150.out 1; have hfz46_2 := blk_frozen BK150.out 2) | ((with_reducible refine gate_builtin (b := .append) (xs := #[.tmp 95, .tmp 102]) rfl ?_); at_builtin; refine Kd.R_append k164 (w0 := w) w.heap.size rfl (.tmp 95) (.tmp 102) 179 164 (.agg #[(.string ⟨#[]⟩), (.int .i64 0), (.int .i64 0), (.int .i64 0)]) 40 rfl Try.underlying179 info164 rfl (by decide) (by omega) u3 x3_5 (⟨(rd_T131 l0_4 x90_5).f0, 6, x90_5, (rd_T131 l0_4 x90_5).f2⟩ : S164) [.string ((rd_T131 l0_4 x90_5).f0), .int .i64 6, .int .i64 x90_5, .int .i64 ((rd_T131 l0_4 x90_5).f2)] (fun _ => True) (fun _ => False) rfl (by first | (go_simp; done) | (go_simp; rfl)) ?aP (fun _ hk => hk.elim) ?aF ?aO ?aB ?aS ?aL ?_; (case aP => exact k164_mkM _ _ _ (⟨(rd_T131 l0_4 x90_5).f0, 6, x90_5, (rd_T131 l0_4 x90_5).f2⟩ : S164)); (case aB => exact (by repeat (first | (with_reducible first | exact HB.out | apply below_alloc | apply pw_below_drewN | apply below_drew1 | refine below_set ?_ GE127.out | refine below_set ?_ GE150.out) | exact HB.out))); (case aF => exact (fun _ _ => trivial)); (case aO => exact (by (with_reducible repeat (first | apply Kd.R_alloc | apply Kd.R_drewN | apply Kd.R_drew)); exact Kd.R_mono (Kd.R_far (p := ⟨gb150, 2, none⟩) (Kd.R_far (p := ⟨gb150, 1, none⟩) (Kd.R_far (p := ⟨gb150, 0, none⟩) (Kd.R_types HO_3.out BK150.out (by decide)) (fun _ hk => hk.2) (.string ((rd_T131 l0_4 x90_5).f0))) (fun _ hk => hk.2) (.int .i64 ((rd_T131 l0_4 x90_5).f1))) (fun _ hk => hk.2) (.int .i64 ((rd_T131 l0_4 x90_5).f2))) (fun _ hk => trivial))); (case aS => exact (below_size (by repeat (first | (with_reducible first | exact HB.out | apply below_alloc | apply pw_below_drewN | apply below_drew1 | refine below_set ?_ GE127.out | refine below_set ?_ GE150.out) | exact HB.out)))); (case aL => have := LMc43.out; omega); intro v152 w47 ho hb hg hat; rw [← Ny151.out] at ho; have n0_ := Aside0.mk (blk_grown (g := gb127) (o := .cells #[.slice A0_0 l0_0.length c0_0, .slice A0_1 l0_1.length c0_1, .slice A0_2 l0_2.length c0_2, .slice A0_3 l0_3.length c0_3, .slice (some ad149) l0_4.length c0_4, .slice A0_5 l0_5.length c0_5] 28 (0, 0)) (by (with_reducible repeat (first | refine blk_drewN ?_ _ | refine blk_drew ?_ | refine blk_alloc ?_ _)); refine blk_far ?_ NB127_150.out _; (with_reducible repeat (first | refine blk_drewN ?_ _ | refine blk_drew ?_ | refine blk_alloc ?_ _)); refine blk_far ?_ NB127_150.out _; (with_reducible repeat (first | refine blk_drewN ?_ _ | refine blk_drew ?_ | refine blk_alloc ?_ _)); refine blk_far ?_ NB127_150.out _; (with_reducible repeat (first | refine blk_drewN ?_ _ | refine blk_drew ?_ | refine blk_alloc ?_ _)); exact BK127.out) hg (Kd.R_ne HO_3.out BK127.out (by decide))); have n1_ := Aside0.mk (blk_grown (g := gb150) (o := .cells #[.string ((rd_T131 l0_4 x90_5).f0), .int .i64 ((rd_T131 l0_4 x90_5).f1), .int .i64 ((rd_T131 l0_4 x90_5).f2)] 131 (0, 0)) (by (with_reducible repeat (first | refine blk_drewN ?_ _ | refine blk_drew ?_ | refine blk_alloc ?_ _)); refine blk_put (cs := #[.string ((rd_T131 l0_4 x90_5).f0), .int .i64 ((rd_T131 l0_4 x90_5).f1), .int .i64 0]) ?_ 2 _ rfl; (with_reducible repeat (first | refine blk_drewN ?_ _ | refine blk_drew ?_ | refine blk_alloc ?_ _)); refine blk_put (cs := #[.string ((rd_T131 l0_4 x90_5).f0), .int .i64 0, .int .i64 0]) ?_ 1 _ rfl; (with_reducible repeat (first | refine blk_drewN ?_ _ | refine blk_drew ?_ | refine blk_alloc ?_ _)); refine blk_put (cs := #[.string (⟨#[]⟩ : ByteArray), .int .i64 0, .int .i64 0]) ?_ 0 _ rfl; (with_reducible repeat (first | refine blk_drewN ?_ _ | refine blk_drew ?_ | refine blk_alloc ?_ _)); exact BK150.out) hg (Kd.R_ne HO_3.out BK150.out (by decide))); have n2_ := Aside0.mk (hb); have n3_ := Aside0.mk (ho); clear BK127; clear BK150; clear HB; clear HO_3; have BK127 := n0_; have BK150 := n1_; have HB := n2_; have HO153 := n3_; clear n0_ n1_ n2_ n3_; clear ho hb hg hat))
                                      go_roundg k5
                                      case measure => have := HK1.out; have := HK2.out; have := HK3.out; have := HK4.out; have := HK5.out; omega
                                      case rel => exact ⟨(y151), (wrap64 (x90_5 + 1)), (by first | rfl | (simp; done) | (simp [*]; done)), H', ⟨by have := HK1.out; have := HK2.out; have := HK3.out; have := HK4.out; have := HK5.out; omega⟩, ⟨by (with_reducible repeat (first | apply Kd.R_alloc | apply Kd.R_drewN | apply Kd.R_drew)); exact HO153.out⟩, ⟨by (with_reducible repeat (first | refine blk_drewN ?_ _ | refine blk_drew ?_ | refine blk_alloc ?_ _)); exact BK127.out⟩, ⟨by repeat (first | (with_reducible first | exact HB.out | apply below_alloc | apply pw_below_drewN | apply below_drew1 | refine below_set ?_ GE127.out | refine below_set ?_ GE150.out) | exact HB.out)⟩⟩
                                    · rw [if_neg c43] at H
                                      exact absurd H (by simp)
                                  · rw [if_neg c42] at H
                                    exact absurd H (by simp)
                                · rw [if_neg c41] at H
                                  exact absurd H (by simp)
                              · rw [if_neg c40] at H
                                have c40b0 : decide (x90_5 < (l0_4.length : Int)) = false := decide_eq_false c40
                                clear c40
                                have H' := Aside0.mk H
                                clear H
                                have hcz48_0 : wr.cell? ⟨gb127, 0, none⟩ = some (.slice A0_0 l0_0.length c0_0) := (blk_cell BK127.out 0).trans rfl
                                have hcz48_1 : wr.cell? ⟨gb127, 1, none⟩ = some (.slice A0_1 l0_1.length c0_1) := (blk_cell BK127.out 1).trans rfl
                                have hcz48_2 : wr.cell? ⟨gb127, 2, none⟩ = some (.slice A0_2 l0_2.length c0_2) := (blk_cell BK127.out 2).trans rfl
                                have hcz48_3 : wr.cell? ⟨gb127, 3, none⟩ = some (.slice A0_3 l0_3.length c0_3) := (blk_cell BK127.out 3).trans rfl
                                have hcz48_4 : wr.cell? ⟨gb127, 4, none⟩ = some (.slice A0_4 l0_4.length c0_4) := (blk_cell BK127.out 4).trans rfl
                                have hcz48_5 : wr.cell? ⟨gb127, 5, none⟩ = some (.slice A0_5 l0_5.length c0_5) := (blk_cell BK127.out 5).trans rfl
                                have hfz48_0 := blk_frozen BK127.out 0
                                have hfz48_1 := blk_frozen BK127.out 1
                                have hfz48_2 := blk_frozen BK127.out 2
                                have hfz48_3 := blk_frozen BK127.out 3
                                have hfz48_4 := blk_frozen BK127.out 4
                                have hfz48_5 := blk_frozen BK127.out 5
                                go_wp2
                                go_loopg [3, 108] k5 (fun kq v3 v108 w' => ∃ (x3_6 : List (S164)) (x108_6 : Int), v108 = .int .i64 x108_6 ∧ Aside0 (check_declarations.l5 kq x3_6 l0_5 (l0_5.length : Int) x108_6 = some r) ∧ Aside0 (kq ≤ k5) ∧ Aside0 (Kd.R k164 164 w' w.heap.size (fun _ => True) v3 x3_6) ∧ Aside0 (w'.heap[gb127]? = some (.cells #[(.slice A0_0 l0_0.length c0_0), (.slice A0_1 l0_1.length c0_1), (.slice A0_2 l0_2.length c0_2), (.slice A0_3 l0_3.length c0_3), (.slice A0_4 l0_4.length c0_4), (.slice A0_5 l0_5.length c0_5)] 28 (0, 0))) ∧ Aside0 (Below w.heap.size w w'))
                                case atStart => exact ⟨(x3_5), (0), (by first | rfl | (simp; done) | (simp [*]; done)), H', ⟨Nat.le_refl _⟩, ⟨by (with_reducible repeat (first | apply Kd.R_alloc | apply Kd.R_drewN | apply Kd.R_drew)); exact HO_3.out⟩, ⟨by (with_reducible repeat (first | refine blk_drewN ?_ _ | refine blk_drew ?_ | refine blk_alloc ?_ _)); exact BK127.out⟩, ⟨by repeat (first | (with_reducible first | exact HB.out | apply below_alloc | apply pw_below_drewN | apply below_drew1 | refine below_set ?_ GE127.out) | exact HB.out)⟩⟩
                                case round =>
                                  clear H'
                                  try clear c1
                                  try clear p1
                                  try clear q1
                                  try clear hx1
                                  try clear c2
                                  try clear p2
                                  try clear c3
                                  try clear c4
                                  try clear c4b0
                                  try clear c5
                                  try clear c5b0
                                  try clear c6
                                  try clear c6b0
                                  try clear p6
                                  try clear c7
                                  try clear c9
                                  try clear c11
                                  try clear p12
                                  try clear q12
                                  try clear hx12
                                  try clear c13
                                  try clear c13b0
                                  try clear p13
                                  try clear q13
                                  try clear hx13
                                  try clear c14
                                  try clear c14b0
                                  try clear p14
                                  try clear q14
                                  try clear hx14
                                  try clear c15
                                  try clear c15b0
                                  try clear c16
                                  try clear c16b0
                                  try clear c16b1
                                  try clear c17
                                  try clear c19
                                  try clear c22
                                  try clear c24
                                  try clear c28
                                  try clear c28b0
                                  try clear c29
                                  try clear c29b0
                                  try clear c30
                                  try clear c30b0
                                  try clear c31
                                  try clear c34
                                  try clear c34b0
                                  try clear c35
                                  try clear c35b0
                                  try clear c36
                                  try clear c36b0
                                  try clear c37
                                  try clear c40
                                  try clear c40b0
                                  try clear c41
                                  try clear c41b0
                                  try clear c42
                                  try clear c42b0
                                  try clear c43
                                  try clear c45
                                  try clear hcz10_0
                                  try clear hcz10_1
                                  try clear hcz10_2
                                  try clear hcz12_0
                                  try clear hcz12_1
                                  try clear hcz12_2
                                  try clear hcz12_3
                                  try clear hcz12_4
                                  try clear hcz12_5
                                  try clear hcz20_0
                                  try clear hcz20_1
                                  try clear hcz20_2
                                  try clear hcz20_3
                                  try clear hcz25_0
                                  try clear hcz25_1
                                  try clear hcz25_2
                                  try clear hcz25_3
                                  try clear hcz27_0
                                  try clear hcz27_1
                                  try clear hcz27_2
                                  try clear hcz27_3
                                  try clear hcz27_4
                                  try clear hcz27_5
                                  try clear hcz33_0
                                  try clear hcz33_1
                                  try clear hcz33_2
                                  try clear hcz33_3
                                  try clear hcz33_4
                                  try clear hcz33_5
                                  try clear hcz39_0
                                  try clear hcz39_1
                                  try clear hcz39_2
                                  try clear hcz39_3
                                  try clear hcz39_4
                                  try clear hcz39_5
                                  try clear hcz3_0
                                  try clear hcz3_1
                                  try clear hcz3_2
                                  try clear hcz3_3
                                  try clear hcz3_4
                                  try clear hcz3_5
                                  try clear hcz46_0
                                  try clear hcz46_1
                                  try clear hcz46_2
                                  try clear hcz48_0
                                  try clear hcz48_1
                                  try clear hcz48_2
                                  try clear hcz48_3
                                  try clear hcz48_4
                                  try clear hcz48_5
                                  try clear hfz10_0
                                  try clear hfz10_1
                                  try clear hfz10_2
                                  try clear hfz12_0
                                  try clear hfz12_1
                                  try clear hfz12_2
                                  try clear hfz12_3
                                  try clear hfz12_4
                                  try clear hfz12_5
                                  try clear hfz20_0
                                  try clear hfz20_1
                                  try clear hfz20_2
                                  try clear hfz20_3
                                  try clear hfz25_0
                                  try clear hfz25_1
                                  try clear hfz25_2
                                  try clear hfz25_3
                                  try clear hfz27_0
                                  try clear hfz27_1
                                  try clear hfz27_2
                                  try clear hfz27_3
                                  try clear hfz27_4
                                  try clear hfz27_5
                                  try clear hfz33_0
                                  try clear hfz33_1
                                  try clear hfz33_2
                                  try clear hfz33_3
                                  try clear hfz33_4
                                  try clear hfz33_5
                                  try clear hfz39_0
                                  try clear hfz39_1
                                  try clear hfz39_2
                                  try clear hfz39_3
                                  try clear hfz39_4
                                  try clear hfz39_5
                                  try clear hfz3_0
                                  try clear hfz3_1
                                  try clear hfz3_2
                                  try clear hfz3_3
                                  try clear hfz3_4
                                  try clear hfz3_5
                                  try clear hfz46_0
                                  try clear hfz46_1
                                  try clear hfz46_2
                                  try clear hfz48_0
                                  try clear hfz48_1
                                  try clear hfz48_2
                                  try clear hfz48_3
                                  try clear hfz48_4
                                  try clear hfz48_5
                                  try clear hx128_0
                                  try clear hx128_1
                                  try clear hx128_2
                                  try clear hx133_0
                                  try clear hx133_1
                                  try clear hx133_2
                                  try clear hx133_3
                                  try clear hx141_0
                                  try clear hx145_0
                                  try clear hx149_0
                                  try clear hx149_1
                                  try clear hx149_2
                                  try clear p1
                                  try clear p12
                                  try clear p128
                                  try clear p13
                                  try clear p133
                                  try clear p14
                                  try clear p141
                                  try clear p145
                                  try clear p149
                                  try clear p2
                                  try clear p6
                                  try clear q1
                                  try clear q12
                                  try clear q128
                                  try clear q13
                                  try clear q133
                                  try clear q14
                                  try clear q141
                                  try clear q145
                                  try clear q149
                                  obtain ⟨x3_6, x108_6, rfl, HA, HK6, HO_3, BK127, HB⟩ := hrel
                                  cases gk with
                                  | zero => exact absurd HA.out (by simp [check_declarations.l5])
                                  | succ k6 =>
                                    have H := HA.out
                                    clear HA
                                    simp only [check_declarations.l5] at H
                                    by_cases c49 : x108_6 < (l0_5.length : Int)
                                    · rw [if_pos c49] at H
                                      have c49b0 : decide (x108_6 < (l0_5.length : Int)) = true := decide_eq_true c49
                                      clear c49
                                      by_cases c50 : 0 ≤ x108_6
                                      · rw [if_pos c50] at H
                                        have c50b0 : decide (0 ≤ x108_6) = true := decide_eq_true c50
                                        clear c50
                                        by_cases c51 : x108_6 < (l0_5.length : Int)
                                        · rw [if_pos c51] at H
                                          have c51b0 : decide (x108_6 < (l0_5.length : Int)) = true := decide_eq_true c51
                                          clear c51
                                          by_cases c52 : x3_6.length < 3518437208883
                                          · rw [if_pos c52] at H
                                            have LMc52 := Aside0.mk c52
                                            clear c52
                                            obtain ⟨y156, hy156⟩ : ∃ y_ : List (S164), y_ = (x3_6 ++ [(⟨(rd_T61 l0_5 x108_6).f0, 8, x108_6, (rd_T61 l0_5 x108_6).f7⟩ : S164)]) := ⟨_, rfl⟩
                                            replace H : (check_declarations.l5 k6 y156 l0_5 (l0_5.length : Int) (wrap64 (x108_6 + 1))) = some r := by first | (rw [hy156]; with_reducible exact H) | (have H2_ := (Option.bind_some _ _).symm.trans H; rw [hy156]; with_reducible exact H2_) | (have H2_ := (Option.bind_some _ _).symm.trans H; with_reducible exact H2_) | with_reducible exact H | (rw [hy156]; exact H) | exact H
                                            have Ny156 := Aside0.mk hy156
                                            clear hy156
                                            have H' := Aside0.mk H
                                            clear H
                                            have p154 : 0 ≤ (x108_6 : Int) := of_decide_eq_true (by first | (with_reducible assumption) | assumption)
                                            have q154 : x108_6 < (l0_5.length : Int) := of_decide_eq_true (by first | (with_reducible assumption) | assumption)
                                            obtain ⟨ad154, A154_6, c154_6, e154, hx154_0, hx154_1, hx154_2, hx154_3, hx154_4, hx154_5, hx154_6, hx154_7, hl154_6, hi154_6⟩ := at_T61 HR0_5.out x108_6 p154 q154
                                            cases e154
                                            replace hx154_0 := (HB.out.cell (World.block_lt_of_cell? w _ hx154_0)).trans hx154_0
                                            replace hx154_1 := (HB.out.cell (World.block_lt_of_cell? w _ hx154_1)).trans hx154_1
                                            replace hx154_2 := (HB.out.cell (World.block_lt_of_cell? w _ hx154_2)).trans hx154_2
                                            replace hx154_3 := (HB.out.cell (World.block_lt_of_cell? w _ hx154_3)).trans hx154_3
                                            replace hx154_4 := (HB.out.cell (World.block_lt_of_cell? w _ hx154_4)).trans hx154_4
                                            replace hx154_5 := (HB.out.cell (World.block_lt_of_cell? w _ hx154_5)).trans hx154_5
                                            replace hx154_6 := (HB.out.cell (World.block_lt_of_cell? w _ hx154_6)).trans hx154_6
                                            replace hx154_7 := (HB.out.cell (World.block_lt_of_cell? w _ hx154_7)).trans hx154_7
                                            have HR154_6 := Aside0.mk hi154_6
                                            have HC154_6 := Aside0.mk hl154_6
                                            clear hi154_6 hl154_6
                                            replace p154 := eq_true p154
                                            replace q154 := eq_true q154
                                            go_wp2_with (first | ((with_reducible refine gate_dst (N := 16) rfl ?_); refine box_event ?hg (N := 16) ?hd (cs := #[.string (⟨#[]⟩ : ByteArray), .int .i64 0, .int .i64 0, .string (⟨#[]⟩ : ByteArray), .string (⟨#[]⟩ : ByteArray), .int .i64 0, .slice none 0 0, .int .i64 0]) (t := 61) ?hr ?_; (case hd => rfl); (case hg => rfl); (case hr => first | (go_simp; done) | (go_simp; rfl)); intro gb155 hg w53 hbox hb; have n0_ := Aside0.mk (Kd.R_below (by (with_reducible repeat (first | apply Kd.R_alloc | apply Kd.R_drewN | apply Kd.R_drew)); exact HO_3.out) hb); have n1_ := Aside0.mk (blk_below (g := gb127) (o := .cells #[.slice A0_0 l0_0.length c0_0, .slice A0_1 l0_1.length c0_1, .slice A0_2 l0_2.length c0_2, .slice A0_3 l0_3.length c0_3, .slice A0_4 l0_4.length c0_4, .slice (some ad154) l0_5.length c0_5] 28 (0, 0)) (by (with_reducible repeat (first | refine blk_drewN ?_ _ | refine blk_drew ?_ | refine blk_alloc ?_ _)); exact BK127.out) hb); have n2_ := Aside0.mk (below_step (by repeat (first | (with_reducible first | exact HB.out | apply below_alloc | apply pw_below_drewN | apply below_drew1 | refine below_set ?_ GE127.out) | exact HB.out)) hb); have n3_ := Aside0.mk (hbox); have n4_ := Aside0.mk ((by rw [hg]; exact (below_size (by repeat (first | (with_reducible first | exact HB.out | apply below_alloc | apply pw_below_drewN | apply below_drew1 | refine below_set ?_ GE127.out) | exact HB.out))) : w.heap.size ≤ gb155)); have n5_ := Aside0.mk ((by rw [hg]; exact (below_size (by repeat (first | (with_reducible first | exact HB.out | apply below_alloc | apply pw_below_drewN | apply below_drew1 | refine below_set ?_ GE127.out) | exact HB.out))) : w.heap.size ≤ gb155)); have n6_ := Aside0.mk ((by rw [hg]; exact Nat.ne_of_lt (blk_lt (g := gb127) (o := .cells #[.slice A0_0 l0_0.length c0_0, .slice A0_1 l0_1.length c0_1, .slice A0_2 l0_2.length c0_2, .slice A0_3 l0_3.length c0_3, .slice A0_4 l0_4.length c0_4, .slice (some ad154) l0_5.length c0_5] 28 (0, 0)) (by (with_reducible repeat (first | refine blk_drewN ?_ _ | refine blk_drew ?_ | refine blk_alloc ?_ _)); exact BK127.out)) : gb127 ≠ gb155)); have n7_ := Aside0.mk ((by rw [hg]; exact Nat.ne_of_gt (blk_lt (g := gb127) (o := .cells #[.slice A0_0 l0_0.length c0_0, .slice A0_1 l0_1.length c0_1, .slice A0_2 l0_2.length c0_2, .slice A0_3 l0_3.length c0_3, .slice A0_4 l0_4.length c0_4, .slice (some ad154) l0_5.length c0_5] 28 (0, 0)) (by (with_reducible repeat (first | refine blk_drewN ?_ _ | refine blk_drew ?_ | refine blk_alloc ?_ _)); exact BK127.out)) : gb155 ≠ gb127)); clear HO_3; clear BK127; clear HB; have HO_3 := n0_; have BK127 := n1_; have HB := n2_; have BK155 := n3_; have GW155 := n4_; have GE155 := n5_; have NB127_155 := n6_; have NB155_127 := n7_; clear n0_ n1_ n2_ n3_ n4_ n5_ n6_ n7_; clear hb hbox hg; have hnb54 := NB155_127.out; have hnc54 := NB127_155.out; have hcz55_0 : w53.cell? ⟨gb155, 0, none⟩ = some (.string (⟨#[]⟩ : ByteArray)) := (blk_cell BK155.out 0).trans rfl; have hcz55_1 : w53.cell? ⟨gb155, 1, none⟩ = some (.int .i64 0) := (blk_cell BK155.out 1).trans rfl; have hcz55_2 : w53.cell? ⟨gb155, 2, none⟩ = some (.int .i64 0) := (blk_cell BK155.out 2).trans rfl; have hcz55_3 : w53.cell? ⟨gb155, 3, none⟩ = some (.string (⟨#[]⟩ : ByteArray)) := (blk_cell BK155.out 3).trans rfl; have hcz55_4 : w53.cell? ⟨gb155, 4, none⟩ = some (.string (⟨#[]⟩ : ByteArray)) := (blk_cell BK155.out 4).trans rfl; have hcz55_5 : w53.cell? ⟨gb155, 5, none⟩ = some (.int .i64 0) := (blk_cell BK155.out 5).trans rfl; have hcz55_6 : w53.cell? ⟨gb155, 6, none⟩ = some (.slice none 0 0) := (blk_cell BK155.out 6).trans rfl; have hcz55_7 : w53.cell? ⟨gb155, 7, none⟩ = some (.int .i64 0) := (blk_cell BK155.out 7).trans rfl; have hfz55_0 := blk_frozen BK155.out 0; have hfz55_1 := blk_frozen BK155.out 1; have hfz55_2 := blk_frozen BK155.out 2; have hfz55_3 := blk_frozen BK155.out 3; have hfz55_4 := blk_frozen BK155.out 4; have hfz55_5 := blk_frozen BK155.out 5; have hfz55_6 := blk_frozen BK155.out 6; have hfz55_7 := blk_frozen BK155.out 7) | ((with_reducible refine gate_builtin (b := .append) (xs := #[.tmp 113, .tmp 120]) rfl ?_); at_builtin; refine Kd.R_append k164 (w0 := w) w.heap.size rfl (.tmp 113) (.tmp 120) 179 164 (.agg #[(.string ⟨#[]⟩), (.int .i64 0), (.int .i64 0), (.int .i64 0)]) 40 rfl Try.underlying179 info164 rfl (by decide) (by omega) u3 x3_6 (⟨(rd_T61 l0_5 x108_6).f0, 8, x108_6, (rd_T61 l0_5 x108_6).f7⟩ : S164) [.string ((rd_T61 l0_5 x108_6).f0), .int .i64 8, .int .i64 x108_6, .int .i64 ((rd_T61 l0_5 x108_6).f7)] (fun _ => True) (fun _ => False) rfl (by first | (go_simp; done) | (go_simp; rfl)) ?aP (fun _ hk => hk.elim) ?aF ?aO ?aB ?aS ?aL ?_; (case aP => exact k164_mkM _ _ _ (⟨(rd_T61 l0_5 x108_6).f0, 8, x108_6, (rd_T61 l0_5 x108_6).f7⟩ : S164)); (case aB => exact (by repeat (first | (with_reducible first | exact HB.out | apply below_alloc | apply pw_below_drewN | apply below_drew1 | refine below_set ?_ GE127.out | refine below_set ?_ GE155.out) | exact HB.out))); (case aF => exact (fun _ _ => trivial)); (case aO => exact (by (with_reducible repeat (first | apply Kd.R_alloc | apply Kd.R_drewN | apply Kd.R_drew)); exact Kd.R_mono (Kd.R_far (p := ⟨gb155, 7, none⟩) (Kd.R_far (p := ⟨gb155, 6, none⟩) (Kd.R_far (p := ⟨gb155, 5, none⟩) (Kd.R_far (p := ⟨gb155, 4, none⟩) (Kd.R_far (p := ⟨gb155, 3, none⟩) (Kd.R_far (p := ⟨gb155, 2, none⟩) (Kd.R_far (p := ⟨gb155, 1, none⟩) (Kd.R_far (p := ⟨gb155, 0, none⟩) (Kd.R_types HO_3.out BK155.out (by decide)) (fun _ hk => hk.2) (.string ((rd_T61 l0_5 x108_6).f0))) (fun _ hk => hk.2) (.int .i64 ((rd_T61 l0_5 x108_6).f1))) (fun _ hk => hk.2) (.int .i64 ((rd_T61 l0_5 x108_6).f2))) (fun _ hk => hk.2) (.string ((rd_T61 l0_5 x108_6).f3))) (fun _ hk => hk.2) (.string ((rd_T61 l0_5 x108_6).f4))) (fun _ hk => hk.2) (.int .i64 ((rd_T61 l0_5 x108_6).f5))) (fun _ hk => hk.2) (.slice A154_6 ((rd_T61 l0_5 x108_6).f6).length c154_6)) (fun _ hk => hk.2) (.int .i64 ((rd_T61 l0_5 x108_6).f7))) (fun _ hk => trivial))); (case aS => exact (below_size (by repeat (first | (with_reducible first | exact HB.out | apply below_alloc | apply pw_below_drewN | apply below_drew1 | refine below_set ?_ GE127.out | refine below_set ?_ GE155.out) | exact HB.out)))); (case aL => have := LMc52.out; omega); intro v157 w56 ho hb hg hat; rw [← Ny156.out] at ho; have n0_ := Aside0.mk (blk_grown (g := gb127) (o := .cells #[.slice A0_0 l0_0.length c0_0, .slice A0_1 l0_1.length c0_1, .slice A0_2 l0_2.length c0_2, .slice A0_3 l0_3.length c0_3, .slice A0_4 l0_4.length c0_4, .slice (some ad154) l0_5.length c0_5] 28 (0, 0)) (by (with_reducible repeat (first | refine blk_drewN ?_ _ | refine blk_drew ?_ | refine blk_alloc ?_ _)); refine blk_far ?_ NB127_155.out _; (with_reducible repeat (first | refine blk_drewN ?_ _ | refine blk_drew ?_ | refine blk_alloc ?_ _)); refine blk_far ?_ NB127_155.out _; (with_reducible repeat (first | refine blk_drewN ?_ _ | refine blk_drew ?_ | refine blk_alloc ?_ _)); refine blk_far ?_ NB127_155.out _; (with_reducible repeat (first | refine blk_drewN ?_ _ | refine blk_drew ?_ | refine blk_alloc ?_ _)); refine blk_far ?_ NB127_155.out _; (with_reducible repeat (first | refine blk_drewN ?_ _ | refine blk_drew ?_ | refine blk_alloc ?_ _)); refine blk_far ?_ NB127_155.out _; (with_reducible repeat (first | refine blk_drewN ?_ _ | refine blk_drew ?_ | refine blk_alloc ?_ _)); refine blk_far ?_ NB127_155.out _; (with_reducible repeat (first | refine blk_drewN ?_ _ | refine blk_drew ?_ | refine blk_alloc ?_ _)); refine blk_far ?_ NB127_155.out _; (with_reducible repeat (first | refine blk_drewN ?_ _ | refine blk_drew ?_ | refine blk_alloc ?_ _)); refine blk_far ?_ NB127_155.out _; (with_reducible repeat (first | refine blk_drewN ?_ _ | refine blk_drew ?_ | refine blk_alloc ?_ _)); exact BK127.out) hg (Kd.R_ne HO_3.out BK127.out (by decide))); have n1_ := Aside0.mk (blk_grown (g := gb155) (o := .cells #[.string ((rd_T61 l0_5 x108_6).f0), .int .i64 ((rd_T61 l0_5 x108_6).f1), .int .i64 ((rd_T61 l0_5 x108_6).f2), .string ((rd_T61 l0_5 x108_6).f3), .string ((rd_T61 l0_5 x108_6).f4), .int .i64 ((rd_T61 l0_5 x108_6).f5), .slice A154_6 ((rd_T61 l0_5 x108_6).f6).length c154_6, .int .i64 ((rd_T61 l0_5 x108_6).f7)] 61 (0, 0)) (by (with_reducible repeat (first | refine blk_drewN ?_ _ | refine blk_drew ?_ | refine blk_alloc ?_ _)); refine blk_put (cs := #[.string ((rd_T61 l0_5 x108_6).f0), .int .i64 ((rd_T61 l0_5 x108_6).f1), .int .i64 ((rd_T61 l0_5 x108_6).f2), .string ((rd_T61 l0_5 x108_6).f3), .string ((rd_T61 l0_5 x108_6).f4), .int .i64 ((rd_T61 l0_5 x108_6).f5), .slice A154_6 ((rd_T61 l0_5 x108_6).f6).length c154_6, .int .i64 0]) ?_ 7 _ rfl; (with_reducible repeat (first | refine blk_drewN ?_ _ | refine blk_drew ?_ | refine blk_alloc ?_ _)); refine blk_put (cs := #[.string ((rd_T61 l0_5 x108_6).f0), .int .i64 ((rd_T61 l0_5 x108_6).f1), .int .i64 ((rd_T61 l0_5 x108_6).f2), .string ((rd_T61 l0_5 x108_6).f3), .string ((rd_T61 l0_5 x108_6).f4), .int .i64 ((rd_T61 l0_5 x108_6).f5), .slice none 0 0, .int .i64 0]) ?_ 6 _ rfl; (with_reducible repeat (first | refine blk_drewN ?_ _ | refine blk_drew ?_ | refine blk_alloc ?_ _)); refine blk_put (cs := #[.string ((rd_T61 l0_5 x108_6).f0), .int .i64 ((rd_T61 l0_5 x108_6).f1), .int .i64 ((rd_T61 l0_5 x108_6).f2), .string ((rd_T61 l0_5 x108_6).f3), .string ((rd_T61 l0_5 x108_6).f4), .int .i64 0, .slice none 0 0, .int .i64 0]) ?_ 5 _ rfl; (with_reducible repeat (first | refine blk_drewN ?_ _ | refine blk_drew ?_ | refine blk_alloc ?_ _)); refine blk_put (cs := #[.string ((rd_T61 l0_5 x108_6).f0), .int .i64 ((rd_T61 l0_5 x108_6).f1), .int .i64 ((rd_T61 l0_5 x108_6).f2), .string ((rd_T61 l0_5 x108_6).f3), .string (⟨#[]⟩ : ByteArray), .int .i64 0, .slice none 0 0, .int .i64 0]) ?_ 4 _ rfl; (with_reducible repeat (first | refine blk_drewN ?_ _ | refine blk_drew ?_ | refine blk_alloc ?_ _)); refine blk_put (cs := #[.string ((rd_T61 l0_5 x108_6).f0), .int .i64 ((rd_T61 l0_5 x108_6).f1), .int .i64 ((rd_T61 l0_5 x108_6).f2), .string (⟨#[]⟩ : ByteArray), .string (⟨#[]⟩ : ByteArray), .int .i64 0, .slice none 0 0, .int .i64 0]) ?_ 3 _ rfl; (with_reducible repeat (first | refine blk_drewN ?_ _ | refine blk_drew ?_ | refine blk_alloc ?_ _)); refine blk_put (cs := #[.string ((rd_T61 l0_5 x108_6).f0), .int .i64 ((rd_T61 l0_5 x108_6).f1), .int .i64 0, .string (⟨#[]⟩ : ByteArray), .string (⟨#[]⟩ : ByteArray), .int .i64 0, .slice none 0 0, .int .i64 0]) ?_ 2 _ rfl; (with_reducible repeat (first | refine blk_drewN ?_ _ | refine blk_drew ?_ | refine blk_alloc ?_ _)); refine blk_put (cs := #[.string ((rd_T61 l0_5 x108_6).f0), .int .i64 0, .int .i64 0, .string (⟨#[]⟩ : ByteArray), .string (⟨#[]⟩ : ByteArray), .int .i64 0, .slice none 0 0, .int .i64 0]) ?_ 1 _ rfl; (with_reducible repeat (first | refine blk_drewN ?_ _ | refine blk_drew ?_ | refine blk_alloc ?_ _)); refine blk_put (cs := #[.string (⟨#[]⟩ : ByteArray), .int .i64 0, .int .i64 0, .string (⟨#[]⟩ : ByteArray), .string (⟨#[]⟩ : ByteArray), .int .i64 0, .slice none 0 0, .int .i64 0]) ?_ 0 _ rfl; (with_reducible repeat (first | refine blk_drewN ?_ _ | refine blk_drew ?_ | refine blk_alloc ?_ _)); exact BK155.out) hg (Kd.R_ne HO_3.out BK155.out (by decide))); have n2_ := Aside0.mk (hb); have n3_ := Aside0.mk (ho); clear BK127; clear BK155; clear HB; clear HO_3; have BK127 := n0_; have BK155 := n1_; have HB := n2_; have HO158 := n3_; clear n0_ n1_ n2_ n3_; clear ho hb hg hat))
                                            go_roundg k6
                                            case measure => have := HK1.out; have := HK2.out; have := HK3.out; have := HK4.out; have := HK5.out; have := HK6.out; omega
                                            case rel => exact ⟨(y156), (wrap64 (x108_6 + 1)), (by first | rfl | (simp; done) | (simp [*]; done)), H', ⟨by have := HK1.out; have := HK2.out; have := HK3.out; have := HK4.out; have := HK5.out; have := HK6.out; omega⟩, ⟨by (with_reducible repeat (first | apply Kd.R_alloc | apply Kd.R_drewN | apply Kd.R_drew)); exact HO158.out⟩, ⟨by (with_reducible repeat (first | refine blk_drewN ?_ _ | refine blk_drew ?_ | refine blk_alloc ?_ _)); exact BK127.out⟩, ⟨by repeat (first | (with_reducible first | exact HB.out | apply below_alloc | apply pw_below_drewN | apply below_drew1 | refine below_set ?_ GE127.out | refine below_set ?_ GE155.out) | exact HB.out)⟩⟩
                                          · rw [if_neg c52] at H
                                            exact absurd H (by simp)
                                        · rw [if_neg c51] at H
                                          exact absurd H (by simp)
                                      · rw [if_neg c50] at H
                                        exact absurd H (by simp)
                                    · rw [if_neg c49] at H
                                      have c49b0 : decide (x108_6 < (l0_5.length : Int)) = false := decide_eq_false c49
                                      clear c49
                                      obtain rfl := Option.some.inj H
                                      go_wp2
                                      go_ret
                                      exact ⟨_, by first | rfl | (simp [errW_none, errW_some] <;> rfl) | (simp [*, errW_none, errW_some] <;> rfl), by (with_reducible repeat (first | apply Kd.R_alloc | apply Kd.R_drewN | apply Kd.R_drew)); exact HO_3.out, by repeat (first | (with_reducible first | exact HB.out | apply below_alloc | apply pw_below_drewN | apply below_drew1 | refine below_set ?_ GE127.out) | exact HB.out)⟩

end Go.Proofs.Yteonloecenodbaa.PX
/- check.Lookup: the first declaration with the name. -/
namespace Go.Proofs.Yteonloecenodbaa.PX
open Go.RowKit Go.Shelf Go.Proofs.YteonloecenodbaaW.PrintWords Go.Proofs.YteonloecenodbaaW.PrintMore
attribute [local go_sem] Oper.semAt_some
set_option linter.unusedVariables false
theorem bytes_inj {a b : ByteArray} (h : a.data.toList = b.data.toList) : a = b := by
  cases a with | mk da =>
  cases b with | mk db =>
  cases da with | mk xa =>
  cases db with | mk xb =>
  simp only at h
  rw [h]
/-- The first declaration with a name. -/
def firstD (ds : List S164) (s : ByteArray) : Option S164 := ds.find? (fun d => decide (d.f0 = s))
def lookR (ds : List S164) (s : ByteArray) : Int × Int × Bool := match firstD ds s with
  | some d => (d.f1, d.f2, true)
  | none => (0, 0, false)
theorem tbl_at (ds : List S164) (s : ByteArray) : ∀ (n : Nat), n ≤ ds.length → ∀ (ys : List D164), ys.map (·.1) = bk ds n → ∀ D : Dw, Maps.IsMap D →
    (∀ z, (ys.foldl (fun D x => D.put (.string x.1.2.f0.data.toList) (d164 x.1.2)) D).atKey (.string s.data.toList) z = match firstD (ds.take n) s with | some d => d164 d | none => D.atKey (.string s.data.toList) z) ∧
    Maps.has (ys.foldl (fun D x => D.put (.string x.1.2.f0.data.toList) (d164 x.1.2)) D) (.string s.data.toList) = match firstD (ds.take n) s with | some d => true | none => Maps.has D (.string s.data.toList) := by
  intro n
  induction n with
  | zero =>
    intro _ ys hys D _
    have : ys = [] := by simpa [bk] using hys
    subst this
    simp [firstD]
  | succ j ih =>
    intro hj ys hys D hD
    cases ys with
    | nil => simp [bk] at hys
    | cons y ys =>
      rw [List.map_cons, bk] at hys
      injection hys with h1 h2
      rw [List.foldl_cons]
      have h3 := ih (by omega) ys h2 (D.put (.string y.1.2.f0.data.toList) (d164 y.1.2)) (hD.put _ _)
      have ht : ds.take (j + 1) = ds.take j ++ [ds.getD j z164] := by
        rw [List.take_add_one, List.getD_eq_getElem?_getD, List.getElem?_eq_getElem (by omega)]
        rfl
      have hf : firstD (ds.take (j + 1)) s = (firstD (ds.take j) s).or (firstD [ds.getD j z164] s) := by
        rw [ht]; unfold firstD; rw [List.find?_append]
      have hy : y.1.2 = ds.getD j z164 := by rw [h1]
      rw [hf]
      rw [hy] at h3 ⊢
      clear hf ht hy h1
      generalize ds.getD j z164 = dj at h3 ⊢
      cases hq : firstD (ds.take j) s with
      | some d =>
        rw [hq] at h3
        exact h3
      | none =>
        rw [hq] at h3
        by_cases he : dj.f0 = s
        · have h5 : firstD [dj] s = some dj := by simp [firstD, he]
          rw [Option.none_or, h5]
          rw [← he] at h3 ⊢
          exact ⟨fun z => (h3.1 z).trans (Maps.atKey_put_same hD (by trivial) _ z), h3.2.trans (Maps.has_put_same hD (by trivial) _)⟩
        · have h5 : firstD [dj] s = none := by simp [firstD, he]
          have hne : Lit.string s.data.toList ≠ Lit.string dj.f0.data.toList := fun e => by
            injection e with e; exact he (bytes_inj e.symm)
          rw [Option.none_or, h5]
          exact ⟨fun z => (h3.1 z).trans (Maps.atKey_put_other hne _ z), h3.2.trans (Maps.has_put_other hne _)⟩
theorem tbl_look (ds : List S164) (s : ByteArray) (ys : List D164) (h : ys.map (·.1) = bk ds ds.length) (z : Dw) :
    (tblD ys).atKey (.string s.data.toList) z = (match firstD ds s with | some d => d164 d | none => z) ∧ Maps.has (tblD ys) (.string s.data.toList) = (firstD ds s).isSome := by
  have h1 := tbl_at ds s ds.length (Nat.le_refl _) ys h (.map []) Maps.isMap_empty
  rw [List.take_length] at h1
  refine ⟨(h1.1 z).trans ?_, h1.2.trans ?_⟩
  · cases firstD ds s <;> rfl
  · cases firstD ds s <;> rfl
theorem R164_inv {v : Value} {x : S164} {ps : List MemPlace} (h : R164 v = some (d164 x, ps)) : v = v164 x := by
  unfold R164 at h
  split at h
  · rename_i cs
    split at h
    · rename_i s a b c hc
      have h1 := Option.some.inj h
      have h2 := congrArg Prod.fst h1
      obtain ⟨x0, x1, x2, x3⟩ := x
      simp only [d164] at h2
      injection h2 with h2
      simp only [List.cons.injEq, DataW.lit.injEq, Lit.string.injEq, Lit.int.injEq, true_and, and_true] at h2
      obtain ⟨e0, e1, e2, e3⟩ := h2
      obtain rfl := bytes_inj e0
      subst e1 e2 e3
      have : cs = #[.string s, .int .i64 a, .int .i64 b, .int .i64 c] := by
        cases cs with | mk l => simp only at hc; rw [hc]
      rw [this]; rfl
    · cases h
  · cases h
set_option maxRecDepth 100000 in
set_option maxHeartbeats 4000000 in
theorem look_calls (v0 v1 v2 v3 v4 v5 : Value) (ds : List S164) (hlen : ds.length ≤ 100000) (hsz : ∀ x ∈ bk ds ds.length, x.2.f0.size ≤ maxLen) (w : World)
    (hdec : ∀ W, Below w.heap.size w W → Calls Try.prog 112 #[.agg #[v0, v1, v2, v3, v4, v5]] W fun e w' => ∃ v0_ : Value, e = .returned v0_ ∧ Kd.R k164 164 w' W.heap.size (fun _ => True) v0_ ds ∧ Below W.heap.size W w')
    (s : ByteArray) (hs : s.size ≤ maxLen) :
    Calls Try.prog 74 #[.agg #[v0, v1, v2, v3, v4, v5], .string s] w fun e W' => e = .returned (.tuple #[.int .i64 (lookR ds s).1, .int .i64 (lookR ds s).2.1, .bool (lookR ds s).2.2]) ∧ Below w.heap.size w W' := by
  have HD := Aside0.mk hdec
  clear hdec
  go_enter Try.func74, Try.ntmps74
  have hz : ∀ W, (zeroValue 164).run Try.prog W = .ok (v164 z164) W := fun W => by kernel_rfl
  have HZ := Aside0.mk hz
  clear hz
  go_wp2_with (first
    | (at_lookup; refine wpList_lookup_own_ok _ rfl _ _ 166 rfl 9 164 (Maps.string_keyed Try.underlying9) Try.underlying166 R164 (HZ.out _) (d164 z164) [] (R164_v _) m ds.length _ rfl hown _ _ rfl (Go.WideMaps.keyOf_string_mk Try.underlying9 hs) ?_; intro v ps hv; rw [(tbl_look ds s ys hys _).1] at hv; rw [(tbl_look ds s ys hys .nil).2]; obtain rfl : v = v164 ((firstD ds s).getD z164) := (R164_inv (ps := ps) (by rw [hv]; cases firstD ds s <;> rfl)); unfold v164)
    | (go_at_call 99; refine (table_in v0 v1 v2 v3 v4 v5 ds hlen hsz _ (fun W hW => HD.out W ((below_alloc (Below.refl _ _) _).trans (hW.mono (by simp))))).mono ?_; rintro e w3 ⟨m, ys, rfl, hys, hown, hB3⟩; refine ⟨_, rfl, ?_⟩)
    | (go_at_call 99; refine (table_in v0 v1 v2 v3 v4 v5 ds hlen hsz _ (fun W hW => HD.out W ((below_alloc (Below.refl _ _) _).trans (hW.mono (by simp))))).mono ?_; rintro e w3 ⟨m, ys, rfl, hys, hown, hB3⟩))
  go_region_held3 (fun w' => w'.cell? ⟨w3.heap.size, 1, none⟩ = some (.int .i64 ((firstD ds s).getD z164).f1) ∧ w'.cell? ⟨w3.heap.size, 2, none⟩ = some (.int .i64 ((firstD ds s).getD z164).f2)) (go_keep) (fail)
  all_goals go_wp2
  have hB : Below w.heap.size w w3 := (below_alloc (Below.refl _ _) _).trans (hB3.mono (by simp))
  go_ret3
  refine ⟨?_, below_drew1 (below_alloc hB _)⟩
  unfold lookR
  cases firstD ds s <;> rfl
end Go.Proofs.Yteonloecenodbaa.PX
