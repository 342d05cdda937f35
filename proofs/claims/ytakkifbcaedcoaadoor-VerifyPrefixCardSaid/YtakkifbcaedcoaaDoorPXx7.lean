-- Written by a program of this session (wip/xprint.py, over the kit's print tool). Lean checks it.
import Derived.Test.YtakkifbcaedcoaaDoorPXx0
import Derived.Test.YtakkifbcaedcoaaDoorPXx3
import Derived.Test.YtakkifbcaedcoaaDoorPXx6
namespace Go.Proofs.YtakkifbcaedcoaaDoor.PX
open Go.RowKit Go.Proofs.YtakkifbcaedcoaaDoorW.PrintWords Go.Proofs.YtakkifbcaedcoaaDoorW.PrintLast Go.Proofs.YtakkifbcaedcoaaDoorW.PrintMore
attribute [local go_sem] max2_int min2_int max_two min_two max_three min_three max_four min_four   -- for this text's walks alone
set_option linter.unusedVariables false
set_option linter.unusedSimpArgs false

attribute [local go_sem high] eqA55
/-! ### trickleref52_Valid: function 28 -/
def trickleref52_Valid.l0 : Nat → ByteArray → List Int → Int → Int → Int → Int → Int → Int → Int → Int → Int → Int → Int → Int → Int → Int → Option (Bool)
  | 0, _, _, _, _, _, _, _, _, _, _, _, _, _, _, _, _ => none
  | k + 1, x3, x19, x20, x21, x162000, x162001, x162002, x162003, x162004, x162005, x167000, x167001, x167002, x167003, x167004, x167005 => if x21 < x20 then (if 0 ≤ x21 then (if x21 < (x19.length : Int) then ((trickleref52_get.f x162000 x162001 x162002 x162003 x162004 x162005 (rd x19 x21)).bind fun t168 => ((trickleref52_inRange.f k x162000 (rd x19 x21) t168).bind fun t169 => (if t169 = true then ((trickleref52_get.f x162000 x162001 x162002 x162003 x162004 x162005 (rd x19 x21)).bind fun t170 => ((trickleref52_with.f x167000 x167001 x167002 x167003 x167004 x167005 (rd x19 x21) t170).bind fun bt171 => (trickleref52_Valid.l0 k x3 x19 x20 (wrap64 (x21 + 1)) x162000 x162001 x162002 x162003 x162004 x162005 bt171.1 bt171.2.1 bt171.2.2.1 bt171.2.2.2.1 bt171.2.2.2.2.1 bt171.2.2.2.2.2))) else (some false)))) else (none)) else (none)) else (if x3.toList = ([] : List UInt8) then (some false) else (if x162001 ≥ 0 then (if x162001 ≤ 1099511627776 then (some (x167000 == x162000 && (x167001 == x162001 && (x167002 == x162002 && (x167003 == x162003 && (x167004 == x162004 && (x167005 == x162005))))))) else (some false)) else (some false)))
def trickleref52_Valid.f (k : Nat) (a0_0 : Int) (a0_1 : Int) (a0_2 : Int) (a0_3 : Int) (a0_4 : Int) (a0_5 : Int) : Option (Bool) := (trickleref52_word.f a0_0).bind fun bt162 => (trickleref52_Valid.l0 k bt162.1 bt162.2 (bt162.2.length : Int) 0 a0_0 a0_1 a0_2 a0_3 a0_4 a0_5 a0_0 a0_1 0 0 0 0)
theorem trickleref52_Valid.mono_l : ∀ k, (∀ y0 y1 y2 y3 y4 y5 y6 y7 y8 y9 y10 y11 y12 y13 y14 y15, LeO (trickleref52_Valid.l0 k y0 y1 y2 y3 y4 y5 y6 y7 y8 y9 y10 y11 y12 y13 y14 y15) (trickleref52_Valid.l0 (k + 1) y0 y1 y2 y3 y4 y5 y6 y7 y8 y9 y10 y11 y12 y13 y14 y15))
  | 0 => fun _ _ _ _ _ _ _ _ _ _ _ _ _ _ _ _ r h => by simp [trickleref52_Valid.l0] at h
  | k + 1 => by
    have ih0 := trickleref52_Valid.mono_l k
    · intro y0 y1 y2 y3 y4 y5 y6 y7 y8 y9 y10 y11 y12 y13 y14 y15
      unfold trickleref52_Valid.l0
      repeat' first
      | (with_reducible exact ih0 _ _ _ _ _ _ _ _ _ _ _ _ _ _ _ _)
      | (with_reducible exact trickleref52_inRange.mono _ _ _ _)
      | (with_reducible exact LeO.refl _)
      | (with_reducible exact LeO.none _)
      | (with_reducible refine LeO.ite ?_ ?_)
      | (with_reducible refine LeO.bind ?_ (fun _ => ?_))
      | exact ih0 _ _ _ _ _ _ _ _ _ _ _ _ _ _ _ _
      | exact trickleref52_inRange.mono _ _ _ _
      | exact LeO.none _
      | refine LeO.ite ?_ ?_
      | refine LeO.bind ?_ (fun _ => ?_)
theorem trickleref52_Valid.mono : ∀ a0 a1 a2 a3 a4 a5 k, LeO (trickleref52_Valid.f k a0 a1 a2 a3 a4 a5) (trickleref52_Valid.f (k + 1) a0 a1 a2 a3 a4 a5) := by
  intro a0 a1 a2 a3 a4 a5 k
  have ih0 := trickleref52_Valid.mono_l k
  unfold trickleref52_Valid.f
  repeat' first
      | (with_reducible exact ih0 _ _ _ _ _ _ _ _ _ _ _ _ _ _ _ _)
      | (with_reducible exact trickleref52_inRange.mono _ _ _ _)
      | (with_reducible exact LeO.refl _)
      | (with_reducible exact LeO.none _)
      | (with_reducible refine LeO.ite ?_ ?_)
      | (with_reducible refine LeO.bind ?_ (fun _ => ?_))
      | exact ih0 _ _ _ _ _ _ _ _ _ _ _ _ _ _ _ _
      | exact trickleref52_inRange.mono _ _ _ _
      | exact LeO.none _
      | refine LeO.ite ?_ ?_
      | refine LeO.bind ?_ (fun _ => ?_)
def trickleref52_Valid.T6 : Bool × List (List Nat × List Nat) := (true, [([], []), ([0], [0]), ([], []), ([], []), ([], []), ([3, 4], [3, 4]), ([1, 2, 5, 5], [1, 2, 5]), ([6], [6])])
def trickleref52_Valid.B6 : List Nat := [0, 1, 0, 0, 0, 24, 63, 127]
theorem trickleref52_Valid.tab6 : rtab .any (opsOf Tryd.f28 6) = trickleref52_Valid.T6 := by kernel_rfl
theorem trickleref52_Valid.bits6 : waitsOk trickleref52_Valid.T6.2 trickleref52_Valid.B6 = true := by kernel_rfl
set_option maxHeartbeats 8000000 in
set_option maxRecDepth 100000 in
theorem trickleref52_Valid.calls (k : Nat) (a0_0 : Int) (a0_1 : Int) (a0_2 : Int) (a0_3 : Int) (a0_4 : Int) (a0_5 : Int) (r : Bool) (w : World) (h : trickleref52_Valid.f k a0_0 a0_1 a0_2 a0_3 a0_4 a0_5 = some r) :
    Calls Tryd.prog 28 #[.agg #[.int .i64 a0_0, .int .i64 a0_1, .int .i64 a0_2, .int .i64 a0_3, .int .i16 a0_4, .int .i64 a0_5]] w fun e w' => e = .returned (.bool r) ∧ Below w.heap.size w w' := by
  have hu55 := Tryd.underlying55
  have HB := Aside0.mk (Below.refl w.heap.size w)
  have H : ((trickleref52_word.f a0_0).bind fun bt162 => (trickleref52_Valid.l0 k bt162.1 bt162.2 (bt162.2.length : Int) 0 a0_0 a0_1 a0_2 a0_3 a0_4 a0_5 a0_0 a0_1 0 0 0 0)) = some r := h
  clear h
  replace H := Option.bind_eq_some_iff.mp H
  obtain ⟨⟨t162, t163⟩, A20, H⟩ := H
  replace H : (trickleref52_Valid.l0 k t162 t163 (t163.length : Int) 0 a0_0 a0_1 a0_2 a0_3 a0_4 a0_5 a0_0 a0_1 0 0 0 0) = some r := H
  have A2 := Aside0.mk A20
  clear A20
  have H' := Aside0.mk H
  clear H
  go_enter Tryd.func28, Tryd.ntmps28
  go_wp2_with (first | ((with_reducible refine gate_dst (N := 1) rfl ?_); refine box_event ?hg (N := 1) ?hd (cs := #[.int .i64 a0_0, .int .i64 a0_1, .int .i64 a0_2, .int .i64 a0_3, .int .i16 a0_4, .int .i64 a0_5]) (t := 55) ?hr ?_; (case hd => rfl); (case hg => rfl); (case hr => first | (go_simp; done) | (go_simp; rfl)); intro gb161 hg w3 hbox hb; have n0_ := Aside0.mk (below_step (by repeat (first | (with_reducible first | exact HB.out | apply below_alloc | apply pw_below_drewN | apply below_drew1) | exact HB.out)) hb); have n1_ := Aside0.mk (hbox); have n2_ := Aside0.mk ((by rw [hg]; exact (below_size (by repeat (first | (with_reducible first | exact HB.out | apply below_alloc | apply pw_below_drewN | apply below_drew1) | exact HB.out))) : w.heap.size ≤ gb161)); have n3_ := Aside0.mk ((by rw [hg]; exact (below_size (by repeat (first | (with_reducible first | exact HB.out | apply below_alloc | apply pw_below_drewN | apply below_drew1) | exact HB.out))) : w.heap.size ≤ gb161)); clear HB; have HB := n0_; have BK161 := n1_; have GW161 := n2_; have GE161 := n3_; clear n0_ n1_ n2_ n3_; clear hb hbox hg; have hcz4_0 : w3.cell? ⟨gb161, 0, none⟩ = some (.int .i64 a0_0) := (blk_cell BK161.out 0).trans rfl; have hcz4_1 : w3.cell? ⟨gb161, 1, none⟩ = some (.int .i64 a0_1) := (blk_cell BK161.out 1).trans rfl; have hcz4_2 : w3.cell? ⟨gb161, 2, none⟩ = some (.int .i64 a0_2) := (blk_cell BK161.out 2).trans rfl; have hcz4_3 : w3.cell? ⟨gb161, 3, none⟩ = some (.int .i64 a0_3) := (blk_cell BK161.out 3).trans rfl; have hcz4_4 : w3.cell? ⟨gb161, 4, none⟩ = some (.int .i16 a0_4) := (blk_cell BK161.out 4).trans rfl; have hcz4_5 : w3.cell? ⟨gb161, 5, none⟩ = some (.int .i64 a0_5) := (blk_cell BK161.out 5).trans rfl; have hfz4_0 := blk_frozen BK161.out 0; have hfz4_1 := blk_frozen BK161.out 1; have hfz4_2 := blk_frozen BK161.out 2; have hfz4_3 := blk_frozen BK161.out 3; have hfz4_4 := blk_frozen BK161.out 4; have hfz4_5 := blk_frozen BK161.out 5) | ((with_reducible refine gate_callee (f := 46) rfl ?_); refine goesL_ (some 11) rfl rfl Tryd.func46 (by kernel_rfl) rfl #[.int .i64 a0_0] rfl (by (try simp only [List.map_toArray, List.map_cons, List.map_nil]); first | done | rfl | (simp only [List.length_drop, List.length_take]; rfl)) ?_; (with_reducible refine (trickleref52_word.calls a0_0 t162 t163 _ A2.out).mono ?_); rintro e w5 ⟨v164, rfl, ho0, hb⟩; refine ⟨_, rfl, ?_⟩; have n0_ := Aside0.mk (Kd.R_lower ho0 (below_size (by repeat (first | (with_reducible first | exact HB.out | apply below_alloc | apply pw_below_drewN | apply below_drew1 | refine below_set ?_ GE161.out) | exact HB.out)))); have n1_ := Aside0.mk (blk_below (g := gb161) (o := .cells #[.int .i64 a0_0, .int .i64 a0_1, .int .i64 a0_2, .int .i64 a0_3, .int .i16 a0_4, .int .i64 a0_5] 55 (0, 0)) (by (with_reducible repeat (first | refine blk_drewN ?_ _ | refine blk_drew ?_ | refine blk_alloc ?_ _)); exact BK161.out) hb); have n2_ := Aside0.mk (below_step (by repeat (first | (with_reducible first | exact HB.out | apply below_alloc | apply pw_below_drewN | apply below_drew1 | refine below_set ?_ GE161.out) | exact HB.out)) hb); clear BK161; clear HB; have HO165 := n0_; have BK161 := n1_; have HB := n2_; clear n0_ n1_ n2_; (try clear hb); (try clear hb2); (try clear hk); (try clear hi); (try clear ho0); have hcz6_0 : w5.cell? ⟨gb161, 0, none⟩ = some (.int .i64 a0_0) := (blk_cell BK161.out 0).trans rfl; have hcz6_1 : w5.cell? ⟨gb161, 1, none⟩ = some (.int .i64 a0_1) := (blk_cell BK161.out 1).trans rfl; have hcz6_2 : w5.cell? ⟨gb161, 2, none⟩ = some (.int .i64 a0_2) := (blk_cell BK161.out 2).trans rfl; have hcz6_3 : w5.cell? ⟨gb161, 3, none⟩ = some (.int .i64 a0_3) := (blk_cell BK161.out 3).trans rfl; have hcz6_4 : w5.cell? ⟨gb161, 4, none⟩ = some (.int .i16 a0_4) := (blk_cell BK161.out 4).trans rfl; have hcz6_5 : w5.cell? ⟨gb161, 5, none⟩ = some (.int .i64 a0_5) := (blk_cell BK161.out 5).trans rfl; have hfz6_0 := blk_frozen BK161.out 0; have hfz6_1 := blk_frozen BK161.out 1; have hfz6_2 := blk_frozen BK161.out 2; have hfz6_3 := blk_frozen BK161.out 3; have hfz6_4 := blk_frozen BK161.out 4; have hfz6_5 := blk_frozen BK161.out 5) | ((with_reducible refine gate_dst (N := 5) rfl ?_); refine box_event ?hg (N := 5) ?hd (cs := #[.int .i64 0, .int .i64 0, .int .i64 0, .int .i64 0, .int .i16 0, .int .i64 0]) (t := 55) ?hr ?_; (case hd => rfl); (case hg => rfl); (case hr => first | (go_simp; done) | (go_simp; rfl)); intro gb166 hg w7 hbox hb; have n0_ := Aside0.mk (Kd.R_below (by (with_reducible repeat (first | apply Kd.R_alloc | apply Kd.R_drewN | apply Kd.R_drew)); exact HO165.out) hb); have n1_ := Aside0.mk (blk_below (g := gb161) (o := .cells #[.int .i64 a0_0, .int .i64 a0_1, .int .i64 a0_2, .int .i64 a0_3, .int .i16 a0_4, .int .i64 a0_5] 55 (0, 0)) (by (with_reducible repeat (first | refine blk_drewN ?_ _ | refine blk_drew ?_ | refine blk_alloc ?_ _)); exact BK161.out) hb); have n2_ := Aside0.mk (below_step (by repeat (first | (with_reducible first | exact HB.out | apply below_alloc | apply pw_below_drewN | apply below_drew1 | refine below_set ?_ GE161.out) | exact HB.out)) hb); have n3_ := Aside0.mk (hbox); have n4_ := Aside0.mk ((by rw [hg]; exact (below_size (by repeat (first | (with_reducible first | exact HB.out | apply below_alloc | apply pw_below_drewN | apply below_drew1 | refine below_set ?_ GE161.out) | exact HB.out))) : w.heap.size ≤ gb166)); have n5_ := Aside0.mk ((by rw [hg]; exact (below_size (by repeat (first | (with_reducible first | exact HB.out | apply below_alloc | apply pw_below_drewN | apply below_drew1 | refine below_set ?_ GE161.out) | exact HB.out))) : w.heap.size ≤ gb166)); have n6_ := Aside0.mk ((by rw [hg]; exact Nat.ne_of_lt (blk_lt (g := gb161) (o := .cells #[.int .i64 a0_0, .int .i64 a0_1, .int .i64 a0_2, .int .i64 a0_3, .int .i16 a0_4, .int .i64 a0_5] 55 (0, 0)) (by (with_reducible repeat (first | refine blk_drewN ?_ _ | refine blk_drew ?_ | refine blk_alloc ?_ _)); exact BK161.out)) : gb161 ≠ gb166)); have n7_ := Aside0.mk ((by rw [hg]; exact Nat.ne_of_gt (blk_lt (g := gb161) (o := .cells #[.int .i64 a0_0, .int .i64 a0_1, .int .i64 a0_2, .int .i64 a0_3, .int .i16 a0_4, .int .i64 a0_5] 55 (0, 0)) (by (with_reducible repeat (first | refine blk_drewN ?_ _ | refine blk_drew ?_ | refine blk_alloc ?_ _)); exact BK161.out)) : gb166 ≠ gb161)); clear HO165; clear BK161; clear HB; have HO165 := n0_; have BK161 := n1_; have HB := n2_; have BK166 := n3_; have GW166 := n4_; have GE166 := n5_; have NB161_166 := n6_; have NB166_161 := n7_; clear n0_ n1_ n2_ n3_ n4_ n5_ n6_ n7_; clear hb hbox hg; have hnb8 := NB166_161.out; have hnc8 := NB161_166.out; have hcz9_0 : w7.cell? ⟨gb166, 0, none⟩ = some (.int .i64 0) := (blk_cell BK166.out 0).trans rfl; have hcz9_1 : w7.cell? ⟨gb166, 1, none⟩ = some (.int .i64 0) := (blk_cell BK166.out 1).trans rfl; have hcz9_2 : w7.cell? ⟨gb166, 2, none⟩ = some (.int .i64 0) := (blk_cell BK166.out 2).trans rfl; have hcz9_3 : w7.cell? ⟨gb166, 3, none⟩ = some (.int .i64 0) := (blk_cell BK166.out 3).trans rfl; have hcz9_4 : w7.cell? ⟨gb166, 4, none⟩ = some (.int .i16 0) := (blk_cell BK166.out 4).trans rfl; have hcz9_5 : w7.cell? ⟨gb166, 5, none⟩ = some (.int .i64 0) := (blk_cell BK166.out 5).trans rfl; have hfz9_0 := blk_frozen BK166.out 0; have hfz9_1 := blk_frozen BK166.out 1; have hfz9_2 := blk_frozen BK166.out 2; have hfz9_3 := blk_frozen BK166.out 3; have hfz9_4 := blk_frozen BK166.out 4; have hfz9_5 := blk_frozen BK166.out 5; obtain ⟨Ao10, co10, eo10⟩ := Kd.R_slice HO165.out; subst eo10))
  go_loopg [21] k (fun kq v21 w' => ∃ (x21_1 : Int) (x167000_1 : Int) (x167001_1 : Int) (x167002_1 : Int) (x167003_1 : Int) (x167004_1 : Int) (x167005_1 : Int), v21 = .int .i64 x21_1 ∧ Aside0 (trickleref52_Valid.l0 kq t162 t163 (t163.length : Int) x21_1 a0_0 a0_1 a0_2 a0_3 a0_4 a0_5 x167000_1 x167001_1 x167002_1 x167003_1 x167004_1 x167005_1 = some r) ∧ Aside0 (kq ≤ k) ∧ Aside0 (Kd.R (Kd.int .i64) 3 w' w.heap.size (fun _ => True) (.slice Ao10 t163.length co10) t163) ∧ Aside0 (w'.heap[gb161]? = some (.cells #[.int .i64 a0_0, .int .i64 a0_1, .int .i64 a0_2, .int .i64 a0_3, .int .i16 a0_4, .int .i64 a0_5] 55 (0, 0))) ∧ Aside0 (w'.heap[gb166]? = some (.cells #[.int .i64 x167000_1, .int .i64 x167001_1, .int .i64 x167002_1, .int .i64 x167003_1, .int .i16 x167004_1, .int .i64 x167005_1] 55 (0, 0))) ∧ Aside0 (Below w.heap.size w w'))
  case atStart => exact ⟨(0), (a0_0), (a0_1), (0), (0), (0), (0), (by first | rfl | (simp; done) | (simp [*]; done)), H', ⟨Nat.le_refl _⟩, ⟨by (with_reducible repeat (first | apply Kd.R_alloc | apply Kd.R_drewN | apply Kd.R_drew)); exact Kd.R_mono (Kd.R_far (p := ⟨gb166, 5, none⟩) (Kd.R_far (p := ⟨gb166, 4, none⟩) (Kd.R_far (p := ⟨gb166, 3, none⟩) (Kd.R_far (p := ⟨gb166, 2, none⟩) (Kd.R_far (p := ⟨gb166, 1, none⟩) (Kd.R_far (p := ⟨gb166, 0, none⟩) (Kd.R_types HO165.out BK166.out (by decide)) (fun _ hk => hk.2) (.int .i64 a0_0)) (fun _ hk => hk.2) (.int .i64 a0_1)) (fun _ hk => hk.2) (.int .i64 0)) (fun _ hk => hk.2) (.int .i64 0)) (fun _ hk => hk.2) (.int .i16 0)) (fun _ hk => hk.2) (.int .i64 0)) (fun _ hk => trivial)⟩, ⟨by (with_reducible repeat (first | refine blk_drewN ?_ _ | refine blk_drew ?_ | refine blk_alloc ?_ _)); refine blk_far ?_ NB161_166.out _; (with_reducible repeat (first | refine blk_drewN ?_ _ | refine blk_drew ?_ | refine blk_alloc ?_ _)); refine blk_far ?_ NB161_166.out _; (with_reducible repeat (first | refine blk_drewN ?_ _ | refine blk_drew ?_ | refine blk_alloc ?_ _)); refine blk_far ?_ NB161_166.out _; (with_reducible repeat (first | refine blk_drewN ?_ _ | refine blk_drew ?_ | refine blk_alloc ?_ _)); refine blk_far ?_ NB161_166.out _; (with_reducible repeat (first | refine blk_drewN ?_ _ | refine blk_drew ?_ | refine blk_alloc ?_ _)); refine blk_far ?_ NB161_166.out _; (with_reducible repeat (first | refine blk_drewN ?_ _ | refine blk_drew ?_ | refine blk_alloc ?_ _)); refine blk_far ?_ NB161_166.out _; (with_reducible repeat (first | refine blk_drewN ?_ _ | refine blk_drew ?_ | refine blk_alloc ?_ _)); exact BK161.out⟩, ⟨by (with_reducible repeat (first | refine blk_drewN ?_ _ | refine blk_drew ?_ | refine blk_alloc ?_ _)); refine blk_put (cs := #[.int .i64 a0_0, .int .i64 a0_1, .int .i64 0, .int .i64 0, .int .i16 0, .int .i64 0]) ?_ 5 _ rfl; (with_reducible repeat (first | refine blk_drewN ?_ _ | refine blk_drew ?_ | refine blk_alloc ?_ _)); refine blk_put (cs := #[.int .i64 a0_0, .int .i64 a0_1, .int .i64 0, .int .i64 0, .int .i16 0, .int .i64 0]) ?_ 4 _ rfl; (with_reducible repeat (first | refine blk_drewN ?_ _ | refine blk_drew ?_ | refine blk_alloc ?_ _)); refine blk_put (cs := #[.int .i64 a0_0, .int .i64 a0_1, .int .i64 0, .int .i64 0, .int .i16 0, .int .i64 0]) ?_ 3 _ rfl; (with_reducible repeat (first | refine blk_drewN ?_ _ | refine blk_drew ?_ | refine blk_alloc ?_ _)); refine blk_put (cs := #[.int .i64 a0_0, .int .i64 a0_1, .int .i64 0, .int .i64 0, .int .i16 0, .int .i64 0]) ?_ 2 _ rfl; (with_reducible repeat (first | refine blk_drewN ?_ _ | refine blk_drew ?_ | refine blk_alloc ?_ _)); refine blk_put (cs := #[.int .i64 a0_0, .int .i64 0, .int .i64 0, .int .i64 0, .int .i16 0, .int .i64 0]) ?_ 1 _ rfl; (with_reducible repeat (first | refine blk_drewN ?_ _ | refine blk_drew ?_ | refine blk_alloc ?_ _)); refine blk_put (cs := #[.int .i64 0, .int .i64 0, .int .i64 0, .int .i64 0, .int .i16 0, .int .i64 0]) ?_ 0 _ rfl; (with_reducible repeat (first | refine blk_drewN ?_ _ | refine blk_drew ?_ | refine blk_alloc ?_ _)); exact BK166.out⟩, ⟨by repeat (first | (with_reducible first | exact HB.out | apply below_alloc | apply pw_below_drewN | apply below_drew1 | refine below_set ?_ GE161.out | refine below_set ?_ GE166.out) | exact HB.out)⟩⟩
  case round =>
    clear H'
    try clear c2
    try clear p2
    try clear c4
    try clear c8
    try clear hcz4_0
    try clear hcz4_1
    try clear hcz4_2
    try clear hcz4_3
    try clear hcz4_4
    try clear hcz4_5
    try clear hcz6_0
    try clear hcz6_1
    try clear hcz6_2
    try clear hcz6_3
    try clear hcz6_4
    try clear hcz6_5
    try clear hcz9_0
    try clear hcz9_1
    try clear hcz9_2
    try clear hcz9_3
    try clear hcz9_4
    try clear hcz9_5
    try clear hfz4_0
    try clear hfz4_1
    try clear hfz4_2
    try clear hfz4_3
    try clear hfz4_4
    try clear hfz4_5
    try clear hfz6_0
    try clear hfz6_1
    try clear hfz6_2
    try clear hfz6_3
    try clear hfz6_4
    try clear hfz6_5
    try clear hfz9_0
    try clear hfz9_1
    try clear hfz9_2
    try clear hfz9_3
    try clear hfz9_4
    try clear hfz9_5
    obtain ⟨x21_1, x167000_1, x167001_1, x167002_1, x167003_1, x167004_1, x167005_1, rfl, HA, HK1, HO_19, BK161, BK166, HB⟩ := hrel
    cases gk with
    | zero => exact absurd HA.out (by simp [trickleref52_Valid.l0])
    | succ k1 =>
      have H := HA.out
      clear HA
      simp only [trickleref52_Valid.l0] at H
      by_cases c11 : x21_1 < (t163.length : Int)
      · rw [if_pos c11] at H
        have c11b0 : decide (x21_1 < (t163.length : Int)) = true := decide_eq_true c11
        clear c11
        by_cases c12 : 0 ≤ x21_1
        · rw [if_pos c12] at H
          have c12b0 : decide (0 ≤ x21_1) = true := decide_eq_true c12
          clear c12
          by_cases c13 : x21_1 < (t163.length : Int)
          · rw [if_pos c13] at H
            have c13b0 : decide (x21_1 < (t163.length : Int)) = true := decide_eq_true c13
            clear c13
            replace H := Option.bind_eq_some_iff.mp H
            obtain ⟨t168, A140, H⟩ := H
            replace H : ((trickleref52_inRange.f k1 a0_0 (rd t163 x21_1) t168).bind fun t169 => (if t169 = true then ((trickleref52_get.f a0_0 a0_1 a0_2 a0_3 a0_4 a0_5 (rd t163 x21_1)).bind fun t170 => ((trickleref52_with.f x167000_1 x167001_1 x167002_1 x167003_1 x167004_1 x167005_1 (rd t163 x21_1) t170).bind fun bt171 => (trickleref52_Valid.l0 k1 t162 t163 (t163.length : Int) (wrap64 (x21_1 + 1)) a0_0 a0_1 a0_2 a0_3 a0_4 a0_5 bt171.1 bt171.2.1 bt171.2.2.1 bt171.2.2.2.1 bt171.2.2.2.2.1 bt171.2.2.2.2.2))) else (some false))) = some r := H
            have A14 := Aside0.mk A140
            clear A140
            replace H := Option.bind_eq_some_iff.mp H
            obtain ⟨t169, A150, H⟩ := H
            replace H : (if t169 = true then ((trickleref52_get.f a0_0 a0_1 a0_2 a0_3 a0_4 a0_5 (rd t163 x21_1)).bind fun t170 => ((trickleref52_with.f x167000_1 x167001_1 x167002_1 x167003_1 x167004_1 x167005_1 (rd t163 x21_1) t170).bind fun bt171 => (trickleref52_Valid.l0 k1 t162 t163 (t163.length : Int) (wrap64 (x21_1 + 1)) a0_0 a0_1 a0_2 a0_3 a0_4 a0_5 bt171.1 bt171.2.1 bt171.2.2.1 bt171.2.2.2.1 bt171.2.2.2.2.1 bt171.2.2.2.2.2))) else (some false)) = some r := H
            have A15 := Aside0.mk A150
            clear A150
            by_cases c16 : t169 = true
            · subst c16
              have H1 : ((trickleref52_get.f a0_0 a0_1 a0_2 a0_3 a0_4 a0_5 (rd t163 x21_1)).bind fun t170 => ((trickleref52_with.f x167000_1 x167001_1 x167002_1 x167003_1 x167004_1 x167005_1 (rd t163 x21_1) t170).bind fun bt171 => (trickleref52_Valid.l0 k1 t162 t163 (t163.length : Int) (wrap64 (x21_1 + 1)) a0_0 a0_1 a0_2 a0_3 a0_4 a0_5 bt171.1 bt171.2.1 bt171.2.2.1 bt171.2.2.2.1 bt171.2.2.2.2.1 bt171.2.2.2.2.2))) = some r := by rw [if_pos rfl] at H; exact H
              clear H
              have H := H1
              clear H1
              replace H := Option.bind_eq_some_iff.mp H
              obtain ⟨t170, A170, H⟩ := H
              replace H : ((trickleref52_with.f x167000_1 x167001_1 x167002_1 x167003_1 x167004_1 x167005_1 (rd t163 x21_1) t170).bind fun bt171 => (trickleref52_Valid.l0 k1 t162 t163 (t163.length : Int) (wrap64 (x21_1 + 1)) a0_0 a0_1 a0_2 a0_3 a0_4 a0_5 bt171.1 bt171.2.1 bt171.2.2.1 bt171.2.2.2.1 bt171.2.2.2.2.1 bt171.2.2.2.2.2)) = some r := H
              have A17 := Aside0.mk A170
              clear A170
              replace H := Option.bind_eq_some_iff.mp H
              obtain ⟨⟨t171, t172, t173, t174, t175, t176⟩, A180, H⟩ := H
              replace H : (trickleref52_Valid.l0 k1 t162 t163 (t163.length : Int) (wrap64 (x21_1 + 1)) a0_0 a0_1 a0_2 a0_3 a0_4 a0_5 t171 t172 t173 t174 t175 t176) = some r := H
              have A18 := Aside0.mk A180
              clear A180
              have H' := Aside0.mk H
              clear H
              have p167 : 0 ≤ (x21_1 : Int) := of_decide_eq_true (by first | (with_reducible assumption) | assumption)
              have q167 : x21_1 < (t163.length : Int) := of_decide_eq_true (by first | (with_reducible assumption) | assumption)
              obtain ⟨ad167, e167, hx167_0⟩ := Kd.at_int (Kd.R_reads' HO_19.out).2.2 x21_1 p167 q167
              cases e167
              replace p167 := eq_true p167
              replace q167 := eq_true q167
              try go_wp2
              have n0_ := Aside0.mk (Kd.R_drew HO_19.out)
              have n1_ := Aside0.mk (blk_drew BK161.out)
              have n2_ := Aside0.mk (blk_drew BK166.out)
              have n3_ := Aside0.mk (below_drew1 HB.out)
              clear HO_19
              clear BK161
              clear BK166
              clear HB
              have HO_19 := n0_
              have BK161 := n1_
              have BK166 := n2_
              have HB := n3_
              clear n0_ n1_ n2_ n3_
              refine start_ (n := 8) (S := fun w' => w'.cell? ⟨gb161, 0, none⟩ = some (.int .i64 a0_0) ∧ w'.cell? ⟨gb161, 1, none⟩ = some (.int .i64 a0_1) ∧ w'.cell? ⟨gb161, 2, none⟩ = some (.int .i64 a0_2) ∧ w'.cell? ⟨gb161, 3, none⟩ = some (.int .i64 a0_3) ∧ w'.cell? ⟨gb161, 4, none⟩ = some (.int .i16 a0_4) ∧ w'.cell? ⟨gb161, 5, none⟩ = some (.int .i64 a0_5)) (ds := []) #[false, false, false, false, false, false, false, false] (by kernel_rfl) rfl rfl ⟨(blk_cell BK161.out 0).trans rfl, (blk_cell BK161.out 1).trans rfl, (blk_cell BK161.out 2).trans rfl, (blk_cell BK161.out 3).trans rfl, (blk_cell BK161.out 4).trans rfl, (blk_cell BK161.out 5).trans rfl⟩ (fun hHeld => ?_); refine with_tabW trickleref52_Valid.tab6 trickleref52_Valid.bits6 (fun HT_ HW_ => ?_)
              generalize wr.drew = w19 at HO_19 BK161 BK166 HB hHeld ⊢
              refine pure_ (i := 0) (N := some 25) (v := ?_) (a' := ?_) #[true, false, false, false, false, false, false, false] rfl rfl (any_of HT_.out (by kernel_rfl)) (fun _ _ _ h => h) (Or.inl ⟨by rfl, ?_⟩) ?_ ?_
              rotate_left
              · intro w'
                go_simp
                with_reducible rfl
              rotate_left
              · simp only [Act.put, List.setIfInBounds_toArray, List.set_cons_zero, List.set_cons_succ, i64_w, i32_w]
                rfl
              refine pure_ (i := 2) (N := some 27) (v := ?_) (a' := ?_) #[true, false, true, false, false, false, false, false] rfl rfl (any_of HT_.out (by kernel_rfl)) (fun _ _ _ h => h) (Or.inl ⟨by rfl, ?_⟩) ?_ ?_
              rotate_left
              · intro w'
                go_simp
                with_reducible rfl
              rotate_left
              · simp only [Act.put, List.setIfInBounds_toArray, List.set_cons_zero, List.set_cons_succ, i64_w, i32_w]
                rfl
              refine pure_ (i := 4) (N := some 29) (v := ?_) (a' := ?_) #[true, false, true, false, true, false, false, false] rfl rfl (any_of HT_.out (by kernel_rfl)) (fun _ _ _ h => h) (Or.inl ⟨by rfl, ?_⟩) ?_ ?_
              rotate_left
              · intro w'
                go_simp
                with_reducible rfl
              rotate_left
              · simp only [Act.put, List.setIfInBounds_toArray, List.set_cons_zero, List.set_cons_succ, i64_w, i32_w]
                rfl
              refine take_ (i := 1) (N := some 26) (v := ?_) (a' := ?_) #[true, true, true, false, true, false, false, false] rfl rfl (take_ofW HT_.out HW_.out (by kernel_rfl)) (fun _ _ _ h => h) (Or.inl ⟨by rfl, ?_⟩) hHeld ?_ ?_
              rotate_left
              · rintro w' ⟨s0, s1, s2, s3, s4, s5⟩
                go_simp
                with_reducible rfl
              rotate_left
              · simp only [Act.put, List.setIfInBounds_toArray, List.set_cons_zero, List.set_cons_succ, i64_w, i32_w]
                rfl
              refine take_ (i := 3) (N := some 28) (v := ?_) (a' := ?_) #[true, true, true, true, true, false, false, false] rfl rfl (take_ofW HT_.out HW_.out (by kernel_rfl)) (fun _ _ _ h => h) (Or.inl ⟨by rfl, ?_⟩) hHeld ?_ ?_
              rotate_left
              · rintro w' ⟨s0, s1, s2, s3, s4, s5⟩
                go_simp
                with_reducible rfl
              rotate_left
              · simp only [Act.put, List.setIfInBounds_toArray, List.set_cons_zero, List.set_cons_succ, i64_w, i32_w]
                rfl
              refine one_ (i := 5) (N := some 30) #[true, true, true, true, true, true, false, false] rfl rfl (one_of HT_.out (by kernel_rfl)) (by decide) (fun K hK => ?_)
              refine goes_ Tryd.func48 (by kernel_rfl) rfl #[.agg #[.int .i64 a0_0, .int .i64 a0_1, .int .i64 a0_2, .int .i64 a0_3, .int .i16 a0_4, .int .i64 a0_5], .int .i64 (rd t163 x21_1)] (by rfl) rfl rfl (by (try simp only [List.map_toArray, List.map_cons, List.map_nil]); first | done | rfl | (simp only [List.length_drop, List.length_take]; rfl)) ?_
              with_reducible refine (trickleref52_get.calls a0_0 a0_1 a0_2 a0_3 a0_4 a0_5 (rd t163 x21_1) t168 _ A14.out).mono ?_
              rintro e w20 ⟨rfl, hb⟩
              refine ⟨_, rfl, ?_⟩
              have n0_ := Aside0.mk (Kd.R_below (by (with_reducible repeat (first | apply Kd.R_alloc | apply Kd.R_drewN | apply Kd.R_drew)); exact HO_19.out) hb)
              have n1_ := Aside0.mk (blk_below (g := gb161) (o := .cells #[.int .i64 a0_0, .int .i64 a0_1, .int .i64 a0_2, .int .i64 a0_3, .int .i16 a0_4, .int .i64 a0_5] 55 (0, 0)) (by (with_reducible repeat (first | refine blk_drewN ?_ _ | refine blk_drew ?_ | refine blk_alloc ?_ _)); exact BK161.out) hb)
              have n2_ := Aside0.mk (blk_below (g := gb166) (o := .cells #[.int .i64 x167000_1, .int .i64 x167001_1, .int .i64 x167002_1, .int .i64 x167003_1, .int .i16 x167004_1, .int .i64 x167005_1] 55 (0, 0)) (by (with_reducible repeat (first | refine blk_drewN ?_ _ | refine blk_drew ?_ | refine blk_alloc ?_ _)); exact BK166.out) hb)
              have n3_ := Aside0.mk (below_step (by repeat (first | (with_reducible first | exact HB.out | apply below_alloc | apply pw_below_drewN | apply below_drew1 | refine below_set ?_ GE161.out | refine below_set ?_ GE166.out) | exact HB.out)) hb)
              clear HO_19
              clear BK161
              clear BK166
              clear HB
              have HO_19 := n0_
              have BK161 := n1_
              have BK166 := n2_
              have HB := n3_
              clear n0_ n1_ n2_ n3_
              (try clear hb)
              (try clear hb2)
              (try clear hk)
              (try clear hi)
              refine hK.out _ _ ⟨(blk_cell BK161.out 0).trans rfl, (blk_cell BK161.out 1).trans rfl, (blk_cell BK161.out 2).trans rfl, (blk_cell BK161.out 3).trans rfl, (blk_cell BK161.out 4).trans rfl, (blk_cell BK161.out 5).trans rfl⟩ (fun hHeld => ?_)
              clear hK K
              refine norm_ (a' := ?_) ?_ ?_
              rotate_left
              · show Act.put _ (some 30) _ = _
                simp only [Act.put, List.setIfInBounds_toArray, List.set_cons_zero, List.set_cons_succ, i64_w, i32_w]
                rfl
              refine one_ (i := 6) (N := some 31) #[true, true, true, true, true, true, true, false] rfl rfl (one_of HT_.out (by kernel_rfl)) (by decide) (fun K hK => ?_)
              refine goes_ Tryd.func47 (by kernel_rfl) rfl #[.int .i64 a0_0, .int .i64 (rd t163 x21_1), .int .i64 t168] (by rfl) rfl rfl (by (try simp only [List.map_toArray, List.map_cons, List.map_nil]); first | done | rfl | (simp only [List.length_drop, List.length_take]; rfl)) ?_
              with_reducible refine (trickleref52_inRange.calls k1 a0_0 (rd t163 x21_1) t168 true _ A15.out).mono ?_
              rintro e w' ⟨rfl, ⟨nd, rfl⟩⟩
              refine ⟨_, rfl, ?_⟩
              refine hK.out _ _ ⟨(blk_cell BK161.out 0).trans rfl, (blk_cell BK161.out 1).trans rfl, (blk_cell BK161.out 2).trans rfl, (blk_cell BK161.out 3).trans rfl, (blk_cell BK161.out 4).trans rfl, (blk_cell BK161.out 5).trans rfl⟩ (fun hHeld => ?_)
              clear hK K
              refine norm_ (a' := ?_) ?_ ?_
              rotate_left
              · show Act.put _ (some 31) _ = _
                simp only [Act.put, List.setIfInBounds_toArray, List.set_cons_zero, List.set_cons_succ, i64_w, i32_w]
                rfl
              refine pure_ (i := 7) (N := some 32) (v := ?_) (a' := ?_) #[true, true, true, true, true, true, true, true] rfl rfl (any_of HT_.out (by kernel_rfl)) (fun _ _ _ h => h) (Or.inl ⟨by rfl, ?_⟩) ?_ ?_
              rotate_left
              · intro w'
                go_simp
                with_reducible rfl
              rotate_left
              · simp only [Act.put, List.setIfInBounds_toArray, List.set_cons_zero, List.set_cons_succ, i64_w, i32_w]
                rfl
              refine done_ (done_of HT_.out (by kernel_rfl)) ?_
              try go_wp2
              (try (rw [drewN_self w20]; generalize hq_ : World.drewN w20 _ = w20; have n0_ : Aside0 (Kd.R (Kd.int .i64) 3 w20 w.heap.size (fun _ => True) (.slice (some ad167) t163.length co10) t163) := ⟨by rw [← hq_]; exact (by (with_reducible repeat (first | apply Kd.R_alloc | apply Kd.R_drewN | apply Kd.R_drew)); exact HO_19.out)⟩; have n1_ : Aside0 (w20.heap[gb161]? = some (.cells #[.int .i64 a0_0, .int .i64 a0_1, .int .i64 a0_2, .int .i64 a0_3, .int .i16 a0_4, .int .i64 a0_5] 55 (0, 0))) := ⟨by rw [← hq_]; exact (by (with_reducible repeat (first | refine blk_drewN ?_ _ | refine blk_drew ?_ | refine blk_alloc ?_ _)); exact BK161.out)⟩; have n2_ : Aside0 (w20.heap[gb166]? = some (.cells #[.int .i64 x167000_1, .int .i64 x167001_1, .int .i64 x167002_1, .int .i64 x167003_1, .int .i16 x167004_1, .int .i64 x167005_1] 55 (0, 0))) := ⟨by rw [← hq_]; exact (by (with_reducible repeat (first | refine blk_drewN ?_ _ | refine blk_drew ?_ | refine blk_alloc ?_ _)); exact BK166.out)⟩; have n3_ : Aside0 (Below w.heap.size w w20) := ⟨by rw [← hq_]; exact (by repeat (first | (with_reducible first | exact HB.out | apply below_alloc | apply pw_below_drewN | apply below_drew1 | refine below_set ?_ GE161.out | refine below_set ?_ GE166.out) | exact HB.out))⟩; clear HO_19 BK161 BK166 HB hq_; have HO_19 := n0_; have BK161 := n1_; have BK166 := n2_; have HB := n3_; clear n0_ n1_ n2_ n3_))
              have n0_ := Aside0.mk (Kd.R_drew HO_19.out)
              have n1_ := Aside0.mk (blk_drew BK161.out)
              have n2_ := Aside0.mk (blk_drew BK166.out)
              have n3_ := Aside0.mk (below_drew1 HB.out)
              clear HO_19
              clear BK161
              clear BK166
              clear HB
              have HO_19 := n0_
              have BK161 := n1_
              have BK166 := n2_
              have HB := n3_
              clear n0_ n1_ n2_ n3_
              refine start_ (n := 7) (S := fun w' => w'.cell? ⟨gb166, 0, none⟩ = some (.int .i64 x167000_1) ∧ w'.cell? ⟨gb166, 1, none⟩ = some (.int .i64 x167001_1) ∧ w'.cell? ⟨gb166, 2, none⟩ = some (.int .i64 x167002_1) ∧ w'.cell? ⟨gb166, 3, none⟩ = some (.int .i64 x167003_1) ∧ w'.cell? ⟨gb166, 4, none⟩ = some (.int .i16 x167004_1) ∧ w'.cell? ⟨gb166, 5, none⟩ = some (.int .i64 x167005_1) ∧ w'.cell? ⟨gb161, 0, none⟩ = some (.int .i64 a0_0) ∧ w'.cell? ⟨gb161, 1, none⟩ = some (.int .i64 a0_1) ∧ w'.cell? ⟨gb161, 2, none⟩ = some (.int .i64 a0_2) ∧ w'.cell? ⟨gb161, 3, none⟩ = some (.int .i64 a0_3) ∧ w'.cell? ⟨gb161, 4, none⟩ = some (.int .i16 a0_4) ∧ w'.cell? ⟨gb161, 5, none⟩ = some (.int .i64 a0_5)) (ds := [6]) #[false, false, false, false, false, false, false] (by kernel_rfl) rfl rfl ⟨(blk_cell BK166.out 0).trans rfl, (blk_cell BK166.out 1).trans rfl, (blk_cell BK166.out 2).trans rfl, (blk_cell BK166.out 3).trans rfl, (blk_cell BK166.out 4).trans rfl, (blk_cell BK166.out 5).trans rfl, (blk_cell BK161.out 0).trans rfl, (blk_cell BK161.out 1).trans rfl, (blk_cell BK161.out 2).trans rfl, (blk_cell BK161.out 3).trans rfl, (blk_cell BK161.out 4).trans rfl, (blk_cell BK161.out 5).trans rfl⟩ (fun hHeld => ?_)
              generalize w20.drew = w21 at HO_19 BK161 BK166 HB hHeld ⊢
              refine pure_ (i := 1) (N := some 34) (v := ?_) (a' := ?_) #[false, true, false, false, false, false, false] rfl rfl (by kernel_rfl) (fun _ _ _ h => h) (Or.inl ⟨by rfl, ?_⟩) ?_ ?_
              rotate_left
              · intro w'
                go_simp
                with_reducible rfl
              rotate_left
              · simp only [Act.put, List.setIfInBounds_toArray, List.set_cons_zero, List.set_cons_succ, i64_w, i32_w]
                rfl
              refine pure_ (i := 3) (N := some 36) (v := ?_) (a' := ?_) #[false, true, false, true, false, false, false] rfl rfl (by kernel_rfl) (fun _ _ _ h => h) (Or.inl ⟨by rfl, ?_⟩) ?_ ?_
              rotate_left
              · intro w'
                go_simp
                with_reducible rfl
              rotate_left
              · simp only [Act.put, List.setIfInBounds_toArray, List.set_cons_zero, List.set_cons_succ, i64_w, i32_w]
                rfl
              refine take_ (i := 0) (N := some 33) (v := ?_) (a' := ?_) #[true, true, false, true, false, false, false] rfl rfl (by kernel_rfl) (fun _ _ _ h => h) (Or.inl ⟨by rfl, ?_⟩) hHeld ?_ ?_
              rotate_left
              · rintro w' ⟨s0, s1, s2, s3, s4, s5, s6, s7, s8, s9, s10, s11⟩
                go_simp
                with_reducible rfl
              rotate_left
              · simp only [Act.put, List.setIfInBounds_toArray, List.set_cons_zero, List.set_cons_succ, i64_w, i32_w]
                rfl
              refine take_ (i := 2) (N := some 35) (v := ?_) (a' := ?_) #[true, true, true, true, false, false, false] rfl rfl (by kernel_rfl) (fun _ _ _ h => h) (Or.inl ⟨by rfl, ?_⟩) hHeld ?_ ?_
              rotate_left
              · rintro w' ⟨s0, s1, s2, s3, s4, s5, s6, s7, s8, s9, s10, s11⟩
                go_simp
                with_reducible rfl
              rotate_left
              · simp only [Act.put, List.setIfInBounds_toArray, List.set_cons_zero, List.set_cons_succ, i64_w, i32_w]
                rfl
              refine one_ (i := 4) (N := some 37) #[true, true, true, true, true, false, false] rfl rfl (by kernel_rfl) (by decide) (fun K hK => ?_)
              refine goes_ Tryd.func48 (by kernel_rfl) rfl #[.agg #[.int .i64 a0_0, .int .i64 a0_1, .int .i64 a0_2, .int .i64 a0_3, .int .i16 a0_4, .int .i64 a0_5], .int .i64 (rd t163 x21_1)] (by rfl) rfl rfl (by (try simp only [List.map_toArray, List.map_cons, List.map_nil]); first | done | rfl | (simp only [List.length_drop, List.length_take]; rfl)) ?_
              with_reducible refine (trickleref52_get.calls a0_0 a0_1 a0_2 a0_3 a0_4 a0_5 (rd t163 x21_1) t170 _ A17.out).mono ?_
              rintro e w22 ⟨rfl, hb⟩
              refine ⟨_, rfl, ?_⟩
              have n0_ := Aside0.mk (Kd.R_below (by (with_reducible repeat (first | apply Kd.R_alloc | apply Kd.R_drewN | apply Kd.R_drew)); exact HO_19.out) hb)
              have n1_ := Aside0.mk (blk_below (g := gb161) (o := .cells #[.int .i64 a0_0, .int .i64 a0_1, .int .i64 a0_2, .int .i64 a0_3, .int .i16 a0_4, .int .i64 a0_5] 55 (0, 0)) (by (with_reducible repeat (first | refine blk_drewN ?_ _ | refine blk_drew ?_ | refine blk_alloc ?_ _)); exact BK161.out) hb)
              have n2_ := Aside0.mk (blk_below (g := gb166) (o := .cells #[.int .i64 x167000_1, .int .i64 x167001_1, .int .i64 x167002_1, .int .i64 x167003_1, .int .i16 x167004_1, .int .i64 x167005_1] 55 (0, 0)) (by (with_reducible repeat (first | refine blk_drewN ?_ _ | refine blk_drew ?_ | refine blk_alloc ?_ _)); exact BK166.out) hb)
              have n3_ := Aside0.mk (below_step (by repeat (first | (with_reducible first | exact HB.out | apply below_alloc | apply pw_below_drewN | apply below_drew1 | refine below_set ?_ GE161.out | refine below_set ?_ GE166.out) | exact HB.out)) hb)
              clear HO_19
              clear BK161
              clear BK166
              clear HB
              have HO_19 := n0_
              have BK161 := n1_
              have BK166 := n2_
              have HB := n3_
              clear n0_ n1_ n2_ n3_
              (try clear hb)
              (try clear hb2)
              (try clear hk)
              (try clear hi)
              refine hK.out _ _ ⟨(blk_cell BK166.out 0).trans rfl, (blk_cell BK166.out 1).trans rfl, (blk_cell BK166.out 2).trans rfl, (blk_cell BK166.out 3).trans rfl, (blk_cell BK166.out 4).trans rfl, (blk_cell BK166.out 5).trans rfl, (blk_cell BK161.out 0).trans rfl, (blk_cell BK161.out 1).trans rfl, (blk_cell BK161.out 2).trans rfl, (blk_cell BK161.out 3).trans rfl, (blk_cell BK161.out 4).trans rfl, (blk_cell BK161.out 5).trans rfl⟩ (fun hHeld => ?_)
              clear hK K
              refine norm_ (a' := ?_) ?_ ?_
              rotate_left
              · show Act.put _ (some 37) _ = _
                simp only [Act.put, List.setIfInBounds_toArray, List.set_cons_zero, List.set_cons_succ, i64_w, i32_w]
                rfl
              refine one_ (i := 5) (N := some 38) #[true, true, true, true, true, true, false] rfl rfl (by kernel_rfl) (by decide) (fun K hK => ?_)
              refine goes_ Tryd.func49 (by kernel_rfl) rfl #[.agg #[.int .i64 x167000_1, .int .i64 x167001_1, .int .i64 x167002_1, .int .i64 x167003_1, .int .i16 x167004_1, .int .i64 x167005_1], .int .i64 (rd t163 x21_1), .int .i64 t170] (by rfl) rfl rfl (by (try simp only [List.map_toArray, List.map_cons, List.map_nil]); first | done | rfl | (simp only [List.length_drop, List.length_take]; rfl)) ?_
              with_reducible refine (trickleref52_with.calls x167000_1 x167001_1 x167002_1 x167003_1 x167004_1 x167005_1 (rd t163 x21_1) t170 t171 t172 t173 t174 t175 t176 _ A18.out).mono ?_
              rintro e w23 ⟨rfl, hb⟩
              refine ⟨_, rfl, ?_⟩
              have n0_ := Aside0.mk (Kd.R_below (by (with_reducible repeat (first | apply Kd.R_alloc | apply Kd.R_drewN | apply Kd.R_drew)); exact HO_19.out) hb)
              have n1_ := Aside0.mk (blk_below (g := gb161) (o := .cells #[.int .i64 a0_0, .int .i64 a0_1, .int .i64 a0_2, .int .i64 a0_3, .int .i16 a0_4, .int .i64 a0_5] 55 (0, 0)) (by (with_reducible repeat (first | refine blk_drewN ?_ _ | refine blk_drew ?_ | refine blk_alloc ?_ _)); exact BK161.out) hb)
              have n2_ := Aside0.mk (blk_below (g := gb166) (o := .cells #[.int .i64 x167000_1, .int .i64 x167001_1, .int .i64 x167002_1, .int .i64 x167003_1, .int .i16 x167004_1, .int .i64 x167005_1] 55 (0, 0)) (by (with_reducible repeat (first | refine blk_drewN ?_ _ | refine blk_drew ?_ | refine blk_alloc ?_ _)); exact BK166.out) hb)
              have n3_ := Aside0.mk (below_step (by repeat (first | (with_reducible first | exact HB.out | apply below_alloc | apply pw_below_drewN | apply below_drew1 | refine below_set ?_ GE161.out | refine below_set ?_ GE166.out) | exact HB.out)) hb)
              clear HO_19
              clear BK161
              clear BK166
              clear HB
              have HO_19 := n0_
              have BK161 := n1_
              have BK166 := n2_
              have HB := n3_
              clear n0_ n1_ n2_ n3_
              (try clear hb)
              (try clear hb2)
              (try clear hk)
              (try clear hi)
              refine hK.out _ _ ⟨(blk_cell BK166.out 0).trans rfl, (blk_cell BK166.out 1).trans rfl, (blk_cell BK166.out 2).trans rfl, (blk_cell BK166.out 3).trans rfl, (blk_cell BK166.out 4).trans rfl, (blk_cell BK166.out 5).trans rfl, (blk_cell BK161.out 0).trans rfl, (blk_cell BK161.out 1).trans rfl, (blk_cell BK161.out 2).trans rfl, (blk_cell BK161.out 3).trans rfl, (blk_cell BK161.out 4).trans rfl, (blk_cell BK161.out 5).trans rfl⟩ (fun hHeld => ?_)
              clear hK K
              refine norm_ (a' := ?_) ?_ ?_
              rotate_left
              · show Act.put _ (some 38) _ = _
                simp only [Act.put, List.setIfInBounds_toArray, List.set_cons_zero, List.set_cons_succ, i64_w, i32_w]
                rfl
              refine last_ (i := 6) (N := none) #[true, true, true, true, true, true, true] rfl rfl (by kernel_rfl) (by decide) (fun K hK => ?_)
              have hs24 : w23.cell? ⟨gb166, 0, none⟩ = some (.int .i64 x167000_1) := (blk_cell BK166.out 0).trans rfl
              have hfs24 := blk_frozen BK166.out 0
              have hns24_0 := NB161_166.out
              have hms24_0 := NB166_161.out
              have hs25 : w23.cell? ⟨gb166, 1, none⟩ = some (.int .i64 x167001_1) := (blk_cell BK166.out 1).trans rfl
              have hfs25 := blk_frozen BK166.out 1
              have hns25_0 := NB161_166.out
              have hms25_0 := NB166_161.out
              have hs26 : w23.cell? ⟨gb166, 2, none⟩ = some (.int .i64 x167002_1) := (blk_cell BK166.out 2).trans rfl
              have hfs26 := blk_frozen BK166.out 2
              have hns26_0 := NB161_166.out
              have hms26_0 := NB166_161.out
              have hs27 : w23.cell? ⟨gb166, 3, none⟩ = some (.int .i64 x167003_1) := (blk_cell BK166.out 3).trans rfl
              have hfs27 := blk_frozen BK166.out 3
              have hns27_0 := NB161_166.out
              have hms27_0 := NB166_161.out
              have hs28 : w23.cell? ⟨gb166, 4, none⟩ = some (.int .i16 x167004_1) := (blk_cell BK166.out 4).trans rfl
              have hfs28 := blk_frozen BK166.out 4
              have hns28_0 := NB161_166.out
              have hms28_0 := NB166_161.out
              have hs29 : w23.cell? ⟨gb166, 5, none⟩ = some (.int .i64 x167005_1) := (blk_cell BK166.out 5).trans rfl
              have hfs29 := blk_frozen BK166.out 5
              have hns29_0 := NB161_166.out
              have hms29_0 := NB166_161.out
              refine skip_ (w1 := ?_) (by rfl) rfl ?_ ?_
              rotate_left
              · go_simp
                rfl
              refine hK.out _ _ ?_
              clear hK K
              refine done_ (by kernel_rfl) ?_
              try go_wp2
              go_roundg k1
              case measure => have := HK1.out; omega
              case rel => exact ⟨(wrap64 (x21_1 + 1)), (t171), (t172), (t173), (t174), (t175), (t176), (by first | rfl | (simp; done) | (simp [*]; done)), H', ⟨by have := HK1.out; omega⟩, ⟨by (with_reducible repeat (first | apply Kd.R_alloc | apply Kd.R_drewN | apply Kd.R_drew)); exact Kd.R_mono (Kd.R_far (p := ⟨gb166, 5, none⟩) (Kd.R_far (p := ⟨gb166, 4, none⟩) (Kd.R_far (p := ⟨gb166, 3, none⟩) (Kd.R_far (p := ⟨gb166, 2, none⟩) (Kd.R_far (p := ⟨gb166, 1, none⟩) (Kd.R_far (p := ⟨gb166, 0, none⟩) (Kd.R_types HO_19.out BK166.out (by decide)) (fun _ hk => hk.2) (.int .i64 t171)) (fun _ hk => hk.2) (.int .i64 t172)) (fun _ hk => hk.2) (.int .i64 t173)) (fun _ hk => hk.2) (.int .i64 t174)) (fun _ hk => hk.2) (.int .i16 t175)) (fun _ hk => hk.2) (.int .i64 t176)) (fun _ hk => trivial)⟩, ⟨by (with_reducible repeat (first | refine blk_drewN ?_ _ | refine blk_drew ?_ | refine blk_alloc ?_ _)); refine blk_far ?_ NB161_166.out _; (with_reducible repeat (first | refine blk_drewN ?_ _ | refine blk_drew ?_ | refine blk_alloc ?_ _)); refine blk_far ?_ NB161_166.out _; (with_reducible repeat (first | refine blk_drewN ?_ _ | refine blk_drew ?_ | refine blk_alloc ?_ _)); refine blk_far ?_ NB161_166.out _; (with_reducible repeat (first | refine blk_drewN ?_ _ | refine blk_drew ?_ | refine blk_alloc ?_ _)); refine blk_far ?_ NB161_166.out _; (with_reducible repeat (first | refine blk_drewN ?_ _ | refine blk_drew ?_ | refine blk_alloc ?_ _)); refine blk_far ?_ NB161_166.out _; (with_reducible repeat (first | refine blk_drewN ?_ _ | refine blk_drew ?_ | refine blk_alloc ?_ _)); refine blk_far ?_ NB161_166.out _; (with_reducible repeat (first | refine blk_drewN ?_ _ | refine blk_drew ?_ | refine blk_alloc ?_ _)); exact BK161.out⟩, ⟨by (with_reducible repeat (first | refine blk_drewN ?_ _ | refine blk_drew ?_ | refine blk_alloc ?_ _)); refine blk_put (cs := #[.int .i64 t171, .int .i64 t172, .int .i64 t173, .int .i64 t174, .int .i16 t175, .int .i64 x167005_1]) ?_ 5 _ rfl; (with_reducible repeat (first | refine blk_drewN ?_ _ | refine blk_drew ?_ | refine blk_alloc ?_ _)); refine blk_put (cs := #[.int .i64 t171, .int .i64 t172, .int .i64 t173, .int .i64 t174, .int .i16 x167004_1, .int .i64 x167005_1]) ?_ 4 _ rfl; (with_reducible repeat (first | refine blk_drewN ?_ _ | refine blk_drew ?_ | refine blk_alloc ?_ _)); refine blk_put (cs := #[.int .i64 t171, .int .i64 t172, .int .i64 t173, .int .i64 x167003_1, .int .i16 x167004_1, .int .i64 x167005_1]) ?_ 3 _ rfl; (with_reducible repeat (first | refine blk_drewN ?_ _ | refine blk_drew ?_ | refine blk_alloc ?_ _)); refine blk_put (cs := #[.int .i64 t171, .int .i64 t172, .int .i64 x167002_1, .int .i64 x167003_1, .int .i16 x167004_1, .int .i64 x167005_1]) ?_ 2 _ rfl; (with_reducible repeat (first | refine blk_drewN ?_ _ | refine blk_drew ?_ | refine blk_alloc ?_ _)); refine blk_put (cs := #[.int .i64 t171, .int .i64 x167001_1, .int .i64 x167002_1, .int .i64 x167003_1, .int .i16 x167004_1, .int .i64 x167005_1]) ?_ 1 _ rfl; (with_reducible repeat (first | refine blk_drewN ?_ _ | refine blk_drew ?_ | refine blk_alloc ?_ _)); refine blk_put (cs := #[.int .i64 x167000_1, .int .i64 x167001_1, .int .i64 x167002_1, .int .i64 x167003_1, .int .i16 x167004_1, .int .i64 x167005_1]) ?_ 0 _ rfl; (with_reducible repeat (first | refine blk_drewN ?_ _ | refine blk_drew ?_ | refine blk_alloc ?_ _)); exact BK166.out⟩, ⟨by repeat (first | (with_reducible first | exact HB.out | apply below_alloc | apply pw_below_drewN | apply below_drew1 | refine below_set ?_ GE161.out | refine below_set ?_ GE166.out) | exact HB.out)⟩⟩
            · replace c16 := Bool.eq_false_iff.mpr c16
              subst c16
              have H1 : (some false) = some r := by rw [if_neg (show ¬ (false = true) by decide)] at H; exact H
              clear H
              have H := H1
              clear H1
              obtain rfl := Option.some.inj H
              have p167 : 0 ≤ (x21_1 : Int) := of_decide_eq_true (by first | (with_reducible assumption) | assumption)
              have q167 : x21_1 < (t163.length : Int) := of_decide_eq_true (by first | (with_reducible assumption) | assumption)
              obtain ⟨ad167, e167, hx167_0⟩ := Kd.at_int (Kd.R_reads' HO_19.out).2.2 x21_1 p167 q167
              cases e167
              replace p167 := eq_true p167
              replace q167 := eq_true q167
              try go_wp2
              have n0_ := Aside0.mk (Kd.R_drew HO_19.out)
              have n1_ := Aside0.mk (blk_drew BK161.out)
              have n2_ := Aside0.mk (blk_drew BK166.out)
              have n3_ := Aside0.mk (below_drew1 HB.out)
              clear HO_19
              clear BK161
              clear BK166
              clear HB
              have HO_19 := n0_
              have BK161 := n1_
              have BK166 := n2_
              have HB := n3_
              clear n0_ n1_ n2_ n3_
              refine start_ (n := 8) (S := fun w' => w'.cell? ⟨gb161, 0, none⟩ = some (.int .i64 a0_0) ∧ w'.cell? ⟨gb161, 1, none⟩ = some (.int .i64 a0_1) ∧ w'.cell? ⟨gb161, 2, none⟩ = some (.int .i64 a0_2) ∧ w'.cell? ⟨gb161, 3, none⟩ = some (.int .i64 a0_3) ∧ w'.cell? ⟨gb161, 4, none⟩ = some (.int .i16 a0_4) ∧ w'.cell? ⟨gb161, 5, none⟩ = some (.int .i64 a0_5)) (ds := []) #[false, false, false, false, false, false, false, false] (by kernel_rfl) rfl rfl ⟨(blk_cell BK161.out 0).trans rfl, (blk_cell BK161.out 1).trans rfl, (blk_cell BK161.out 2).trans rfl, (blk_cell BK161.out 3).trans rfl, (blk_cell BK161.out 4).trans rfl, (blk_cell BK161.out 5).trans rfl⟩ (fun hHeld => ?_); refine with_tabW trickleref52_Valid.tab6 trickleref52_Valid.bits6 (fun HT_ HW_ => ?_)
              generalize wr.drew = w30 at HO_19 BK161 BK166 HB hHeld ⊢
              refine pure_ (i := 0) (N := some 25) (v := ?_) (a' := ?_) #[true, false, false, false, false, false, false, false] rfl rfl (any_of HT_.out (by kernel_rfl)) (fun _ _ _ h => h) (Or.inl ⟨by rfl, ?_⟩) ?_ ?_
              rotate_left
              · intro w'
                go_simp
                with_reducible rfl
              rotate_left
              · simp only [Act.put, List.setIfInBounds_toArray, List.set_cons_zero, List.set_cons_succ, i64_w, i32_w]
                rfl
              refine pure_ (i := 2) (N := some 27) (v := ?_) (a' := ?_) #[true, false, true, false, false, false, false, false] rfl rfl (any_of HT_.out (by kernel_rfl)) (fun _ _ _ h => h) (Or.inl ⟨by rfl, ?_⟩) ?_ ?_
              rotate_left
              · intro w'
                go_simp
                with_reducible rfl
              rotate_left
              · simp only [Act.put, List.setIfInBounds_toArray, List.set_cons_zero, List.set_cons_succ, i64_w, i32_w]
                rfl
              refine pure_ (i := 4) (N := some 29) (v := ?_) (a' := ?_) #[true, false, true, false, true, false, false, false] rfl rfl (any_of HT_.out (by kernel_rfl)) (fun _ _ _ h => h) (Or.inl ⟨by rfl, ?_⟩) ?_ ?_
              rotate_left
              · intro w'
                go_simp
                with_reducible rfl
              rotate_left
              · simp only [Act.put, List.setIfInBounds_toArray, List.set_cons_zero, List.set_cons_succ, i64_w, i32_w]
                rfl
              refine take_ (i := 1) (N := some 26) (v := ?_) (a' := ?_) #[true, true, true, false, true, false, false, false] rfl rfl (take_ofW HT_.out HW_.out (by kernel_rfl)) (fun _ _ _ h => h) (Or.inl ⟨by rfl, ?_⟩) hHeld ?_ ?_
              rotate_left
              · rintro w' ⟨s0, s1, s2, s3, s4, s5⟩
                go_simp
                with_reducible rfl
              rotate_left
              · simp only [Act.put, List.setIfInBounds_toArray, List.set_cons_zero, List.set_cons_succ, i64_w, i32_w]
                rfl
              refine take_ (i := 3) (N := some 28) (v := ?_) (a' := ?_) #[true, true, true, true, true, false, false, false] rfl rfl (take_ofW HT_.out HW_.out (by kernel_rfl)) (fun _ _ _ h => h) (Or.inl ⟨by rfl, ?_⟩) hHeld ?_ ?_
              rotate_left
              · rintro w' ⟨s0, s1, s2, s3, s4, s5⟩
                go_simp
                with_reducible rfl
              rotate_left
              · simp only [Act.put, List.setIfInBounds_toArray, List.set_cons_zero, List.set_cons_succ, i64_w, i32_w]
                rfl
              refine one_ (i := 5) (N := some 30) #[true, true, true, true, true, true, false, false] rfl rfl (one_of HT_.out (by kernel_rfl)) (by decide) (fun K hK => ?_)
              refine goes_ Tryd.func48 (by kernel_rfl) rfl #[.agg #[.int .i64 a0_0, .int .i64 a0_1, .int .i64 a0_2, .int .i64 a0_3, .int .i16 a0_4, .int .i64 a0_5], .int .i64 (rd t163 x21_1)] (by rfl) rfl rfl (by (try simp only [List.map_toArray, List.map_cons, List.map_nil]); first | done | rfl | (simp only [List.length_drop, List.length_take]; rfl)) ?_
              with_reducible refine (trickleref52_get.calls a0_0 a0_1 a0_2 a0_3 a0_4 a0_5 (rd t163 x21_1) t168 _ A14.out).mono ?_
              rintro e w31 ⟨rfl, hb⟩
              refine ⟨_, rfl, ?_⟩
              have n0_ := Aside0.mk (Kd.R_below (by (with_reducible repeat (first | apply Kd.R_alloc | apply Kd.R_drewN | apply Kd.R_drew)); exact HO_19.out) hb)
              have n1_ := Aside0.mk (blk_below (g := gb161) (o := .cells #[.int .i64 a0_0, .int .i64 a0_1, .int .i64 a0_2, .int .i64 a0_3, .int .i16 a0_4, .int .i64 a0_5] 55 (0, 0)) (by (with_reducible repeat (first | refine blk_drewN ?_ _ | refine blk_drew ?_ | refine blk_alloc ?_ _)); exact BK161.out) hb)
              have n2_ := Aside0.mk (blk_below (g := gb166) (o := .cells #[.int .i64 x167000_1, .int .i64 x167001_1, .int .i64 x167002_1, .int .i64 x167003_1, .int .i16 x167004_1, .int .i64 x167005_1] 55 (0, 0)) (by (with_reducible repeat (first | refine blk_drewN ?_ _ | refine blk_drew ?_ | refine blk_alloc ?_ _)); exact BK166.out) hb)
              have n3_ := Aside0.mk (below_step (by repeat (first | (with_reducible first | exact HB.out | apply below_alloc | apply pw_below_drewN | apply below_drew1 | refine below_set ?_ GE161.out | refine below_set ?_ GE166.out) | exact HB.out)) hb)
              clear HO_19
              clear BK161
              clear BK166
              clear HB
              have HO_19 := n0_
              have BK161 := n1_
              have BK166 := n2_
              have HB := n3_
              clear n0_ n1_ n2_ n3_
              (try clear hb)
              (try clear hb2)
              (try clear hk)
              (try clear hi)
              refine hK.out _ _ ⟨(blk_cell BK161.out 0).trans rfl, (blk_cell BK161.out 1).trans rfl, (blk_cell BK161.out 2).trans rfl, (blk_cell BK161.out 3).trans rfl, (blk_cell BK161.out 4).trans rfl, (blk_cell BK161.out 5).trans rfl⟩ (fun hHeld => ?_)
              clear hK K
              refine norm_ (a' := ?_) ?_ ?_
              rotate_left
              · show Act.put _ (some 30) _ = _
                simp only [Act.put, List.setIfInBounds_toArray, List.set_cons_zero, List.set_cons_succ, i64_w, i32_w]
                rfl
              refine one_ (i := 6) (N := some 31) #[true, true, true, true, true, true, true, false] rfl rfl (one_of HT_.out (by kernel_rfl)) (by decide) (fun K hK => ?_)
              refine goes_ Tryd.func47 (by kernel_rfl) rfl #[.int .i64 a0_0, .int .i64 (rd t163 x21_1), .int .i64 t168] (by rfl) rfl rfl (by (try simp only [List.map_toArray, List.map_cons, List.map_nil]); first | done | rfl | (simp only [List.length_drop, List.length_take]; rfl)) ?_
              with_reducible refine (trickleref52_inRange.calls k1 a0_0 (rd t163 x21_1) t168 false _ A15.out).mono ?_
              rintro e w' ⟨rfl, ⟨nd, rfl⟩⟩
              refine ⟨_, rfl, ?_⟩
              refine hK.out _ _ ⟨(blk_cell BK161.out 0).trans rfl, (blk_cell BK161.out 1).trans rfl, (blk_cell BK161.out 2).trans rfl, (blk_cell BK161.out 3).trans rfl, (blk_cell BK161.out 4).trans rfl, (blk_cell BK161.out 5).trans rfl⟩ (fun hHeld => ?_)
              clear hK K
              refine norm_ (a' := ?_) ?_ ?_
              rotate_left
              · show Act.put _ (some 31) _ = _
                simp only [Act.put, List.setIfInBounds_toArray, List.set_cons_zero, List.set_cons_succ, i64_w, i32_w]
                rfl
              refine pure_ (i := 7) (N := some 32) (v := ?_) (a' := ?_) #[true, true, true, true, true, true, true, true] rfl rfl (any_of HT_.out (by kernel_rfl)) (fun _ _ _ h => h) (Or.inl ⟨by rfl, ?_⟩) ?_ ?_
              rotate_left
              · intro w'
                go_simp
                with_reducible rfl
              rotate_left
              · simp only [Act.put, List.setIfInBounds_toArray, List.set_cons_zero, List.set_cons_succ, i64_w, i32_w]
                rfl
              refine done_ (done_of HT_.out (by kernel_rfl)) ?_
              try go_wp2
              go_ret
              exact ⟨by first | rfl | (simp [errW_none, errW_some] <;> rfl) | (simp [*, errW_none, errW_some] <;> rfl), by repeat (first | (with_reducible first | exact HB.out | apply below_alloc | apply pw_below_drewN | apply below_drew1 | refine below_set ?_ GE161.out | refine below_set ?_ GE166.out) | exact HB.out)⟩
          · rw [if_neg c13] at H
            exact absurd H (by simp)
        · rw [if_neg c12] at H
          exact absurd H (by simp)
      · rw [if_neg c11] at H
        have c11b0 : decide (x21_1 < (t163.length : Int)) = false := decide_eq_false c11
        clear c11
        by_cases c32 : t162.toList = ([] : List UInt8)
        · rw [if_pos c32] at H
          have c32b0 : (t162.toList == ([] : List UInt8)) = true := beq_iff_eq.mpr c32
          have c32b1 : (t162.toList != ([] : List UInt8)) = false := bne_eq_false_iff_eq.mpr c32
          clear c32
          obtain rfl := Option.some.inj H
          go_wp2
          go_ret
          exact ⟨by first | rfl | (simp [errW_none, errW_some] <;> rfl) | (simp [*, errW_none, errW_some] <;> rfl), by repeat (first | (with_reducible first | exact HB.out | apply below_alloc | apply pw_below_drewN | apply below_drew1 | refine below_set ?_ GE161.out | refine below_set ?_ GE166.out) | exact HB.out)⟩
        · rw [if_neg c32] at H
          have c32b0 : (t162.toList == ([] : List UInt8)) = false := beq_eq_false_iff_ne.mpr c32
          have c32b1 : (t162.toList != ([] : List UInt8)) = true := bne_iff_ne.mpr c32
          by_cases c33 : a0_1 ≥ 0
          · rw [if_pos c33] at H
            have c33b0 : decide (0 ≤ a0_1) = true := decide_eq_true c33
            clear c33
            by_cases c34 : a0_1 ≤ 1099511627776
            · rw [if_pos c34] at H
              have c34b0 : decide (a0_1 ≤ 1099511627776) = true := decide_eq_true c34
              clear c34
              obtain rfl := Option.some.inj H
              have hnb35 := NB161_166.out
              have hnc35 := NB166_161.out
              have hcz36_0 : wr.cell? ⟨gb161, 0, none⟩ = some (.int .i64 a0_0) := (blk_cell BK161.out 0).trans rfl
              have hcz36_1 : wr.cell? ⟨gb161, 1, none⟩ = some (.int .i64 a0_1) := (blk_cell BK161.out 1).trans rfl
              have hcz36_2 : wr.cell? ⟨gb161, 2, none⟩ = some (.int .i64 a0_2) := (blk_cell BK161.out 2).trans rfl
              have hcz36_3 : wr.cell? ⟨gb161, 3, none⟩ = some (.int .i64 a0_3) := (blk_cell BK161.out 3).trans rfl
              have hcz36_4 : wr.cell? ⟨gb161, 4, none⟩ = some (.int .i16 a0_4) := (blk_cell BK161.out 4).trans rfl
              have hcz36_5 : wr.cell? ⟨gb161, 5, none⟩ = some (.int .i64 a0_5) := (blk_cell BK161.out 5).trans rfl
              have hfz36_0 := blk_frozen BK161.out 0
              have hfz36_1 := blk_frozen BK161.out 1
              have hfz36_2 := blk_frozen BK161.out 2
              have hfz36_3 := blk_frozen BK161.out 3
              have hfz36_4 := blk_frozen BK161.out 4
              have hfz36_5 := blk_frozen BK161.out 5
              have hcz37_0 : wr.cell? ⟨gb166, 0, none⟩ = some (.int .i64 x167000_1) := (blk_cell BK166.out 0).trans rfl
              have hcz37_1 : wr.cell? ⟨gb166, 1, none⟩ = some (.int .i64 x167001_1) := (blk_cell BK166.out 1).trans rfl
              have hcz37_2 : wr.cell? ⟨gb166, 2, none⟩ = some (.int .i64 x167002_1) := (blk_cell BK166.out 2).trans rfl
              have hcz37_3 : wr.cell? ⟨gb166, 3, none⟩ = some (.int .i64 x167003_1) := (blk_cell BK166.out 3).trans rfl
              have hcz37_4 : wr.cell? ⟨gb166, 4, none⟩ = some (.int .i16 x167004_1) := (blk_cell BK166.out 4).trans rfl
              have hcz37_5 : wr.cell? ⟨gb166, 5, none⟩ = some (.int .i64 x167005_1) := (blk_cell BK166.out 5).trans rfl
              have hfz37_0 := blk_frozen BK166.out 0
              have hfz37_1 := blk_frozen BK166.out 1
              have hfz37_2 := blk_frozen BK166.out 2
              have hfz37_3 := blk_frozen BK166.out 3
              have hfz37_4 := blk_frozen BK166.out 4
              have hfz37_5 := blk_frozen BK166.out 5
              go_wp2
              go_ret
              exact ⟨by first | rfl | (simp [errW_none, errW_some] <;> rfl) | (simp [*, errW_none, errW_some] <;> rfl), by repeat (first | (with_reducible first | exact HB.out | apply below_alloc | apply pw_below_drewN | apply below_drew1 | refine below_set ?_ GE161.out | refine below_set ?_ GE166.out) | exact HB.out)⟩
            · rw [if_neg c34] at H
              have c34b0 : decide (a0_1 ≤ 1099511627776) = false := decide_eq_false c34
              clear c34
              obtain rfl := Option.some.inj H
              have hnb38 := NB161_166.out
              have hnc38 := NB166_161.out
              have hcz39_0 : wr.cell? ⟨gb161, 0, none⟩ = some (.int .i64 a0_0) := (blk_cell BK161.out 0).trans rfl
              have hcz39_1 : wr.cell? ⟨gb161, 1, none⟩ = some (.int .i64 a0_1) := (blk_cell BK161.out 1).trans rfl
              have hcz39_2 : wr.cell? ⟨gb161, 2, none⟩ = some (.int .i64 a0_2) := (blk_cell BK161.out 2).trans rfl
              have hcz39_3 : wr.cell? ⟨gb161, 3, none⟩ = some (.int .i64 a0_3) := (blk_cell BK161.out 3).trans rfl
              have hcz39_4 : wr.cell? ⟨gb161, 4, none⟩ = some (.int .i16 a0_4) := (blk_cell BK161.out 4).trans rfl
              have hcz39_5 : wr.cell? ⟨gb161, 5, none⟩ = some (.int .i64 a0_5) := (blk_cell BK161.out 5).trans rfl
              have hfz39_0 := blk_frozen BK161.out 0
              have hfz39_1 := blk_frozen BK161.out 1
              have hfz39_2 := blk_frozen BK161.out 2
              have hfz39_3 := blk_frozen BK161.out 3
              have hfz39_4 := blk_frozen BK161.out 4
              have hfz39_5 := blk_frozen BK161.out 5
              go_wp2
              go_ret
              exact ⟨by first | rfl | (simp [errW_none, errW_some] <;> rfl) | (simp [*, errW_none, errW_some] <;> rfl), by repeat (first | (with_reducible first | exact HB.out | apply below_alloc | apply pw_below_drewN | apply below_drew1 | refine below_set ?_ GE161.out | refine below_set ?_ GE166.out) | exact HB.out)⟩
          · rw [if_neg c33] at H
            have c33b0 : decide (0 ≤ a0_1) = false := decide_eq_false c33
            clear c33
            obtain rfl := Option.some.inj H
            have hnb40 := NB161_166.out
            have hnc40 := NB166_161.out
            have hcz41_0 : wr.cell? ⟨gb161, 0, none⟩ = some (.int .i64 a0_0) := (blk_cell BK161.out 0).trans rfl
            have hcz41_1 : wr.cell? ⟨gb161, 1, none⟩ = some (.int .i64 a0_1) := (blk_cell BK161.out 1).trans rfl
            have hcz41_2 : wr.cell? ⟨gb161, 2, none⟩ = some (.int .i64 a0_2) := (blk_cell BK161.out 2).trans rfl
            have hcz41_3 : wr.cell? ⟨gb161, 3, none⟩ = some (.int .i64 a0_3) := (blk_cell BK161.out 3).trans rfl
            have hcz41_4 : wr.cell? ⟨gb161, 4, none⟩ = some (.int .i16 a0_4) := (blk_cell BK161.out 4).trans rfl
            have hcz41_5 : wr.cell? ⟨gb161, 5, none⟩ = some (.int .i64 a0_5) := (blk_cell BK161.out 5).trans rfl
            have hfz41_0 := blk_frozen BK161.out 0
            have hfz41_1 := blk_frozen BK161.out 1
            have hfz41_2 := blk_frozen BK161.out 2
            have hfz41_3 := blk_frozen BK161.out 3
            have hfz41_4 := blk_frozen BK161.out 4
            have hfz41_5 := blk_frozen BK161.out 5
            go_wp2
            go_ret
            exact ⟨by first | rfl | (simp [errW_none, errW_some] <;> rfl) | (simp [*, errW_none, errW_some] <;> rfl), by repeat (first | (with_reducible first | exact HB.out | apply below_alloc | apply pw_below_drewN | apply below_drew1 | refine below_set ?_ GE161.out | refine below_set ?_ GE166.out) | exact HB.out)⟩

/-! ### trickleref55_indexed: function 27 -/
def trickleref55_indexed.l0 : Nat → List (S55) → List (S55) → List Int → Int → Option ((List (S55)) × List Int)
  | 0, _, _, _, _ => none
  | k + 1, x0, x4, x5, x6 => if x6 < (x0.length : Int) then (if 0 ≤ x6 then ((trickleref52_Valid.f k ((rd_T55 x0 x6).f0) ((rd_T55 x0 x6).f1) ((rd_T55 x0 x6).f2) ((rd_T55 x0 x6).f3) ((rd_T55 x0 x6).f4) ((rd_T55 x0 x6).f5)).bind fun t178 => (if t178 = true then (if x4.length < 2932031007402 then (if x5.length < 17592186044416 then (trickleref55_indexed.l0 k x0 (x4 ++ [(⟨(rd_T55 x0 x6).f0, (rd_T55 x0 x6).f1, (rd_T55 x0 x6).f2, (rd_T55 x0 x6).f3, (rd_T55 x0 x6).f4, (rd_T55 x0 x6).f5⟩ : S55)]) (x5 ++ [x6]) (wrap64 (x6 + 1))) else (none)) else (none)) else (trickleref55_indexed.l0 k x0 x4 x5 (wrap64 (x6 + 1))))) else (none)) else (some (x4, x5))
def trickleref55_indexed.f (k : Nat) (l0 : List (S55)) : Option ((List (S55)) × List Int) := trickleref55_indexed.l0 k l0 ([] : List (S55)) ([] : List Int) 0
theorem trickleref55_indexed.mono_l : ∀ k, (∀ y0 y1 y2 y3, LeO (trickleref55_indexed.l0 k y0 y1 y2 y3) (trickleref55_indexed.l0 (k + 1) y0 y1 y2 y3))
  | 0 => fun _ _ _ _ r h => by simp [trickleref55_indexed.l0] at h
  | k + 1 => by
    have ih0 := trickleref55_indexed.mono_l k
    · intro y0 y1 y2 y3
      unfold trickleref55_indexed.l0
      repeat' first
      | (with_reducible exact ih0 _ _ _ _)
      | (with_reducible exact trickleref52_Valid.mono _ _ _ _ _ _ _)
      | (with_reducible exact LeO.refl _)
      | (with_reducible exact LeO.none _)
      | (with_reducible refine LeO.ite ?_ ?_)
      | (with_reducible refine LeO.bind ?_ (fun _ => ?_))
      | exact ih0 _ _ _ _
      | exact trickleref52_Valid.mono _ _ _ _ _ _ _
      | exact LeO.none _
      | refine LeO.ite ?_ ?_
      | refine LeO.bind ?_ (fun _ => ?_)
theorem trickleref55_indexed.mono : ∀ a0 k, LeO (trickleref55_indexed.f k a0) (trickleref55_indexed.f (k + 1) a0) := by
  intro a0 k
  have ih0 := trickleref55_indexed.mono_l k
  unfold trickleref55_indexed.f
  repeat' first
      | (with_reducible exact ih0 _ _ _ _)
      | (with_reducible exact trickleref52_Valid.mono _ _ _ _ _ _ _)
      | (with_reducible exact LeO.refl _)
      | (with_reducible exact LeO.none _)
      | (with_reducible refine LeO.ite ?_ ?_)
      | (with_reducible refine LeO.bind ?_ (fun _ => ?_))
      | exact ih0 _ _ _ _
      | exact trickleref52_Valid.mono _ _ _ _ _ _ _
      | exact LeO.none _
      | refine LeO.ite ?_ ?_
      | refine LeO.bind ?_ (fun _ => ?_)
set_option maxHeartbeats 8000000 in
set_option maxRecDepth 100000 in
theorem trickleref55_indexed.calls (k : Nat) (A0 : Option Addr) (c0 : Nat) (l0 : List (S55)) (r1 : List (S55)) (r2 : List Int) (w : World) (hr0 : Kd.C k55 w A0 l0.length l0) (hc0 : l0.length ≤ c0) (h : trickleref55_indexed.f k l0 = some (r1, r2)) :
    Calls Tryd.prog 27 #[.slice A0 l0.length c0] w fun e w' => ∃ v0_ v1_ : Value, e = .returned (.tuple #[v0_, v1_]) ∧ Kd.R k55 55 w' w.heap.size (fun _ => True) v0_ r1 ∧ Kd.R (Kd.int .i64) 3 w' w.heap.size (fun _ => True) v1_ r2 ∧ Below w.heap.size w w' := by
  have hu55 := Tryd.underlying55
  have HR0 := Aside0.mk hr0
  have HC0 := Aside0.mk hc0
  clear hr0 hc0
  have HB := Aside0.mk (Below.refl w.heap.size w)
  have H : (trickleref55_indexed.l0 k l0 ([] : List (S55)) ([] : List Int) 0) = some (r1, r2) := h
  clear h
  have H' := Aside0.mk H
  clear H
  go_enter Tryd.func27, Tryd.ntmps27
  go_wp2
  go_loopg [4, 5, 6] k (fun kq v4 v5 v6 w' => ∃ (x4_1 : List (S55)) (x5_1 : List Int) (x6_1 : Int), v6 = .int .i64 x6_1 ∧ Aside0 (trickleref55_indexed.l0 kq l0 x4_1 x5_1 x6_1 = some (r1, r2)) ∧ Aside0 (kq ≤ k) ∧ Aside0 (Kd.R k55 55 w' w.heap.size (fun _ => True) v4 x4_1) ∧ Aside0 (Kd.R (Kd.int .i64) 3 w' w.heap.size (fun _ => True) v5 x5_1) ∧ Aside0 (Below w.heap.size w w'))
  case atStart => exact ⟨(([] : List (S55))), (([] : List Int)), (0), (by first | rfl | (simp; done) | (simp [*]; done)), H', ⟨Nat.le_refl _⟩, ⟨by first | exact Kd.R_nil _ _ _ _ _ | exact Kd.N_nil _ _ _ _ _ | exact Kd.V_nil _ _ _ _ _ | exact Kd.Q_nil _ _ _ _ _ | exact Kd.S_nil _ _ _ _ _⟩, ⟨by first | exact Kd.R_nil _ _ _ _ _ | exact Kd.N_nil _ _ _ _ _ | exact Kd.V_nil _ _ _ _ _ | exact Kd.Q_nil _ _ _ _ _ | exact Kd.S_nil _ _ _ _ _⟩, ⟨by repeat (first | (with_reducible first | exact HB.out | apply below_alloc | apply pw_below_drewN | apply below_drew1) | exact HB.out)⟩⟩
  case round =>
    clear H'
    obtain ⟨x4_1, x5_1, x6_1, rfl, HA, HK1, HO_4, HO_5, HB⟩ := hrel
    cases gk with
    | zero => exact absurd HA.out (by simp [trickleref55_indexed.l0])
    | succ k1 =>
      have H := HA.out
      clear HA
      simp only [trickleref55_indexed.l0] at H
      by_cases c2 : x6_1 < (l0.length : Int)
      · rw [if_pos c2] at H
        have c2b0 : decide (x6_1 < (l0.length : Int)) = true := decide_eq_true c2
        clear c2
        by_cases c3 : 0 ≤ x6_1
        · rw [if_pos c3] at H
          have c3b0 : decide (0 ≤ x6_1) = true := decide_eq_true c3
          clear c3
          replace H := Option.bind_eq_some_iff.mp H
          obtain ⟨t178, A40, H⟩ := H
          replace H : (if t178 = true then (if x4_1.length < 2932031007402 then (if x5_1.length < 17592186044416 then (trickleref55_indexed.l0 k1 l0 (x4_1 ++ [(⟨(rd_T55 l0 x6_1).f0, (rd_T55 l0 x6_1).f1, (rd_T55 l0 x6_1).f2, (rd_T55 l0 x6_1).f3, (rd_T55 l0 x6_1).f4, (rd_T55 l0 x6_1).f5⟩ : S55)]) (x5_1 ++ [x6_1]) (wrap64 (x6_1 + 1))) else (none)) else (none)) else (trickleref55_indexed.l0 k1 l0 x4_1 x5_1 (wrap64 (x6_1 + 1)))) = some (r1, r2) := H
          have A4 := Aside0.mk A40
          clear A40
          by_cases c5 : t178 = true
          · subst c5
            have H1 : (if x4_1.length < 2932031007402 then (if x5_1.length < 17592186044416 then (trickleref55_indexed.l0 k1 l0 (x4_1 ++ [(⟨(rd_T55 l0 x6_1).f0, (rd_T55 l0 x6_1).f1, (rd_T55 l0 x6_1).f2, (rd_T55 l0 x6_1).f3, (rd_T55 l0 x6_1).f4, (rd_T55 l0 x6_1).f5⟩ : S55)]) (x5_1 ++ [x6_1]) (wrap64 (x6_1 + 1))) else (none)) else (none)) = some (r1, r2) := by rw [if_pos rfl] at H; exact H
            clear H
            have H := H1
            clear H1
            by_cases c6 : x4_1.length < 2932031007402
            · rw [if_pos c6] at H
              have LMc6 := Aside0.mk c6
              clear c6
              obtain ⟨y180, hy180⟩ : ∃ y_ : List (S55), y_ = (x4_1 ++ [(⟨(rd_T55 l0 x6_1).f0, (rd_T55 l0 x6_1).f1, (rd_T55 l0 x6_1).f2, (rd_T55 l0 x6_1).f3, (rd_T55 l0 x6_1).f4, (rd_T55 l0 x6_1).f5⟩ : S55)]) := ⟨_, rfl⟩
              replace H : (if x5_1.length < 17592186044416 then (trickleref55_indexed.l0 k1 l0 y180 (x5_1 ++ [x6_1]) (wrap64 (x6_1 + 1))) else (none)) = some (r1, r2) := by first | (rw [hy180]; with_reducible exact H) | (have H2_ := (Option.bind_some _ _).symm.trans H; rw [hy180]; with_reducible exact H2_) | (have H2_ := (Option.bind_some _ _).symm.trans H; with_reducible exact H2_) | with_reducible exact H | (rw [hy180]; exact H) | exact H
              have Ny180 := Aside0.mk hy180
              clear hy180
              by_cases c7 : x5_1.length < 17592186044416
              · rw [if_pos c7] at H
                have LMc7 := Aside0.mk c7
                clear c7
                obtain ⟨y183, hy183⟩ : ∃ y_ : List Int, y_ = (x5_1 ++ [x6_1]) := ⟨_, rfl⟩
                replace H : (trickleref55_indexed.l0 k1 l0 y180 y183 (wrap64 (x6_1 + 1))) = some (r1, r2) := by first | (rw [hy183]; with_reducible exact H) | (have H2_ := (Option.bind_some _ _).symm.trans H; rw [hy183]; with_reducible exact H2_) | (have H2_ := (Option.bind_some _ _).symm.trans H; with_reducible exact H2_) | with_reducible exact H | (rw [hy183]; exact H) | exact H
                have Ny183 := Aside0.mk hy183
                clear hy183
                have H' := Aside0.mk H
                clear H
                have p177 : 0 ≤ (x6_1 : Int) := of_decide_eq_true (by first | (with_reducible assumption) | assumption)
                have q177 : x6_1 < (l0.length : Int) := of_decide_eq_true (by first | (with_reducible assumption) | assumption)
                obtain ⟨ad177, e177, hx177_0, hx177_1, hx177_2, hx177_3, hx177_4, hx177_5⟩ := at_T55 HR0.out x6_1 p177 q177
                cases e177
                replace hx177_0 := (HB.out.cell (World.block_lt_of_cell? w _ hx177_0)).trans hx177_0
                replace hx177_1 := (HB.out.cell (World.block_lt_of_cell? w _ hx177_1)).trans hx177_1
                replace hx177_2 := (HB.out.cell (World.block_lt_of_cell? w _ hx177_2)).trans hx177_2
                replace hx177_3 := (HB.out.cell (World.block_lt_of_cell? w _ hx177_3)).trans hx177_3
                replace hx177_4 := (HB.out.cell (World.block_lt_of_cell? w _ hx177_4)).trans hx177_4
                replace hx177_5 := (HB.out.cell (World.block_lt_of_cell? w _ hx177_5)).trans hx177_5
                replace p177 := eq_true p177
                replace q177 := eq_true q177
                go_wp2_with (first | ((with_reducible refine gate_callee (f := 28) rfl ?_); refine goesL_ (some 17) rfl rfl Tryd.func28 (by kernel_rfl) rfl #[.agg #[.int .i64 ((rd_T55 l0 x6_1).f0), .int .i64 ((rd_T55 l0 x6_1).f1), .int .i64 ((rd_T55 l0 x6_1).f2), .int .i64 ((rd_T55 l0 x6_1).f3), .int .i16 ((rd_T55 l0 x6_1).f4), .int .i64 ((rd_T55 l0 x6_1).f5)]] rfl (by (try simp only [List.map_toArray, List.map_cons, List.map_nil]); first | done | rfl | (simp only [List.length_drop, List.length_take]; rfl)) ?_; (with_reducible refine (trickleref52_Valid.calls k1 ((rd_T55 l0 x6_1).f0) ((rd_T55 l0 x6_1).f1) ((rd_T55 l0 x6_1).f2) ((rd_T55 l0 x6_1).f3) ((rd_T55 l0 x6_1).f4) ((rd_T55 l0 x6_1).f5) true _ A4.out).mono ?_); rintro e w8 ⟨rfl, hb⟩; refine ⟨_, rfl, ?_⟩; have n0_ := Aside0.mk (Kd.R_below (by (with_reducible repeat (first | apply Kd.R_alloc | apply Kd.R_drewN | apply Kd.R_drew)); exact HO_4.out) hb); have n1_ := Aside0.mk (Kd.R_below (by (with_reducible repeat (first | apply Kd.R_alloc | apply Kd.R_drewN | apply Kd.R_drew)); exact HO_5.out) hb); have n2_ := Aside0.mk (below_step (by repeat (first | (with_reducible first | exact HB.out | apply below_alloc | apply pw_below_drewN | apply below_drew1) | exact HB.out)) hb); clear HO_4; clear HO_5; clear HB; have HO_4 := n0_; have HO_5 := n1_; have HB := n2_; clear n0_ n1_ n2_; (try clear hb); (try clear hb2); (try clear hk); (try clear hi); have p179 : 0 ≤ (x6_1 : Int) := of_decide_eq_true (by first | (with_reducible assumption) | assumption); have q179 : x6_1 < (l0.length : Int) := of_decide_eq_true (by first | (with_reducible assumption) | assumption); obtain ⟨ad179, e179, hx179_0, hx179_1, hx179_2, hx179_3, hx179_4, hx179_5⟩ := at_T55 HR0.out x6_1 p179 q179; obtain rfl : ad177 = ad179 := (by injection e179); replace hx179_0 := (HB.out.cell (World.block_lt_of_cell? w _ hx179_0)).trans hx179_0; replace hx179_1 := (HB.out.cell (World.block_lt_of_cell? w _ hx179_1)).trans hx179_1; replace hx179_2 := (HB.out.cell (World.block_lt_of_cell? w _ hx179_2)).trans hx179_2; replace hx179_3 := (HB.out.cell (World.block_lt_of_cell? w _ hx179_3)).trans hx179_3; replace hx179_4 := (HB.out.cell (World.block_lt_of_cell? w _ hx179_4)).trans hx179_4; replace hx179_5 := (HB.out.cell (World.block_lt_of_cell? w _ hx179_5)).trans hx179_5; replace p179 := eq_true p179; replace q179 := eq_true q179) | ((with_reducible refine gate_builtin (b := .append) (xs := #[.tmp 18, .tmp 23]) rfl ?_); at_builtin; refine Kd.R_append k55 (w0 := w) w.heap.size rfl (.tmp 18) (.tmp 23) 22 55 (.agg #[(.int .i64 0), (.int .i64 0), (.int .i64 0), (.int .i64 0), (.int .i16 0), (.int .i64 0)]) 48 rfl Tryd.underlying22 info55 rfl (by decide) (by omega) u4 x4_1 (⟨(rd_T55 l0 x6_1).f0, (rd_T55 l0 x6_1).f1, (rd_T55 l0 x6_1).f2, (rd_T55 l0 x6_1).f3, (rd_T55 l0 x6_1).f4, (rd_T55 l0 x6_1).f5⟩ : S55) [.int .i64 ((rd_T55 l0 x6_1).f0), .int .i64 ((rd_T55 l0 x6_1).f1), .int .i64 ((rd_T55 l0 x6_1).f2), .int .i64 ((rd_T55 l0 x6_1).f3), .int .i16 ((rd_T55 l0 x6_1).f4), .int .i64 ((rd_T55 l0 x6_1).f5)] (fun _ => True) (fun _ => False) rfl rfl ?aP (fun _ hk => hk.elim) ?aF ?aO ?aB ?aS ?aL ?_; (case aP => exact k55_mkM _ _ _ (⟨(rd_T55 l0 x6_1).f0, (rd_T55 l0 x6_1).f1, (rd_T55 l0 x6_1).f2, (rd_T55 l0 x6_1).f3, (rd_T55 l0 x6_1).f4, (rd_T55 l0 x6_1).f5⟩ : S55)); (case aB => exact (by repeat (first | (with_reducible first | exact HB.out | apply below_alloc | apply pw_below_drewN | apply below_drew1) | exact HB.out))); (case aF => exact (fun _ _ => trivial)); (case aO => exact (by (with_reducible repeat (first | apply Kd.R_alloc | apply Kd.R_drewN | apply Kd.R_drew)); exact HO_4.out)); (case aS => exact (below_size (by repeat (first | (with_reducible first | exact HB.out | apply below_alloc | apply pw_below_drewN | apply below_drew1) | exact HB.out)))); (case aL => have := LMc6.out; omega); intro v181 w9 ho hb hg hat; rw [← Ny180.out] at ho; have n0_ := Aside0.mk (Kd.R_over' (by (with_reducible repeat (first | apply Kd.R_alloc | apply Kd.R_drewN | apply Kd.R_drew)); exact HO_5.out) (Kd.R_typed (by (with_reducible repeat (first | apply Kd.R_alloc | apply Kd.R_drewN | apply Kd.R_drew)); exact HO_4.out)) (by decide) hg); have n1_ := Aside0.mk (hb); have n2_ := Aside0.mk (ho); clear HO_5; clear HB; clear HO_4; have HO_5 := n0_; have HB := n1_; have HO182 := n2_; clear n0_ n1_ n2_; clear ho hb hg hat) | ((with_reducible refine gate_builtin (b := .append) (xs := #[.tmp 25, .tmp 27]) rfl ?_); at_builtin; refine Kd.R_append (Kd.int .i64) (w0 := w) w.heap.size rfl (.tmp 25) (.tmp 27) 38 3 (.int .i64 0) 8 rfl Tryd.underlying38 info3 rfl (by decide) (by omega) u5 x5_1 x6_1 [.int .i64 x6_1] (fun _ => True) (fun _ => False) rfl rfl ?aP (fun _ hk => hk.elim) ?aF ?aO ?aB ?aS ?aL ?_; (case aP => exact rfl); (case aB => exact (by repeat (first | (with_reducible first | exact HB.out | apply below_alloc | apply pw_below_drewN | apply below_drew1) | exact HB.out))); (case aF => exact (fun _ _ => trivial)); (case aO => exact (by (with_reducible repeat (first | apply Kd.R_alloc | apply Kd.R_drewN | apply Kd.R_drew)); exact HO_5.out)); (case aS => exact (below_size (by repeat (first | (with_reducible first | exact HB.out | apply below_alloc | apply pw_below_drewN | apply below_drew1) | exact HB.out)))); (case aL => have := LMc7.out; omega); intro v184 w10 ho hb hg hat; rw [← Ny183.out] at ho; have n0_ := Aside0.mk (Kd.R_over' (by (with_reducible repeat (first | apply Kd.R_alloc | apply Kd.R_drewN | apply Kd.R_drew)); exact HO182.out) (Kd.R_typed (by (with_reducible repeat (first | apply Kd.R_alloc | apply Kd.R_drewN | apply Kd.R_drew)); exact HO_5.out)) (by decide) hg); have n1_ := Aside0.mk (hb); have n2_ := Aside0.mk (ho); clear HO182; clear HB; clear HO_5; have HO182 := n0_; have HB := n1_; have HO185 := n2_; clear n0_ n1_ n2_; clear ho hb hg hat))
                go_roundg k1
                case measure => have := HK1.out; omega
                case rel => exact ⟨(y180), (y183), (wrap64 (x6_1 + 1)), (by first | rfl | (simp; done) | (simp [*]; done)), H', ⟨by have := HK1.out; omega⟩, ⟨by (with_reducible repeat (first | apply Kd.R_alloc | apply Kd.R_drewN | apply Kd.R_drew)); exact HO182.out⟩, ⟨by (with_reducible repeat (first | apply Kd.R_alloc | apply Kd.R_drewN | apply Kd.R_drew)); exact HO185.out⟩, ⟨by repeat (first | (with_reducible first | exact HB.out | apply below_alloc | apply pw_below_drewN | apply below_drew1) | exact HB.out)⟩⟩
              · rw [if_neg c7] at H
                exact absurd H (by simp)
            · rw [if_neg c6] at H
              exact absurd H (by simp)
          · replace c5 := Bool.eq_false_iff.mpr c5
            subst c5
            have H1 : (trickleref55_indexed.l0 k1 l0 x4_1 x5_1 (wrap64 (x6_1 + 1))) = some (r1, r2) := by rw [if_neg (show ¬ (false = true) by decide)] at H; exact H
            clear H
            have H := H1
            clear H1
            have H' := Aside0.mk H
            clear H
            have p177 : 0 ≤ (x6_1 : Int) := of_decide_eq_true (by first | (with_reducible assumption) | assumption)
            have q177 : x6_1 < (l0.length : Int) := of_decide_eq_true (by first | (with_reducible assumption) | assumption)
            obtain ⟨ad177, e177, hx177_0, hx177_1, hx177_2, hx177_3, hx177_4, hx177_5⟩ := at_T55 HR0.out x6_1 p177 q177
            cases e177
            replace hx177_0 := (HB.out.cell (World.block_lt_of_cell? w _ hx177_0)).trans hx177_0
            replace hx177_1 := (HB.out.cell (World.block_lt_of_cell? w _ hx177_1)).trans hx177_1
            replace hx177_2 := (HB.out.cell (World.block_lt_of_cell? w _ hx177_2)).trans hx177_2
            replace hx177_3 := (HB.out.cell (World.block_lt_of_cell? w _ hx177_3)).trans hx177_3
            replace hx177_4 := (HB.out.cell (World.block_lt_of_cell? w _ hx177_4)).trans hx177_4
            replace hx177_5 := (HB.out.cell (World.block_lt_of_cell? w _ hx177_5)).trans hx177_5
            replace p177 := eq_true p177
            replace q177 := eq_true q177
            go_wp2_with (first | ((with_reducible refine gate_callee (f := 28) rfl ?_); refine goesL_ (some 17) rfl rfl Tryd.func28 (by kernel_rfl) rfl #[.agg #[.int .i64 ((rd_T55 l0 x6_1).f0), .int .i64 ((rd_T55 l0 x6_1).f1), .int .i64 ((rd_T55 l0 x6_1).f2), .int .i64 ((rd_T55 l0 x6_1).f3), .int .i16 ((rd_T55 l0 x6_1).f4), .int .i64 ((rd_T55 l0 x6_1).f5)]] rfl (by (try simp only [List.map_toArray, List.map_cons, List.map_nil]); first | done | rfl | (simp only [List.length_drop, List.length_take]; rfl)) ?_; (with_reducible refine (trickleref52_Valid.calls k1 ((rd_T55 l0 x6_1).f0) ((rd_T55 l0 x6_1).f1) ((rd_T55 l0 x6_1).f2) ((rd_T55 l0 x6_1).f3) ((rd_T55 l0 x6_1).f4) ((rd_T55 l0 x6_1).f5) false _ A4.out).mono ?_); rintro e w11 ⟨rfl, hb⟩; refine ⟨_, rfl, ?_⟩; have n0_ := Aside0.mk (Kd.R_below (by (with_reducible repeat (first | apply Kd.R_alloc | apply Kd.R_drewN | apply Kd.R_drew)); exact HO_4.out) hb); have n1_ := Aside0.mk (Kd.R_below (by (with_reducible repeat (first | apply Kd.R_alloc | apply Kd.R_drewN | apply Kd.R_drew)); exact HO_5.out) hb); have n2_ := Aside0.mk (below_step (by repeat (first | (with_reducible first | exact HB.out | apply below_alloc | apply pw_below_drewN | apply below_drew1) | exact HB.out)) hb); clear HO_4; clear HO_5; clear HB; have HO_4 := n0_; have HO_5 := n1_; have HB := n2_; clear n0_ n1_ n2_; (try clear hb); (try clear hb2); (try clear hk); (try clear hi)))
            go_roundg k1
            case measure => have := HK1.out; omega
            case rel => exact ⟨(x4_1), (x5_1), (wrap64 (x6_1 + 1)), (by first | rfl | (simp; done) | (simp [*]; done)), H', ⟨by have := HK1.out; omega⟩, ⟨by (with_reducible repeat (first | apply Kd.R_alloc | apply Kd.R_drewN | apply Kd.R_drew)); exact HO_4.out⟩, ⟨by (with_reducible repeat (first | apply Kd.R_alloc | apply Kd.R_drewN | apply Kd.R_drew)); exact HO_5.out⟩, ⟨by repeat (first | (with_reducible first | exact HB.out | apply below_alloc | apply pw_below_drewN | apply below_drew1) | exact HB.out)⟩⟩
        · rw [if_neg c3] at H
          exact absurd H (by simp)
      · rw [if_neg c2] at H
        have c2b0 : decide (x6_1 < (l0.length : Int)) = false := decide_eq_false c2
        clear c2
        simp only [Option.some.injEq, Prod.mk.injEq] at H
        obtain ⟨rfl, rfl⟩ := H
        go_wp2
        go_ret2
        exact ⟨_, _, by first | rfl | (simp [errW_none, errW_some] <;> rfl) | (simp [*, errW_none, errW_some] <;> rfl), by (with_reducible repeat (first | apply Kd.R_alloc | apply Kd.R_drewN | apply Kd.R_drew)); exact HO_4.out, by (with_reducible repeat (first | apply Kd.R_alloc | apply Kd.R_drewN | apply Kd.R_drew)); exact HO_5.out, by repeat (first | (with_reducible first | exact HB.out | apply below_alloc | apply pw_below_drewN | apply below_drew1) | exact HB.out)⟩

end Go.Proofs.YtakkifbcaedcoaaDoor.PX
