/- The function literal in VerifyPrefix: what it computes, and that its call computes it. -/
import Derived.Test.YtakkifbcaedcoaaDoorPXx6
import Derived.Test.YtakkifbcaedcoaaDoorEv
namespace Go.Proofs.YtakkifbcaedcoaaDoor.PX
open Go.RowKit Go.Proofs.YtakkifbcaedcoaaDoorW.PrintWords Go.Proofs.YtakkifbcaedcoaaDoorW.PrintLast Go.Proofs.YtakkifbcaedcoaaDoorW.PrintMore
set_option linter.unusedVariables false
set_option linter.unusedSimpArgs false
theorem rdp32 (xs : List S32) (j : Nat) (h : j < xs.length) : rd_T32 xs (j : Int) = xs[j] := getD_nat xs z32 j h
def to33' (v : S32) : S33 := ⟨v.f0, v.f1⟩
def partF (l : List S32) (q : Int) : List S33 := (l.filter (fun v => decide (v.f0 < q))).map to33'
theorem partF_le (l : List S32) (q : Int) : (partF l q).length ≤ l.length := by rw [partF, List.length_map]; exact List.length_filter_le _ _
theorem partF_snoc (l : List S32) (q : Int) (e : S32) : partF (l ++ [e]) q = if e.f0 < q then partF l q ++ [to33' e] else partF l q := by
  unfold partF
  rw [List.filter_append]
  by_cases h : e.f0 < q <;> simp [h]
set_option maxHeartbeats 8000000 in
set_option maxRecDepth 100000 in
theorem part_calls (A0 : Option Addr) (c0 : Nat) (l0 : List S32) (g : Nat) (q : Int) (w : World) (hr0 : Kd.C k32 w A0 l0.length l0) (hc0 : l0.length ≤ c0) (hq : w.cell? ⟨g, 0, none⟩ = some (.int .i64 q)) (hl : l0.length < 8796093022208) :
    Calls Tryd.prog 15 #[.slice A0 l0.length c0, .pointer (some ⟨g, 0, none⟩)] w fun e w' => ∃ v0_ : Value, e = .returned (v0_) ∧ Kd.R k33 33 w' w.heap.size (fun _ => True) v0_ (partF l0 q) ∧ Below w.heap.size w w' := by
  have hu32 := Tryd.underlying32
  have hu33 := Tryd.underlying33
  have HR0 := Aside0.mk hr0
  have HC0 := Aside0.mk hc0
  have hln := Aside0.mk hl
  have HQ := Aside0.mk hq
  have hgl := Aside0.mk (World.block_lt_of_cell? w _ hq)
  clear hr0 hc0 hl hq
  have HB := Aside0.mk (Below.refl w.heap.size w)
  go_enter Tryd.func15, Tryd.ntmps15
  go_wp2
  go_loopg [4, 9] l0.length (fun kq v4 v9 w' => ∃ (x3_1 : List S33) (j : Nat), v9 = .int .i64 (j : Int) ∧ Aside0 (j + kq = l0.length ∧ x3_1 = partF (l0.take j) q) ∧ Aside0 (Kd.R k33 33 w' w.heap.size (fun _ => True) v4 x3_1) ∧ Aside0 (Below w.heap.size w w'))
  case atStart => exact ⟨[], 0, rfl, ⟨⟨by omega, rfl⟩⟩, ⟨Kd.R_nil _ _ _ _ _⟩, ⟨by repeat (first | (with_reducible first | exact HB.out | apply below_alloc | apply pw_below_drewN | apply below_drew1) | exact HB.out)⟩⟩
  case round =>
    clear HB
    obtain ⟨x3_1, j, rfl, HA, HO_3, HB⟩ := hrel
    by_cases c2 : (j : Int) < (l0.length : Int)
    · have hjn : j < l0.length := by omega
      have c2b0 : decide ((j : Int) < (l0.length : Int)) = true := decide_eq_true c2
      have c2n : decide (j < l0.length) = true := decide_eq_true hjn
      obtain ⟨ad117, e117, hx117_0, hx117_1⟩ := at_T32 HR0.out (j : Int) (by omega) (by omega)
      cases e117
      rw [rdp32 l0 j hjn, Int.toNat_natCast] at hx117_0 hx117_1
      replace hx117_0 := (HB.out.cell (World.block_lt_of_cell? w _ hx117_0)).trans hx117_0
      replace hx117_1 := (HB.out.cell (World.block_lt_of_cell? w _ hx117_1)).trans hx117_1
      have p117 := eq_true (show (0 : Int) ≤ (j : Int) by omega)
      have q117 := eq_true c2
      have q117n := eq_true hjn
      clear c2
      have hwr := (i64_w ((j : Int) + 1)).trans (wrap_nat hjn (by have := hln.out; omega))
      have hx3 : x3_1.length ≤ j := by rw [HA.out.2]; exact Nat.le_trans (partF_le _ _) (by rw [List.length_take]; omega)
      have LMc5 := Aside0.mk (show x3_1.length < 8796093022208 by have := hln.out; omega)
      clear hx3
      have hstep := Aside0.mk (partF_snoc (l0.take j) q l0[j])
      have hj1 := Aside0.mk HA.out.1
      have hx1 := Aside0.mk HA.out.2
      clear HA
      cases gk with
      | zero => exact absurd hj1.out (by omega)
      | succ k1 =>
        by_cases c17 : l0[j].f0 < q
        · have c17b0 : decide (l0[j].f0 < q) = true := decide_eq_true c17
          have c17a := Aside0.mk c17
          clear c17
          go_wp2_with (first | ((with_reducible refine gate_dst (N := 6) rfl ?_); refine box_event ?hg (N := 6) ?hd (cs := #[.int .i64 0, .int .i64 0]) (t := 32) ?hr ?_; (case hd => rfl); (case hg => rfl); (case hr => first | (go_simp; done) | (go_simp; rfl)); intro gb118 hg w6 hbox hb; have n0_ := Aside0.mk (Kd.R_below (by (with_reducible repeat (first | apply Kd.R_alloc | apply Kd.R_drewN | apply Kd.R_drew)); exact HO_3.out) hb); have n1_ := Aside0.mk (below_step (by repeat (first | (with_reducible first | exact HB.out | apply below_alloc | apply pw_below_drewN | apply below_drew1) | exact HB.out)) hb); have n2_ := Aside0.mk (hbox); have n3_ := Aside0.mk ((by rw [hg]; exact (below_size (by repeat (first | (with_reducible first | exact HB.out | apply below_alloc | apply pw_below_drewN | apply below_drew1) | exact HB.out))) : w.heap.size ≤ gb118)); have n4_ := Aside0.mk ((by rw [hg]; exact (below_size (by repeat (first | (with_reducible first | exact HB.out | apply below_alloc | apply pw_below_drewN | apply below_drew1) | exact HB.out))) : w.heap.size ≤ gb118)); clear HO_3; clear HB; have HO_3 := n0_; have HB := n1_; have BK118 := n2_; have GW118 := n3_; have GE118 := n4_; clear n0_ n1_ n2_ n3_ n4_; clear hb hbox hg; have hcz7_0 : w6.cell? ⟨gb118, 0, none⟩ = some (.int .i64 0) := (blk_cell BK118.out 0).trans rfl; have hcz7_1 : w6.cell? ⟨gb118, 1, none⟩ = some (.int .i64 0) := (blk_cell BK118.out 1).trans rfl; have hfz7_0 := blk_frozen BK118.out 0; have hfz7_1 := blk_frozen BK118.out 1; have hgne : g ≠ gb118 := (by have := GE118.out; have := hgl.out; omega); have hgne2 : gb118 ≠ g := fun e => hgne e.symm; have hq6 : w6.cell? ⟨g, 0, none⟩ = some (.int .i64 q) := (HB.out.cell (World.block_lt_of_cell? w _ HQ.out)).trans HQ.out) | ((with_reducible refine gate_builtin (b := .append) (xs := #[.tmp 17, .tmp 23]) rfl ?_); at_builtin; refine Kd.R_append k33 (w0 := w) w.heap.size rfl (.tmp 17) (.tmp 23) 25 33 (.agg #[(.int .i64 0), (.int .i64 0)]) 16 rfl Tryd.underlying25 info33 rfl (by decide) (by omega) u4 x3_1 (⟨(l0[j]).f0, (l0[j]).f1⟩ : S33) [.int .i64 ((l0[j]).f0), .int .i64 ((l0[j]).f1)] (fun _ => True) (fun _ => False) rfl (by first | (go_simp; done) | (go_simp; rfl)) ?aP (fun _ hk => hk.elim) ?aF ?aO ?aB ?aS ?aL ?_; (case aP => exact k33_mkM _ _ _ (⟨(l0[j]).f0, (l0[j]).f1⟩ : S33)); (case aB => exact (by repeat (first | (with_reducible first | exact HB.out | apply below_alloc | apply pw_below_drewN | apply below_drew1 | refine below_set ?_ GE118.out) | exact HB.out))); (case aF => exact (fun _ _ => trivial)); (case aO => exact (by (with_reducible repeat (first | apply Kd.R_alloc | apply Kd.R_drewN | apply Kd.R_drew)); exact Kd.R_mono (Kd.R_far (p := ⟨gb118, 1, none⟩) (Kd.R_far (p := ⟨gb118, 0, none⟩) (Kd.R_types HO_3.out BK118.out (by decide)) (fun _ hk => hk.2) (.int .i64 ((l0[j]).f0))) (fun _ hk => hk.2) (.int .i64 ((l0[j]).f1))) (fun _ hk => trivial))); (case aS => exact (below_size (by repeat (first | (with_reducible first | exact HB.out | apply below_alloc | apply pw_below_drewN | apply below_drew1 | refine below_set ?_ GE118.out) | exact HB.out)))); (case aL => have := LMc5.out; omega); intro v120 w8 ho hb hg hat; have n0_ := Aside0.mk (blk_grown (g := gb118) (o := .cells #[.int .i64 ((l0[j]).f0), .int .i64 ((l0[j]).f1)] 32 (0, 0)) (by (with_reducible repeat (first | refine blk_drewN ?_ _ | refine blk_drew ?_ | refine blk_alloc ?_ _)); refine blk_put (cs := #[.int .i64 ((l0[j]).f0), .int .i64 0]) ?_ 1 _ rfl; (with_reducible repeat (first | refine blk_drewN ?_ _ | refine blk_drew ?_ | refine blk_alloc ?_ _)); refine blk_put (cs := #[.int .i64 0, .int .i64 0]) ?_ 0 _ rfl; (with_reducible repeat (first | refine blk_drewN ?_ _ | refine blk_drew ?_ | refine blk_alloc ?_ _)); exact BK118.out) hg (Kd.R_ne HO_3.out BK118.out (by decide))); have n1_ := Aside0.mk (hb); have n2_ := Aside0.mk (ho); clear BK118; clear HB; clear HO_3; have BK118 := n0_; have HB := n1_; have HO121 := n2_; clear n0_ n1_ n2_; clear ho hb hg hat))
          go_roundg k1
          case measure => omega
          case rel => exact ⟨x3_1 ++ [to33' l0[j]], j + 1, by first | rfl | (simp; done) | (simp [*]; done) | exact congrArg (Value.int .i64) hwr, ⟨⟨by have := hj1.out; omega, by rw [take_snoc' l0 j hjn, hstep.out, if_pos c17a.out, ← hx1.out]⟩⟩, ⟨by (with_reducible repeat (first | apply Kd.R_alloc | apply Kd.R_drewN | apply Kd.R_drew)); exact HO121.out⟩, ⟨by repeat (first | (with_reducible first | exact HB.out | apply below_alloc | apply pw_below_drewN | apply below_drew1 | refine below_set ?_ GE118.out) | exact HB.out)⟩⟩
        · have c17b0 : decide (l0[j].f0 < q) = false := decide_eq_false c17
          have c17a := Aside0.mk c17
          clear c17
          go_wp2_with (first | ((with_reducible refine gate_dst (N := 6) rfl ?_); refine box_event ?hg (N := 6) ?hd (cs := #[.int .i64 0, .int .i64 0]) (t := 32) ?hr ?_; (case hd => rfl); (case hg => rfl); (case hr => first | (go_simp; done) | (go_simp; rfl)); intro gb118 hg w6 hbox hb; have n0_ := Aside0.mk (Kd.R_below (by (with_reducible repeat (first | apply Kd.R_alloc | apply Kd.R_drewN | apply Kd.R_drew)); exact HO_3.out) hb); have n1_ := Aside0.mk (below_step (by repeat (first | (with_reducible first | exact HB.out | apply below_alloc | apply pw_below_drewN | apply below_drew1) | exact HB.out)) hb); have n2_ := Aside0.mk (hbox); have n3_ := Aside0.mk ((by rw [hg]; exact (below_size (by repeat (first | (with_reducible first | exact HB.out | apply below_alloc | apply pw_below_drewN | apply below_drew1) | exact HB.out))) : w.heap.size ≤ gb118)); have n4_ := Aside0.mk ((by rw [hg]; exact (below_size (by repeat (first | (with_reducible first | exact HB.out | apply below_alloc | apply pw_below_drewN | apply below_drew1) | exact HB.out))) : w.heap.size ≤ gb118)); clear HO_3; clear HB; have HO_3 := n0_; have HB := n1_; have BK118 := n2_; have GW118 := n3_; have GE118 := n4_; clear n0_ n1_ n2_ n3_ n4_; clear hb hbox hg; have hcz7_0 : w6.cell? ⟨gb118, 0, none⟩ = some (.int .i64 0) := (blk_cell BK118.out 0).trans rfl; have hcz7_1 : w6.cell? ⟨gb118, 1, none⟩ = some (.int .i64 0) := (blk_cell BK118.out 1).trans rfl; have hfz7_0 := blk_frozen BK118.out 0; have hfz7_1 := blk_frozen BK118.out 1; have hgne : g ≠ gb118 := (by have := GE118.out; have := hgl.out; omega); have hgne2 : gb118 ≠ g := fun e => hgne e.symm; have hq6 : w6.cell? ⟨g, 0, none⟩ = some (.int .i64 q) := (HB.out.cell (World.block_lt_of_cell? w _ HQ.out)).trans HQ.out))
          go_roundg k1
          case measure => omega
          case rel => exact ⟨x3_1, j + 1, by first | rfl | (simp; done) | (simp [*]; done) | exact congrArg (Value.int .i64) hwr, ⟨⟨by have := hj1.out; omega, by rw [take_snoc' l0 j hjn, hstep.out, if_neg (show ¬ l0[j].f0 < q by have := c17a.out; omega), ← hx1.out]⟩⟩, ⟨by (with_reducible repeat (first | apply Kd.R_alloc | apply Kd.R_drewN | apply Kd.R_drew)); exact Kd.R_mono (Kd.R_far (p := ⟨gb118, 1, none⟩) (Kd.R_far (p := ⟨gb118, 0, none⟩) (Kd.R_types HO_3.out BK118.out (by decide)) (fun _ hk => hk.2) (.int .i64 (l0[j].f0))) (fun _ hk => hk.2) (.int .i64 (l0[j].f1))) (fun _ hk => trivial)⟩, ⟨by repeat (first | (with_reducible first | exact HB.out | apply below_alloc | apply pw_below_drewN | apply below_drew1 | refine below_set ?_ GE118.out) | exact HB.out)⟩⟩
    · have c2b0 : decide ((j : Int) < (l0.length : Int)) = false := decide_eq_false c2
      have c2n : decide (j < l0.length) = false := decide_eq_false (by omega)
      have hx1 : x3_1 = partF l0 q := by rw [HA.out.2, List.take_of_length_le (by omega)]
      clear HA c2
      subst hx1
      go_wp2
      go_ret
      exact ⟨_, by first | rfl | (simp [errW_none, errW_some] <;> rfl) | (simp [*, errW_none, errW_some] <;> rfl), by (with_reducible repeat (first | apply Kd.R_alloc | apply Kd.R_drewN | apply Kd.R_drew)); exact HO_3.out, by repeat (first | (with_reducible first | exact HB.out | apply below_alloc | apply pw_below_drewN | apply below_drew1) | exact HB.out)⟩
end Go.Proofs.YtakkifbcaedcoaaDoor.PX
