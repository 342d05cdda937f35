/- Parts of the proof, merged in build order: PXx11, PXx23, ShelfB, MBuilder, PXx12, MJoin. -/
import Derived.Test.YtmpbkemicfmbaaaDoorY1
import Derived.Test.YtmpbkemicfmbaaaDoorY2
import Derived.Test.YtmpbkemicfmbaaaDoorY3
import Derived.Shelf.Strings.Builder1
import Derived.Test.YtmpbkemicfmbaaaDoorProg
import Derived.Test.YtmpbkemicfmbaaaDoorY0
import Derived.Lib.Builder
import Derived.Lib.AppendStr
import Derived.Laws.Externs
import Derived.WalkKit
-- Written by a program of this session (wip/xprint.py, over the kit's print tool). Lean checks it.
namespace Go.Proofs.YtmpbkemicfmbaaaDoor.PX
open Go.RowKit Go.Proofs.YtmpbkemicfmbaaaDoorW.PrintWords Go.Proofs.YtmpbkemicfmbaaaDoorW.PrintLast Go.Proofs.YtmpbkemicfmbaaaDoorW.PrintMore
attribute [local go_sem] max2_int min2_int max_two min_two max_three min_three max_four min_four   -- for this text's walks alone
set_option linter.unusedVariables false
set_option linter.unusedSimpArgs false

/-! ### lexer_Scan: function 13 -/
def lexer_Scan.l0 : Nat → ByteArray → List (S37) → Int → Option ((List (S37)))
  | 0, _, _, _ => none
  | k + 1, x0, x3, x4 => if 0 ≤ x4 then (if x4 ≤ (x0.size : Int) then ((lexer_skip.f k (x0.extract (x4 : Int).toNat x0.size)).bind fun t134 => (if (wrap64 (x4 + t134)) = (x0.size : Int) then (if x3.length < 3518437208883 then (some (x3 ++ [(⟨0, (⟨#[]⟩ : ByteArray), 0, wrap64 (x4 + t134)⟩ : S37)])) else (none)) else (if 0 ≤ (wrap64 (x4 + t134)) then (if (wrap64 (x4 + t134)) ≤ (x0.size : Int) then ((lexer_next.f k (x0.extract ((wrap64 (x4 + t134)) : Int).toNat x0.size)).bind fun bt138 => (if x3.length < 3518437208883 then (lexer_Scan.l0 k x0 (x3 ++ [(⟨bt138.1, bt138.2.1, bt138.2.2.1, wrap64 (x4 + t134)⟩ : S37)]) (wrap64 ((wrap64 (x4 + t134)) + (bt138.2.1.size : Int)))) else (none))) else (none)) else (none)))) else (none)) else (none)
def lexer_Scan.f (k : Nat) (a0 : ByteArray) : Option ((List (S37))) := lexer_Scan.l0 k a0 ([] : List (S37)) 0
theorem lexer_Scan.mono_l : ∀ k, (∀ y0 y1 y2, LeO (lexer_Scan.l0 k y0 y1 y2) (lexer_Scan.l0 (k + 1) y0 y1 y2))
  | 0 => fun _ _ _ r h => by simp [lexer_Scan.l0] at h
  | k + 1 => by
    have ih0 := lexer_Scan.mono_l k
    · intro y0 y1 y2
      unfold lexer_Scan.l0
      repeat' first
      | (with_reducible exact ih0 _ _ _)
      | (with_reducible exact lexer_next.mono _ _)
      | (with_reducible exact lexer_skip.mono _ _)
      | (with_reducible exact LeO.refl _)
      | (with_reducible exact LeO.none _)
      | (with_reducible refine LeO.ite ?_ ?_)
      | (with_reducible refine LeO.bind ?_ (fun _ => ?_))
      | exact ih0 _ _ _
      | exact lexer_next.mono _ _
      | exact lexer_skip.mono _ _
      | exact LeO.none _
      | refine LeO.ite ?_ ?_
      | refine LeO.bind ?_ (fun _ => ?_)
theorem lexer_Scan.mono : ∀ a0 k, LeO (lexer_Scan.f k a0) (lexer_Scan.f (k + 1) a0) := by
  intro a0 k
  have ih0 := lexer_Scan.mono_l k
  unfold lexer_Scan.f
  repeat' first
      | (with_reducible exact ih0 _ _ _)
      | (with_reducible exact lexer_next.mono _ _)
      | (with_reducible exact lexer_skip.mono _ _)
      | (with_reducible exact LeO.refl _)
      | (with_reducible exact LeO.none _)
      | (with_reducible refine LeO.ite ?_ ?_)
      | (with_reducible refine LeO.bind ?_ (fun _ => ?_))
      | exact ih0 _ _ _
      | exact lexer_next.mono _ _
      | exact lexer_skip.mono _ _
      | exact LeO.none _
      | refine LeO.ite ?_ ?_
      | refine LeO.bind ?_ (fun _ => ?_)
set_option maxHeartbeats 8000000 in
set_option maxRecDepth 100000 in
theorem lexer_Scan.calls (k : Nat) (a0 : ByteArray) (r : List (S37)) (w : World) (hG : GW w) (h : lexer_Scan.f k a0 = some r) :
    Calls Tryd.prog 13 #[.string a0] w fun e w' => ∃ v0_ : Value, e = .returned (v0_) ∧ Kd.R k37 37 w' w.heap.size (fun _ => True) v0_ r ∧ Below w.heap.size w w' := by
  have hu37 := Tryd.underlying37
  have HG := Aside0.mk hG
  clear hG
  have HB := Aside0.mk (Below.refl w.heap.size w)
  have H : (lexer_Scan.l0 k a0 ([] : List (S37)) 0) = some r := h
  clear h
  have H' := Aside0.mk H
  clear H
  go_enter Tryd.func13, Tryd.ntmps13
  go_wp2
  go_loopg [3, 4] k (fun kq v3 v4 w' => ∃ (x3_1 : List (S37)) (x4_1 : Int), v4 = .int .i64 x4_1 ∧ Aside0 (lexer_Scan.l0 kq a0 x3_1 x4_1 = some r) ∧ Aside0 (kq ≤ k) ∧ Aside0 (Kd.R k37 37 w' w.heap.size (fun _ => True) v3 x3_1) ∧ Aside0 (Below w.heap.size w w'))
  case atStart => exact ⟨(([] : List (S37))), (0), (by first | rfl | (simp; done) | (simp [*]; done)), H', ⟨Nat.le_refl _⟩, ⟨by first | exact Kd.R_nil _ _ _ _ _ | exact Kd.N_nil _ _ _ _ _ | exact Kd.V_nil _ _ _ _ _ | exact Kd.Q_nil _ _ _ _ _ | exact Kd.S_nil _ _ _ _ _⟩, ⟨by repeat (first | (with_reducible first | exact HB.out | apply below_alloc | apply pw_below_drewN | apply below_drew1) | exact HB.out)⟩⟩
  case round =>
    clear H'
    try clear c1
    obtain ⟨x3_1, x4_1, rfl, HA, HK1, HO_3, HB⟩ := hrel
    cases gk with
    | zero => exact absurd HA.out (by simp [lexer_Scan.l0])
    | succ k1 =>
      have H := HA.out
      clear HA
      simp only [lexer_Scan.l0] at H
      by_cases c2 : 0 ≤ x4_1
      · rw [if_pos c2] at H
        have c2b0 := eq_true c2
        have c2b1 : decide (0 ≤ x4_1) = true := decide_eq_true c2
        clear c2
        by_cases c3 : x4_1 ≤ (a0.size : Int)
        · rw [if_pos c3] at H
          have c3b0 := eq_true c3
          have c3b1 : decide (x4_1 ≤ (a0.size : Int)) = true := decide_eq_true c3
          clear c3
          replace H := Option.bind_eq_some_iff.mp H
          obtain ⟨t134, A40, H⟩ := H
          replace H : (if (wrap64 (x4_1 + t134)) = (a0.size : Int) then (if x3_1.length < 3518437208883 then (some (x3_1 ++ [(⟨0, (⟨#[]⟩ : ByteArray), 0, wrap64 (x4_1 + t134)⟩ : S37)])) else (none)) else (if 0 ≤ (wrap64 (x4_1 + t134)) then (if (wrap64 (x4_1 + t134)) ≤ (a0.size : Int) then ((lexer_next.f k1 (a0.extract ((wrap64 (x4_1 + t134)) : Int).toNat a0.size)).bind fun bt138 => (if x3_1.length < 3518437208883 then (lexer_Scan.l0 k1 a0 (x3_1 ++ [(⟨bt138.1, bt138.2.1, bt138.2.2.1, wrap64 (x4_1 + t134)⟩ : S37)]) (wrap64 ((wrap64 (x4_1 + t134)) + (bt138.2.1.size : Int)))) else (none))) else (none)) else (none))) = some r := H
          have A4 := Aside0.mk A40
          clear A40
          by_cases c5 : (wrap64 (x4_1 + t134)) = (a0.size : Int)
          · rw [if_pos c5] at H
            have c5b0 : ((wrap64 (x4_1 + t134)) == (a0.size : Int)) = true := beq_iff_eq.mpr c5
            have c5b1 : ((wrap64 (x4_1 + t134)) != (a0.size : Int)) = false := bne_eq_false_iff_eq.mpr c5
            clear c5
            by_cases c6 : x3_1.length < 3518437208883
            · rw [if_pos c6] at H
              have LMc6 := Aside0.mk c6
              clear c6
              obtain ⟨y135, hy135⟩ : ∃ y_ : List (S37), y_ = (x3_1 ++ [(⟨0, (⟨#[]⟩ : ByteArray), 0, wrap64 (x4_1 + t134)⟩ : S37)]) := ⟨_, rfl⟩
              replace H : (some y135) = some r := by first | (rw [hy135]; with_reducible exact H) | (have H2_ := (Option.bind_some _ _).symm.trans H; rw [hy135]; with_reducible exact H2_) | (have H2_ := (Option.bind_some _ _).symm.trans H; with_reducible exact H2_) | with_reducible exact H | (rw [hy135]; exact H) | exact H
              have Ny135 := Aside0.mk hy135
              clear hy135
              obtain rfl := Option.some.inj H
              go_wp2_with (first | ((with_reducible refine gate_callee (f := 26) rfl ?_); refine goesL_ (some 10) rfl rfl Tryd.func26 (by kernel_rfl) rfl #[.string (a0.extract (x4_1 : Int).toNat a0.size)] rfl (by (try simp only [List.map_toArray, List.map_cons, List.map_nil]); first | done | rfl | (simp only [List.length_drop, List.length_take]; rfl)) ?_; (with_reducible refine (lexer_skip.calls k1 (a0.extract (x4_1 : Int).toNat a0.size) t134 _ A4.out).mono ?_); rintro e w' ⟨rfl, ⟨nd, rfl⟩⟩; refine ⟨_, rfl, ?_⟩) | ((with_reducible refine gate_builtin (b := .append) (xs := #[.tmp 16, .tmp 19]) rfl ?_); at_builtin; refine Kd.R_append k37 (w0 := w) w.heap.size rfl (.tmp 16) (.tmp 19) 26 37 (.agg #[(.int .i64 0), (.string ⟨#[]⟩), (.int .i16 0), (.int .i64 0)]) 40 rfl Tryd.underlying26 info37 rfl (by decide) (by omega) u3 x3_1 (⟨0, (⟨#[]⟩ : ByteArray), 0, wrap64 (x4_1 + t134)⟩ : S37) [.int .i64 0, .string (⟨#[]⟩ : ByteArray), .int .i16 0, .int .i64 (wrap64 (x4_1 + t134))] (fun _ => True) (fun _ => False) rfl rfl ?aP (fun _ hk => hk.elim) ?aF ?aO ?aB ?aS ?aL ?_; (case aP => exact k37_mkM _ _ _ (⟨0, (⟨#[]⟩ : ByteArray), 0, wrap64 (x4_1 + t134)⟩ : S37)); (case aB => exact (by repeat (first | (with_reducible first | exact HB.out | apply below_alloc | apply pw_below_drewN | apply below_drew1) | exact HB.out))); (case aF => exact (fun _ _ => trivial)); (case aO => exact (by (with_reducible repeat (first | apply Kd.R_alloc | apply Kd.R_drewN | apply Kd.R_drew)); exact HO_3.out)); (case aS => exact (below_size (by repeat (first | (with_reducible first | exact HB.out | apply below_alloc | apply pw_below_drewN | apply below_drew1) | exact HB.out)))); (case aL => have := LMc6.out; omega); intro v136 w7 ho hb hg hat; rw [← Ny135.out] at ho; have n0_ := Aside0.mk (hb); have n1_ := Aside0.mk (ho); clear HB; clear HO_3; have HB := n0_; have HO137 := n1_; clear n0_ n1_; clear ho hb hg hat))
              go_ret
              exact ⟨_, by first | rfl | (simp [errW_none, errW_some] <;> rfl) | (simp [*, errW_none, errW_some] <;> rfl), by (with_reducible repeat (first | apply Kd.R_alloc | apply Kd.R_drewN | apply Kd.R_drew)); exact HO137.out, by repeat (first | (with_reducible first | exact HB.out | apply below_alloc | apply pw_below_drewN | apply below_drew1) | exact HB.out)⟩
            · rw [if_neg c6] at H
              exact absurd H (by simp)
          · rw [if_neg c5] at H
            have c5b0 : ((wrap64 (x4_1 + t134)) == (a0.size : Int)) = false := beq_eq_false_iff_ne.mpr c5
            have c5b1 : ((wrap64 (x4_1 + t134)) != (a0.size : Int)) = true := bne_iff_ne.mpr c5
            obtain ⟨ji8, hji8⟩ : ∃ j_ : Int, (wrap64 (x4_1 + t134)) = j_ := ⟨_, rfl⟩
            replace H : (if 0 ≤ (ji8) then (if (ji8) ≤ (a0.size : Int) then ((lexer_next.f k1 (a0.extract ((ji8) : Int).toNat a0.size)).bind fun bt138 => (if x3_1.length < 3518437208883 then (lexer_Scan.l0 k1 a0 (x3_1 ++ [(⟨bt138.1, bt138.2.1, bt138.2.2.1, ji8⟩ : S37)]) (wrap64 ((ji8) + (bt138.2.1.size : Int)))) else (none))) else (none)) else (none)) = some r := by first | (rw [hji8] at H; exact H) | (simp only [hji8] at H ⊢; exact H)
            (try rw [hji8] at c5b0)
            (try rw [hji8] at c5b1)
            (try rw [hji8] at A4)
            have hji8w : (IntKind.i64.wrap (x4_1 + t134)) = ji8 := (i64_w _).trans hji8
            by_cases c9 : 0 ≤ (ji8)
            · rw [if_pos c9] at H
              have c9b0 := eq_true c9
              have c9b1 : decide (0 ≤ (ji8)) = true := decide_eq_true c9
              clear c9
              by_cases c10 : (ji8) ≤ (a0.size : Int)
              · rw [if_pos c10] at H
                have c10b0 := eq_true c10
                have c10b1 : decide ((ji8) ≤ (a0.size : Int)) = true := decide_eq_true c10
                clear c10
                replace H := Option.bind_eq_some_iff.mp H
                obtain ⟨⟨t138, t139, t140, t141⟩, A110, H⟩ := H
                replace H : (if x3_1.length < 3518437208883 then (lexer_Scan.l0 k1 a0 (x3_1 ++ [(⟨t138, t139, t140, ji8⟩ : S37)]) (wrap64 ((ji8) + (t139.size : Int)))) else (none)) = some r := H
                have A11 := Aside0.mk A110
                clear A110
                by_cases c12 : x3_1.length < 3518437208883
                · rw [if_pos c12] at H
                  have LMc12 := Aside0.mk c12
                  clear c12
                  obtain ⟨y143, hy143⟩ : ∃ y_ : List (S37), y_ = (x3_1 ++ [(⟨t138, t139, t140, ji8⟩ : S37)]) := ⟨_, rfl⟩
                  replace H : (lexer_Scan.l0 k1 a0 y143 (wrap64 ((ji8) + (t139.size : Int)))) = some r := by first | (rw [hy143]; with_reducible exact H) | (have H2_ := (Option.bind_some _ _).symm.trans H; rw [hy143]; with_reducible exact H2_) | (have H2_ := (Option.bind_some _ _).symm.trans H; with_reducible exact H2_) | with_reducible exact H | (rw [hy143]; exact H) | exact H
                  have Ny143 := Aside0.mk hy143
                  clear hy143
                  have H' := Aside0.mk H
                  clear H
                  go_upto_region 8 with (first | ((with_reducible refine gate_callee (f := 26) rfl ?_); refine goesL_ (some 10) rfl rfl Tryd.func26 (by kernel_rfl) rfl #[.string (a0.extract (x4_1 : Int).toNat a0.size)] rfl (by (try simp only [List.map_toArray, List.map_cons, List.map_nil]); first | done | rfl | (simp only [List.length_drop, List.length_take]; rfl)) ?_; (with_reducible refine (lexer_skip.calls k1 (a0.extract (x4_1 : Int).toNat a0.size) t134 _ A4.out).mono ?_); rintro e w' ⟨rfl, ⟨nd, rfl⟩⟩; refine ⟨_, rfl, ?_⟩; (try (rw [drewN_self wr]; generalize hq_ : World.drewN wr _ = wr; have n0_ : Aside0 (Kd.R k37 37 wr w.heap.size (fun _ => True) u3 x3_1) := ⟨by rw [← hq_]; exact (by (with_reducible repeat (first | apply Kd.R_alloc | apply Kd.R_drewN | apply Kd.R_drew)); exact HO_3.out)⟩; have n1_ : Aside0 (Below w.heap.size w wr) := ⟨by rw [← hq_]; exact (by repeat (first | (with_reducible first | exact HB.out | apply below_alloc | apply pw_below_drewN | apply below_drew1) | exact HB.out))⟩; clear HO_3 HB hq_; have HO_3 := n0_; have HB := n1_; clear n0_ n1_))) | ((with_reducible refine gate_callee (f := 27) rfl ?_); refine goesL_ (some 24) rfl rfl Tryd.func27 (by kernel_rfl) rfl #[.string (a0.extract ((ji8) : Int).toNat a0.size)] rfl (by (try simp only [List.map_toArray, List.map_cons, List.map_nil]); first | done | (simp only [hji8]; rfl) | rfl | (simp only [List.length_drop, List.length_take]; rfl)) ?_; (with_reducible refine (lexer_next.calls k1 (a0.extract ((ji8) : Int).toNat a0.size) t138 t139 t140 t141 _ ?side1 A11.out).mono ?_); (case side1 => refine GW.below HG.out ?_; repeat (first | (with_reducible first | exact HB.out | apply below_alloc | apply pw_below_drewN | apply below_drew1) | exact HB.out)); rintro e w13 ⟨rfl, hb⟩; refine ⟨_, rfl, ?_⟩; have n0_ := Aside0.mk (Kd.R_below (by (with_reducible repeat (first | apply Kd.R_alloc | apply Kd.R_drewN | apply Kd.R_drew)); exact HO_3.out) hb); have n1_ := Aside0.mk (below_step (by repeat (first | (with_reducible first | exact HB.out | apply below_alloc | apply pw_below_drewN | apply below_drew1) | exact HB.out)) hb); clear HO_3; clear HB; have HO_3 := n0_; have HB := n1_; clear n0_ n1_; (try clear hb); (try clear hb2); (try clear hk); (try clear hi)) | ((with_reducible refine gate_dst (N := 5) rfl ?_); refine box_event ?hg (N := 5) ?hd (cs := #[.int .i64 0, .string (⟨#[]⟩ : ByteArray), .int .i16 0, .int .i64 0]) (t := 37) ?hr ?_; (case hd => rfl); (case hg => rfl); (case hr => first | (go_simp; done) | (go_simp; rfl)); intro gb142 hg w14 hbox hb; have n0_ := Aside0.mk (Kd.R_below (Kd.R_elderB (by (with_reducible repeat (first | apply Kd.R_alloc | apply Kd.R_drewN | apply Kd.R_drew)); exact HO_3.out) gb142 (Nat.le_of_eq hg.symm)) hb); have n1_ := Aside0.mk (below_step (by repeat (first | (with_reducible first | exact HB.out | apply below_alloc | apply pw_below_drewN | apply below_drew1) | exact HB.out)) hb); have n2_ := Aside0.mk (hbox); have n3_ := Aside0.mk ((by rw [hg]; exact (below_size (by repeat (first | (with_reducible first | exact HB.out | apply below_alloc | apply pw_below_drewN | apply below_drew1) | exact HB.out))) : w.heap.size ≤ gb142)); have n4_ := Aside0.mk ((by rw [hg]; exact (below_size (by repeat (first | (with_reducible first | exact HB.out | apply below_alloc | apply pw_below_drewN | apply below_drew1) | exact HB.out))) : w.heap.size ≤ gb142)); clear HO_3; clear HB; have HO_3 := n0_; have HB := n1_; have BK142 := n2_; have GW142 := n3_; have GE142 := n4_; clear n0_ n1_ n2_ n3_ n4_; clear hb hbox hg; have hcz15_0 : w14.cell? ⟨gb142, 0, none⟩ = some (.int .i64 0) := (blk_cell BK142.out 0).trans rfl; have hcz15_1 : w14.cell? ⟨gb142, 1, none⟩ = some (.string (⟨#[]⟩ : ByteArray)) := (blk_cell BK142.out 1).trans rfl; have hcz15_2 : w14.cell? ⟨gb142, 2, none⟩ = some (.int .i16 0) := (blk_cell BK142.out 2).trans rfl; have hcz15_3 : w14.cell? ⟨gb142, 3, none⟩ = some (.int .i64 0) := (blk_cell BK142.out 3).trans rfl; have hfz15_0 := blk_frozen BK142.out 0; have hfz15_1 := blk_frozen BK142.out 1; have hfz15_2 := blk_frozen BK142.out 2; have hfz15_3 := blk_frozen BK142.out 3))
                  refine wp_gen3 (Q := fun wz => Aside0 (wz.heap[gb142]? = some (.cells #[.int .i64 t138, .string t139, .int .i16 t140, .int .i64 ji8] 37 (0, 0))) ∧ Aside0 (Below w.heap.size w wz) ∧ Aside0 (Kd.R k37 37 wz w.heap.size (fun k_ => k_ ≠ gb142) u3 x3_1)) ⟨⟨by (with_reducible repeat (first | refine blk_drewN ?_ _ | refine blk_drew ?_ | refine blk_alloc ?_ _)); refine blk_put (cs := #[.int .i64 t138, .string t139, .int .i16 t140, .int .i64 t141]) ?_ 3 _ rfl; (with_reducible repeat (first | refine blk_drewN ?_ _ | refine blk_drew ?_ | refine blk_alloc ?_ _)); refine blk_put (cs := #[.int .i64 t138, .string t139, .int .i16 t140, .int .i64 0]) ?_ 3 _ rfl; (with_reducible repeat (first | refine blk_drewN ?_ _ | refine blk_drew ?_ | refine blk_alloc ?_ _)); refine blk_put (cs := #[.int .i64 t138, .string t139, .int .i16 0, .int .i64 0]) ?_ 2 _ rfl; (with_reducible repeat (first | refine blk_drewN ?_ _ | refine blk_drew ?_ | refine blk_alloc ?_ _)); refine blk_put (cs := #[.int .i64 t138, .string (⟨#[]⟩ : ByteArray), .int .i16 0, .int .i64 0]) ?_ 1 _ rfl; (with_reducible repeat (first | refine blk_drewN ?_ _ | refine blk_drew ?_ | refine blk_alloc ?_ _)); refine blk_put (cs := #[.int .i64 0, .string (⟨#[]⟩ : ByteArray), .int .i16 0, .int .i64 0]) ?_ 0 _ rfl; (with_reducible repeat (first | refine blk_drewN ?_ _ | refine blk_drew ?_ | refine blk_alloc ?_ _)); exact BK142.out⟩, ⟨by repeat (first | (with_reducible first | exact HB.out | apply below_alloc | apply pw_below_drewN | apply below_drew1 | refine below_set ?_ GE142.out) | exact HB.out)⟩, ⟨by (with_reducible repeat (first | apply Kd.R_alloc | apply Kd.R_drewN | apply Kd.R_drew)); exact Kd.R_mono (Kd.R_far (p := ⟨gb142, 3, none⟩) (Kd.R_far (p := ⟨gb142, 3, none⟩) (Kd.R_far (p := ⟨gb142, 2, none⟩) (Kd.R_far (p := ⟨gb142, 1, none⟩) (Kd.R_far (p := ⟨gb142, 0, none⟩) (Kd.R_mono HO_3.out (fun k_ hk => (⟨hk, hk.2⟩ : _ ∧ k_ ≠ gb142))) (fun _ hk => hk.2) (.int .i64 t138)) (fun _ hk => hk.2) (.string t139)) (fun _ hk => hk.2) (.int .i16 t140)) (fun _ hk => hk.2) (.int .i64 t141)) (fun _ hk => hk.2) (.int .i64 ji8)) (fun _ hk => hk.1.2)⟩⟩ ?_
                  clear HO_3 HB BK142
                  try clear hcz15_0
                  try clear hcz15_1
                  try clear hcz15_2
                  try clear hcz15_3
                  try clear hfz15_0
                  try clear hfz15_1
                  try clear hfz15_2
                  try clear hfz15_3
                  intro wz hz
                  obtain ⟨BK142, HB, HO_3⟩ := hz
                  have hcf_0 : wz.cell? ⟨gb142, 0, none⟩ = some (.int .i64 t138) := (blk_cell BK142.out 0).trans rfl
                  have hcf_1 : wz.cell? ⟨gb142, 1, none⟩ = some (.string t139) := (blk_cell BK142.out 1).trans rfl
                  have hcf_2 : wz.cell? ⟨gb142, 2, none⟩ = some (.int .i16 t140) := (blk_cell BK142.out 2).trans rfl
                  have hcf_3 : wz.cell? ⟨gb142, 3, none⟩ = some (.int .i64 ji8) := (blk_cell BK142.out 3).trans rfl
                  go_wp2_with (first | ((with_reducible refine gate_builtin (b := .append) (xs := #[.tmp 27, .tmp 29]) rfl ?_); at_builtin; refine Kd.R_append k37 (w0 := w) w.heap.size rfl (.tmp 27) (.tmp 29) 26 37 (.agg #[(.int .i64 0), (.string ⟨#[]⟩), (.int .i16 0), (.int .i64 0)]) 40 rfl Tryd.underlying26 info37 rfl (by decide) (by omega) u3 x3_1 (⟨t138, t139, t140, ji8⟩ : S37) [.int .i64 t138, .string t139, .int .i16 t140, .int .i64 ji8] (fun k_ => k_ ≠ gb142) (fun _ => False) rfl (by first | (go_simp; done) | (go_simp; rfl)) ?aP (fun _ hk => hk.elim) ?aF ?aO ?aB ?aS ?aL ?_; (case aP => exact k37_mkM _ _ _ (⟨t138, t139, t140, ji8⟩ : S37)); (case aB => exact (by repeat (first | (with_reducible first | exact HB.out | apply below_alloc | apply pw_below_drewN | apply below_drew1 | refine below_set ?_ GE142.out) | exact HB.out))); (case aF => exact (fun k_ hk => Kd.freshB (g := gb142) (o := .cells #[.int .i64 t138, .string t139, .int .i16 t140, .int .i64 ji8] 37 (0, 0)) BK142.out k_ hk)); (case aO => exact HO_3.out); (case aS => exact (below_size (by repeat (first | (with_reducible first | exact HB.out | apply below_alloc | apply pw_below_drewN | apply below_drew1 | refine below_set ?_ GE142.out) | exact HB.out)))); (case aL => have := LMc12.out; omega); intro v144 w16 ho hb hg hat; rw [← Ny143.out] at ho; have n0_ := Aside0.mk (blk_grown (g := gb142) (o := .cells #[.int .i64 t138, .string t139, .int .i16 t140, .int .i64 ji8] 37 (0, 0)) BK142.out hg (Kd.R_away HO_3.out (fun _ hk => hk))); have n1_ := Aside0.mk (hb); have n2_ := Aside0.mk (ho); clear BK142; clear HB; clear HO_3; have BK142 := n0_; have HB := n1_; have HO145 := n2_; clear n0_ n1_ n2_; clear ho hb hg hat; have hcz17_0 : w16.cell? ⟨gb142, 0, none⟩ = some (.int .i64 t138) := (blk_cell BK142.out 0).trans rfl; have hcz17_1 : w16.cell? ⟨gb142, 1, none⟩ = some (.string t139) := (blk_cell BK142.out 1).trans rfl; have hcz17_2 : w16.cell? ⟨gb142, 2, none⟩ = some (.int .i16 t140) := (blk_cell BK142.out 2).trans rfl; have hcz17_3 : w16.cell? ⟨gb142, 3, none⟩ = some (.int .i64 ji8) := (blk_cell BK142.out 3).trans rfl; have hfz17_0 := blk_frozen BK142.out 0; have hfz17_1 := blk_frozen BK142.out 1; have hfz17_2 := blk_frozen BK142.out 2; have hfz17_3 := blk_frozen BK142.out 3))
                  go_roundg k1
                  case measure => have := HK1.out; omega
                  case rel => exact ⟨(y143), (wrap64 ((ji8) + (t139.size : Int))), (by first | rfl | (simp; done) | (simp only [← hji8] <;> (first | rfl | simp)) | (simp [*]; done)), H', ⟨by have := HK1.out; omega⟩, ⟨by (with_reducible repeat (first | apply Kd.R_alloc | apply Kd.R_drewN | apply Kd.R_drew)); exact Kd.R_mono HO145.out (fun _ hk => trivial)⟩, ⟨by repeat (first | (with_reducible first | exact HB.out | apply below_alloc | apply pw_below_drewN | apply below_drew1 | refine below_set ?_ GE142.out) | exact HB.out)⟩⟩
                · rw [if_neg c12] at H
                  exact absurd H (by simp)
              · rw [if_neg c10] at H
                exact absurd H (by simp)
            · rw [if_neg c9] at H
              exact absurd H (by simp)
        · rw [if_neg c3] at H
          exact absurd H (by simp)
      · rw [if_neg c2] at H
        exact absurd H (by simp)

end Go.Proofs.YtmpbkemicfmbaaaDoor.PX
-- Written by a program of this session (wip/xprint.py, over the kit's print tool). Lean checks it.
namespace Go.Proofs.YtmpbkemicfmbaaaDoor.PX
open Go.RowKit Go.Proofs.YtmpbkemicfmbaaaDoorW.PrintWords Go.Proofs.YtmpbkemicfmbaaaDoorW.PrintLast Go.Proofs.YtmpbkemicfmbaaaDoorW.PrintMore
attribute [local go_sem] max2_int min2_int max_two min_two max_three min_three max_four min_four   -- for this text's walks alone
set_option linter.unusedVariables false
set_option linter.unusedSimpArgs false

/-! ### trickleref15_Scan: function 14 -/
def trickleref15_Scan.l0 : Nat → ByteArray → List (S32) → Int → Option ((List (S32)))
  | 0, _, _, _ => none
  | k + 1, x0, x3, x4 => if 0 ≤ x4 then (if x4 ≤ (x0.size : Int) then ((trickleref15_blank.f k (x0.extract (x4 : Int).toNat x0.size)).bind fun t201 => (if (wrap64 (x4 + t201)) = (x0.size : Int) then (if x3.length < 3518437208883 then (some (x3 ++ [(⟨0, (⟨#[]⟩ : ByteArray), 0, wrap64 (x4 + t201)⟩ : S32)])) else (none)) else (if 0 ≤ (wrap64 (x4 + t201)) then (if (wrap64 (x4 + t201)) ≤ (x0.size : Int) then ((trickleref15_one.f k (x0.extract ((wrap64 (x4 + t201)) : Int).toNat x0.size)).bind fun bt205 => (if x3.length < 3518437208883 then (trickleref15_Scan.l0 k x0 (x3 ++ [(⟨bt205.1, bt205.2.1, bt205.2.2.1, wrap64 (x4 + t201)⟩ : S32)]) (wrap64 ((wrap64 (x4 + t201)) + (bt205.2.1.size : Int)))) else (none))) else (none)) else (none)))) else (none)) else (none)
def trickleref15_Scan.f (k : Nat) (a0 : ByteArray) : Option ((List (S32))) := trickleref15_Scan.l0 k a0 ([] : List (S32)) 0
set_option maxHeartbeats 8000000 in
set_option maxRecDepth 100000 in
theorem trickleref15_Scan.calls (k : Nat) (a0 : ByteArray) (r : List (S32)) (w : World) (h : trickleref15_Scan.f k a0 = some r) :
    Calls Tryd.prog 14 #[.string a0] w fun e w' => ∃ v0_ : Value, e = .returned (v0_) ∧ Kd.R k32 32 w' w.heap.size (fun _ => True) v0_ r ∧ Below w.heap.size w w' := by
  have hu32 := Tryd.underlying32
  have HB := Aside0.mk (Below.refl w.heap.size w)
  have H : (trickleref15_Scan.l0 k a0 ([] : List (S32)) 0) = some r := h
  clear h
  have H' := Aside0.mk H
  clear H
  go_enter Tryd.func14, Tryd.ntmps14
  go_wp2
  go_loopg [3, 4] k (fun kq v3 v4 w' => ∃ (x3_1 : List (S32)) (x4_1 : Int), v4 = .int .i64 x4_1 ∧ Aside0 (trickleref15_Scan.l0 kq a0 x3_1 x4_1 = some r) ∧ Aside0 (kq ≤ k) ∧ Aside0 (Kd.R k32 32 w' w.heap.size (fun _ => True) v3 x3_1) ∧ Aside0 (Below w.heap.size w w'))
  case atStart => exact ⟨(([] : List (S32))), (0), (by first | rfl | (simp; done) | (simp [*]; done)), H', ⟨Nat.le_refl _⟩, ⟨by first | exact Kd.R_nil _ _ _ _ _ | exact Kd.N_nil _ _ _ _ _ | exact Kd.V_nil _ _ _ _ _ | exact Kd.Q_nil _ _ _ _ _ | exact Kd.S_nil _ _ _ _ _⟩, ⟨by repeat (first | (with_reducible first | exact HB.out | apply below_alloc | apply pw_below_drewN | apply below_drew1) | exact HB.out)⟩⟩
  case round =>
    clear H'
    try clear c1
    obtain ⟨x3_1, x4_1, rfl, HA, HK1, HO_3, HB⟩ := hrel
    cases gk with
    | zero => exact absurd HA.out (by simp [trickleref15_Scan.l0])
    | succ k1 =>
      have H := HA.out
      clear HA
      simp only [trickleref15_Scan.l0] at H
      by_cases c2 : 0 ≤ x4_1
      · rw [if_pos c2] at H
        have c2b0 := eq_true c2
        have c2b1 : decide (0 ≤ x4_1) = true := decide_eq_true c2
        clear c2
        by_cases c3 : x4_1 ≤ (a0.size : Int)
        · rw [if_pos c3] at H
          have c3b0 := eq_true c3
          have c3b1 : decide (x4_1 ≤ (a0.size : Int)) = true := decide_eq_true c3
          clear c3
          replace H := Option.bind_eq_some_iff.mp H
          obtain ⟨t201, A40, H⟩ := H
          replace H : (if (wrap64 (x4_1 + t201)) = (a0.size : Int) then (if x3_1.length < 3518437208883 then (some (x3_1 ++ [(⟨0, (⟨#[]⟩ : ByteArray), 0, wrap64 (x4_1 + t201)⟩ : S32)])) else (none)) else (if 0 ≤ (wrap64 (x4_1 + t201)) then (if (wrap64 (x4_1 + t201)) ≤ (a0.size : Int) then ((trickleref15_one.f k1 (a0.extract ((wrap64 (x4_1 + t201)) : Int).toNat a0.size)).bind fun bt205 => (if x3_1.length < 3518437208883 then (trickleref15_Scan.l0 k1 a0 (x3_1 ++ [(⟨bt205.1, bt205.2.1, bt205.2.2.1, wrap64 (x4_1 + t201)⟩ : S32)]) (wrap64 ((wrap64 (x4_1 + t201)) + (bt205.2.1.size : Int)))) else (none))) else (none)) else (none))) = some r := H
          have A4 := Aside0.mk A40
          clear A40
          by_cases c5 : (wrap64 (x4_1 + t201)) = (a0.size : Int)
          · rw [if_pos c5] at H
            have c5b0 : ((wrap64 (x4_1 + t201)) == (a0.size : Int)) = true := beq_iff_eq.mpr c5
            have c5b1 : ((wrap64 (x4_1 + t201)) != (a0.size : Int)) = false := bne_eq_false_iff_eq.mpr c5
            clear c5
            by_cases c6 : x3_1.length < 3518437208883
            · rw [if_pos c6] at H
              have LMc6 := Aside0.mk c6
              clear c6
              obtain ⟨y202, hy202⟩ : ∃ y_ : List (S32), y_ = (x3_1 ++ [(⟨0, (⟨#[]⟩ : ByteArray), 0, wrap64 (x4_1 + t201)⟩ : S32)]) := ⟨_, rfl⟩
              replace H : (some y202) = some r := by first | (rw [hy202]; with_reducible exact H) | (have H2_ := (Option.bind_some _ _).symm.trans H; rw [hy202]; with_reducible exact H2_) | (have H2_ := (Option.bind_some _ _).symm.trans H; with_reducible exact H2_) | with_reducible exact H | (rw [hy202]; exact H) | exact H
              have Ny202 := Aside0.mk hy202
              clear hy202
              obtain rfl := Option.some.inj H
              go_wp2_with (first | ((with_reducible refine gate_callee (f := 28) rfl ?_); refine goesL_ (some 10) rfl rfl Tryd.func28 (by kernel_rfl) rfl #[.string (a0.extract (x4_1 : Int).toNat a0.size)] rfl (by (try simp only [List.map_toArray, List.map_cons, List.map_nil]); first | done | rfl | (simp only [List.length_drop, List.length_take]; rfl)) ?_; (with_reducible refine (trickleref15_blank.calls k1 (a0.extract (x4_1 : Int).toNat a0.size) t201 _ A4.out).mono ?_); rintro e w' ⟨rfl, ⟨nd, rfl⟩⟩; refine ⟨_, rfl, ?_⟩) | ((with_reducible refine gate_builtin (b := .append) (xs := #[.tmp 16, .tmp 19]) rfl ?_); at_builtin; refine Kd.R_append k32 (w0 := w) w.heap.size rfl (.tmp 16) (.tmp 19) 24 32 (.agg #[(.int .i64 0), (.string ⟨#[]⟩), (.int .i16 0), (.int .i64 0)]) 40 rfl Tryd.underlying24 info32 rfl (by decide) (by omega) u3 x3_1 (⟨0, (⟨#[]⟩ : ByteArray), 0, wrap64 (x4_1 + t201)⟩ : S32) [.int .i64 0, .string (⟨#[]⟩ : ByteArray), .int .i16 0, .int .i64 (wrap64 (x4_1 + t201))] (fun _ => True) (fun _ => False) rfl rfl ?aP (fun _ hk => hk.elim) ?aF ?aO ?aB ?aS ?aL ?_; (case aP => exact k32_mkM _ _ _ (⟨0, (⟨#[]⟩ : ByteArray), 0, wrap64 (x4_1 + t201)⟩ : S32)); (case aB => exact (by repeat (first | (with_reducible first | exact HB.out | apply below_alloc | apply pw_below_drewN | apply below_drew1) | exact HB.out))); (case aF => exact (fun _ _ => trivial)); (case aO => exact (by (with_reducible repeat (first | apply Kd.R_alloc | apply Kd.R_drewN | apply Kd.R_drew)); exact HO_3.out)); (case aS => exact (below_size (by repeat (first | (with_reducible first | exact HB.out | apply below_alloc | apply pw_below_drewN | apply below_drew1) | exact HB.out)))); (case aL => have := LMc6.out; omega); intro v203 w7 ho hb hg hat; rw [← Ny202.out] at ho; have n0_ := Aside0.mk (hb); have n1_ := Aside0.mk (ho); clear HB; clear HO_3; have HB := n0_; have HO204 := n1_; clear n0_ n1_; clear ho hb hg hat))
              go_ret
              exact ⟨_, by first | rfl | (simp [errW_none, errW_some] <;> rfl) | (simp [*, errW_none, errW_some] <;> rfl), by (with_reducible repeat (first | apply Kd.R_alloc | apply Kd.R_drewN | apply Kd.R_drew)); exact HO204.out, by repeat (first | (with_reducible first | exact HB.out | apply below_alloc | apply pw_below_drewN | apply below_drew1) | exact HB.out)⟩
            · rw [if_neg c6] at H
              exact absurd H (by simp)
          · rw [if_neg c5] at H
            have c5b0 : ((wrap64 (x4_1 + t201)) == (a0.size : Int)) = false := beq_eq_false_iff_ne.mpr c5
            have c5b1 : ((wrap64 (x4_1 + t201)) != (a0.size : Int)) = true := bne_iff_ne.mpr c5
            obtain ⟨ji8, hji8⟩ : ∃ j_ : Int, (wrap64 (x4_1 + t201)) = j_ := ⟨_, rfl⟩
            replace H : (if 0 ≤ (ji8) then (if (ji8) ≤ (a0.size : Int) then ((trickleref15_one.f k1 (a0.extract ((ji8) : Int).toNat a0.size)).bind fun bt205 => (if x3_1.length < 3518437208883 then (trickleref15_Scan.l0 k1 a0 (x3_1 ++ [(⟨bt205.1, bt205.2.1, bt205.2.2.1, ji8⟩ : S32)]) (wrap64 ((ji8) + (bt205.2.1.size : Int)))) else (none))) else (none)) else (none)) = some r := by first | (rw [hji8] at H; exact H) | (simp only [hji8] at H ⊢; exact H)
            (try rw [hji8] at c5b0)
            (try rw [hji8] at c5b1)
            (try rw [hji8] at A4)
            have hji8w : (IntKind.i64.wrap (x4_1 + t201)) = ji8 := (i64_w _).trans hji8
            by_cases c9 : 0 ≤ (ji8)
            · rw [if_pos c9] at H
              have c9b0 := eq_true c9
              have c9b1 : decide (0 ≤ (ji8)) = true := decide_eq_true c9
              clear c9
              by_cases c10 : (ji8) ≤ (a0.size : Int)
              · rw [if_pos c10] at H
                have c10b0 := eq_true c10
                have c10b1 : decide ((ji8) ≤ (a0.size : Int)) = true := decide_eq_true c10
                clear c10
                replace H := Option.bind_eq_some_iff.mp H
                obtain ⟨⟨t205, t206, t207, t208⟩, A110, H⟩ := H
                replace H : (if x3_1.length < 3518437208883 then (trickleref15_Scan.l0 k1 a0 (x3_1 ++ [(⟨t205, t206, t207, ji8⟩ : S32)]) (wrap64 ((ji8) + (t206.size : Int)))) else (none)) = some r := H
                have A11 := Aside0.mk A110
                clear A110
                by_cases c12 : x3_1.length < 3518437208883
                · rw [if_pos c12] at H
                  have LMc12 := Aside0.mk c12
                  clear c12
                  obtain ⟨y210, hy210⟩ : ∃ y_ : List (S32), y_ = (x3_1 ++ [(⟨t205, t206, t207, ji8⟩ : S32)]) := ⟨_, rfl⟩
                  replace H : (trickleref15_Scan.l0 k1 a0 y210 (wrap64 ((ji8) + (t206.size : Int)))) = some r := by first | (rw [hy210]; with_reducible exact H) | (have H2_ := (Option.bind_some _ _).symm.trans H; rw [hy210]; with_reducible exact H2_) | (have H2_ := (Option.bind_some _ _).symm.trans H; with_reducible exact H2_) | with_reducible exact H | (rw [hy210]; exact H) | exact H
                  have Ny210 := Aside0.mk hy210
                  clear hy210
                  have H' := Aside0.mk H
                  clear H
                  go_upto_region 8 with (first | ((with_reducible refine gate_callee (f := 28) rfl ?_); refine goesL_ (some 10) rfl rfl Tryd.func28 (by kernel_rfl) rfl #[.string (a0.extract (x4_1 : Int).toNat a0.size)] rfl (by (try simp only [List.map_toArray, List.map_cons, List.map_nil]); first | done | rfl | (simp only [List.length_drop, List.length_take]; rfl)) ?_; (with_reducible refine (trickleref15_blank.calls k1 (a0.extract (x4_1 : Int).toNat a0.size) t201 _ A4.out).mono ?_); rintro e w' ⟨rfl, ⟨nd, rfl⟩⟩; refine ⟨_, rfl, ?_⟩; (try (rw [drewN_self wr]; generalize hq_ : World.drewN wr _ = wr; have n0_ : Aside0 (Kd.R k32 32 wr w.heap.size (fun _ => True) u3 x3_1) := ⟨by rw [← hq_]; exact (by (with_reducible repeat (first | apply Kd.R_alloc | apply Kd.R_drewN | apply Kd.R_drew)); exact HO_3.out)⟩; have n1_ : Aside0 (Below w.heap.size w wr) := ⟨by rw [← hq_]; exact (by repeat (first | (with_reducible first | exact HB.out | apply below_alloc | apply pw_below_drewN | apply below_drew1) | exact HB.out))⟩; clear HO_3 HB hq_; have HO_3 := n0_; have HB := n1_; clear n0_ n1_))) | ((with_reducible refine gate_callee (f := 29) rfl ?_); refine goesL_ (some 24) rfl rfl Tryd.func29 (by kernel_rfl) rfl #[.string (a0.extract ((ji8) : Int).toNat a0.size)] rfl (by (try simp only [List.map_toArray, List.map_cons, List.map_nil]); first | done | (simp only [hji8]; rfl) | rfl | (simp only [List.length_drop, List.length_take]; rfl)) ?_; (with_reducible refine (trickleref15_one.calls k1 (a0.extract ((ji8) : Int).toNat a0.size) t205 t206 t207 t208 _ A11.out).mono ?_); rintro e w13 ⟨rfl, hb⟩; refine ⟨_, rfl, ?_⟩; have n0_ := Aside0.mk (Kd.R_below (by (with_reducible repeat (first | apply Kd.R_alloc | apply Kd.R_drewN | apply Kd.R_drew)); exact HO_3.out) hb); have n1_ := Aside0.mk (below_step (by repeat (first | (with_reducible first | exact HB.out | apply below_alloc | apply pw_below_drewN | apply below_drew1) | exact HB.out)) hb); clear HO_3; clear HB; have HO_3 := n0_; have HB := n1_; clear n0_ n1_; (try clear hb); (try clear hb2); (try clear hk); (try clear hi)) | ((with_reducible refine gate_dst (N := 5) rfl ?_); refine box_event ?hg (N := 5) ?hd (cs := #[.int .i64 0, .string (⟨#[]⟩ : ByteArray), .int .i16 0, .int .i64 0]) (t := 32) ?hr ?_; (case hd => rfl); (case hg => rfl); (case hr => first | (go_simp; done) | (go_simp; rfl)); intro gb209 hg w14 hbox hb; have n0_ := Aside0.mk (Kd.R_below (Kd.R_elderB (by (with_reducible repeat (first | apply Kd.R_alloc | apply Kd.R_drewN | apply Kd.R_drew)); exact HO_3.out) gb209 (Nat.le_of_eq hg.symm)) hb); have n1_ := Aside0.mk (below_step (by repeat (first | (with_reducible first | exact HB.out | apply below_alloc | apply pw_below_drewN | apply below_drew1) | exact HB.out)) hb); have n2_ := Aside0.mk (hbox); have n3_ := Aside0.mk ((by rw [hg]; exact (below_size (by repeat (first | (with_reducible first | exact HB.out | apply below_alloc | apply pw_below_drewN | apply below_drew1) | exact HB.out))) : w.heap.size ≤ gb209)); have n4_ := Aside0.mk ((by rw [hg]; exact (below_size (by repeat (first | (with_reducible first | exact HB.out | apply below_alloc | apply pw_below_drewN | apply below_drew1) | exact HB.out))) : w.heap.size ≤ gb209)); clear HO_3; clear HB; have HO_3 := n0_; have HB := n1_; have BK209 := n2_; have GW209 := n3_; have GE209 := n4_; clear n0_ n1_ n2_ n3_ n4_; clear hb hbox hg; have hcz15_0 : w14.cell? ⟨gb209, 0, none⟩ = some (.int .i64 0) := (blk_cell BK209.out 0).trans rfl; have hcz15_1 : w14.cell? ⟨gb209, 1, none⟩ = some (.string (⟨#[]⟩ : ByteArray)) := (blk_cell BK209.out 1).trans rfl; have hcz15_2 : w14.cell? ⟨gb209, 2, none⟩ = some (.int .i16 0) := (blk_cell BK209.out 2).trans rfl; have hcz15_3 : w14.cell? ⟨gb209, 3, none⟩ = some (.int .i64 0) := (blk_cell BK209.out 3).trans rfl; have hfz15_0 := blk_frozen BK209.out 0; have hfz15_1 := blk_frozen BK209.out 1; have hfz15_2 := blk_frozen BK209.out 2; have hfz15_3 := blk_frozen BK209.out 3))
                  refine wp_gen3 (Q := fun wz => Aside0 (wz.heap[gb209]? = some (.cells #[.int .i64 t205, .string t206, .int .i16 t207, .int .i64 ji8] 32 (0, 0))) ∧ Aside0 (Below w.heap.size w wz) ∧ Aside0 (Kd.R k32 32 wz w.heap.size (fun k_ => k_ ≠ gb209) u3 x3_1)) ⟨⟨by (with_reducible repeat (first | refine blk_drewN ?_ _ | refine blk_drew ?_ | refine blk_alloc ?_ _)); refine blk_put (cs := #[.int .i64 t205, .string t206, .int .i16 t207, .int .i64 t208]) ?_ 3 _ rfl; (with_reducible repeat (first | refine blk_drewN ?_ _ | refine blk_drew ?_ | refine blk_alloc ?_ _)); refine blk_put (cs := #[.int .i64 t205, .string t206, .int .i16 t207, .int .i64 0]) ?_ 3 _ rfl; (with_reducible repeat (first | refine blk_drewN ?_ _ | refine blk_drew ?_ | refine blk_alloc ?_ _)); refine blk_put (cs := #[.int .i64 t205, .string t206, .int .i16 0, .int .i64 0]) ?_ 2 _ rfl; (with_reducible repeat (first | refine blk_drewN ?_ _ | refine blk_drew ?_ | refine blk_alloc ?_ _)); refine blk_put (cs := #[.int .i64 t205, .string (⟨#[]⟩ : ByteArray), .int .i16 0, .int .i64 0]) ?_ 1 _ rfl; (with_reducible repeat (first | refine blk_drewN ?_ _ | refine blk_drew ?_ | refine blk_alloc ?_ _)); refine blk_put (cs := #[.int .i64 0, .string (⟨#[]⟩ : ByteArray), .int .i16 0, .int .i64 0]) ?_ 0 _ rfl; (with_reducible repeat (first | refine blk_drewN ?_ _ | refine blk_drew ?_ | refine blk_alloc ?_ _)); exact BK209.out⟩, ⟨by repeat (first | (with_reducible first | exact HB.out | apply below_alloc | apply pw_below_drewN | apply below_drew1 | refine below_set ?_ GE209.out) | exact HB.out)⟩, ⟨by (with_reducible repeat (first | apply Kd.R_alloc | apply Kd.R_drewN | apply Kd.R_drew)); exact Kd.R_mono (Kd.R_far (p := ⟨gb209, 3, none⟩) (Kd.R_far (p := ⟨gb209, 3, none⟩) (Kd.R_far (p := ⟨gb209, 2, none⟩) (Kd.R_far (p := ⟨gb209, 1, none⟩) (Kd.R_far (p := ⟨gb209, 0, none⟩) (Kd.R_mono HO_3.out (fun k_ hk => (⟨hk, hk.2⟩ : _ ∧ k_ ≠ gb209))) (fun _ hk => hk.2) (.int .i64 t205)) (fun _ hk => hk.2) (.string t206)) (fun _ hk => hk.2) (.int .i16 t207)) (fun _ hk => hk.2) (.int .i64 t208)) (fun _ hk => hk.2) (.int .i64 ji8)) (fun _ hk => hk.1.2)⟩⟩ ?_
                  clear HO_3 HB BK209
                  try clear hcz15_0
                  try clear hcz15_1
                  try clear hcz15_2
                  try clear hcz15_3
                  try clear hfz15_0
                  try clear hfz15_1
                  try clear hfz15_2
                  try clear hfz15_3
                  intro wz hz
                  obtain ⟨BK209, HB, HO_3⟩ := hz
                  have hcf_0 : wz.cell? ⟨gb209, 0, none⟩ = some (.int .i64 t205) := (blk_cell BK209.out 0).trans rfl
                  have hcf_1 : wz.cell? ⟨gb209, 1, none⟩ = some (.string t206) := (blk_cell BK209.out 1).trans rfl
                  have hcf_2 : wz.cell? ⟨gb209, 2, none⟩ = some (.int .i16 t207) := (blk_cell BK209.out 2).trans rfl
                  have hcf_3 : wz.cell? ⟨gb209, 3, none⟩ = some (.int .i64 ji8) := (blk_cell BK209.out 3).trans rfl
                  go_wp2_with (first | ((with_reducible refine gate_builtin (b := .append) (xs := #[.tmp 27, .tmp 29]) rfl ?_); at_builtin; refine Kd.R_append k32 (w0 := w) w.heap.size rfl (.tmp 27) (.tmp 29) 24 32 (.agg #[(.int .i64 0), (.string ⟨#[]⟩), (.int .i16 0), (.int .i64 0)]) 40 rfl Tryd.underlying24 info32 rfl (by decide) (by omega) u3 x3_1 (⟨t205, t206, t207, ji8⟩ : S32) [.int .i64 t205, .string t206, .int .i16 t207, .int .i64 ji8] (fun k_ => k_ ≠ gb209) (fun _ => False) rfl (by first | (go_simp; done) | (go_simp; rfl)) ?aP (fun _ hk => hk.elim) ?aF ?aO ?aB ?aS ?aL ?_; (case aP => exact k32_mkM _ _ _ (⟨t205, t206, t207, ji8⟩ : S32)); (case aB => exact (by repeat (first | (with_reducible first | exact HB.out | apply below_alloc | apply pw_below_drewN | apply below_drew1 | refine below_set ?_ GE209.out) | exact HB.out))); (case aF => exact (fun k_ hk => Kd.freshB (g := gb209) (o := .cells #[.int .i64 t205, .string t206, .int .i16 t207, .int .i64 ji8] 32 (0, 0)) BK209.out k_ hk)); (case aO => exact HO_3.out); (case aS => exact (below_size (by repeat (first | (with_reducible first | exact HB.out | apply below_alloc | apply pw_below_drewN | apply below_drew1 | refine below_set ?_ GE209.out) | exact HB.out)))); (case aL => have := LMc12.out; omega); intro v211 w16 ho hb hg hat; rw [← Ny210.out] at ho; have n0_ := Aside0.mk (blk_grown (g := gb209) (o := .cells #[.int .i64 t205, .string t206, .int .i16 t207, .int .i64 ji8] 32 (0, 0)) BK209.out hg (Kd.R_away HO_3.out (fun _ hk => hk))); have n1_ := Aside0.mk (hb); have n2_ := Aside0.mk (ho); clear BK209; clear HB; clear HO_3; have BK209 := n0_; have HB := n1_; have HO212 := n2_; clear n0_ n1_ n2_; clear ho hb hg hat; have hcz17_0 : w16.cell? ⟨gb209, 0, none⟩ = some (.int .i64 t205) := (blk_cell BK209.out 0).trans rfl; have hcz17_1 : w16.cell? ⟨gb209, 1, none⟩ = some (.string t206) := (blk_cell BK209.out 1).trans rfl; have hcz17_2 : w16.cell? ⟨gb209, 2, none⟩ = some (.int .i16 t207) := (blk_cell BK209.out 2).trans rfl; have hcz17_3 : w16.cell? ⟨gb209, 3, none⟩ = some (.int .i64 ji8) := (blk_cell BK209.out 3).trans rfl; have hfz17_0 := blk_frozen BK209.out 0; have hfz17_1 := blk_frozen BK209.out 1; have hfz17_2 := blk_frozen BK209.out 2; have hfz17_3 := blk_frozen BK209.out 3))
                  go_roundg k1
                  case measure => have := HK1.out; omega
                  case rel => exact ⟨(y210), (wrap64 ((ji8) + (t206.size : Int))), (by first | rfl | (simp; done) | (simp only [← hji8] <;> (first | rfl | simp)) | (simp [*]; done)), H', ⟨by have := HK1.out; omega⟩, ⟨by (with_reducible repeat (first | apply Kd.R_alloc | apply Kd.R_drewN | apply Kd.R_drew)); exact Kd.R_mono HO212.out (fun _ hk => trivial)⟩, ⟨by repeat (first | (with_reducible first | exact HB.out | apply below_alloc | apply pw_below_drewN | apply below_drew1 | refine below_set ?_ GE209.out) | exact HB.out)⟩⟩
                · rw [if_neg c12] at H
                  exact absurd H (by simp)
              · rw [if_neg c10] at H
                exact absurd H (by simp)
            · rw [if_neg c9] at H
              exact absurd H (by simp)
        · rw [if_neg c3] at H
          exact absurd H (by simp)
      · rw [if_neg c2] at H
        exact absurd H (by simp)

end Go.Proofs.YtmpbkemicfmbaaaDoor.PX
/-
  DERIVED: THE SHELF's CONTRACTS AT THIS DUMP, IN PLAIN WORDS (tools/lay-plain.mjs out of 'YtmpbkemicfmbaaaDoorShelfBx.lean', which tools/lay-shelf.mjs wrote): THE SAME DECLARATIONS UNDER THE SAME NAMES: 'import', 'namespace', 'open', 'def', 'theorem' AND NOTHING ELSE: no command of the shelf's: FOR A HAND-IN. Each laying: the table of numbers ('.._ren') and one theorem, a field a fact of the dump's own or the kernel's comparison; each contract: ONE APPLICATION.
-/
namespace Go.Proofs
open Go.Shelf
def Tryd.lays169_ren : Go.Shelf.Ren := ⟨fun | 169 => 33 | n => n, fun | 70 => 50 | 9 => 9 | 0 => 0 | 72 => 53 | 37 => 51 | 127 => 66 | 3 => 3 | 5 => 5 | n => n, fun | n => n⟩
theorem Tryd.lays169 : Go.Proofs.Lays.n169 Tryd.prog Tryd.lays169_ren := {
  mixed := by kernel_rfl
  f169 := Tryd.func33.trans (congrArg some (by kernel_rfl))
  t0 := Tryd.underlying0
  a0 := Tryd.isAgg0
  z0 := Tryd.sizeOf0
  v0 := Tryd.zeroValue0
  t3 := Tryd.underlying3
  a3 := Tryd.isAgg3
  z3 := Tryd.sizeOf3
  v3 := Tryd.zeroValue3
  t9 := Tryd.underlying9
  a9 := Tryd.isAgg9
  z9 := Tryd.sizeOf9
  v9 := Tryd.zeroValue9
  t37 := Tryd.underlying51
  a37 := Tryd.isAgg51
  z37 := Tryd.sizeOf51
  v37 := Tryd.zeroValue51
  t70 := Tryd.underlying50
  a70 := Tryd.isAgg50
  z70 := Tryd.sizeOf50
  v70 := Tryd.zeroValue50
  t72 := Tryd.underlying53
  a72 := Tryd.isAgg53
  z72 := Tryd.sizeOf53
  v72 := Tryd.zeroValue53
  t127 := Tryd.underlying66
  a127 := Tryd.isAgg66
  z127 := Tryd.sizeOf66
  v127 := Tryd.zeroValue66 }
theorem Tryd.Builder_Extra_169 : Builder.Extra Tryd.prog Tryd.lays169_ren := {
  sizeBuilder := by kernel_rfl
  liesBuilder := by kernel_rfl
  t5 := Tryd.underlying5
  a5 := Tryd.isAgg5
  z5 := Tryd.sizeOf5
  v5 := Tryd.zeroValue5
  infoByte := by kernel_rfl
  cellsByte := by kernel_rfl
  sizeByte := by kernel_rfl
  neB5 := by decide }
open Go.RowKit in
theorem Tryd.Builder_String_any (B b : Nat) (l : List UInt8) (w : World) (h : Lib.IsBuilder 53 5 B b (Lib.byteCells l) w) (hBw : B ≤ w.heap.size) :
    Calls Tryd.prog 33 #[.pointer (some ⟨b, 0, none⟩)] w fun e w' => e = .returned (.string ⟨l.toArray⟩) ∧ Below B w w' := Any.Builder_String_any Tryd.lays169 Tryd.Builder_Extra_169 B b l w h hBw
end Go.Proofs
/- strings.Builder over this program: copyCheck, WriteByte, WriteString and String, at a builder that the caller has made. -/
namespace Go.Proofs.YtmpbkemicfmbaaaDoor.PX
open Go.RowKit Go.Proofs.YtmpbkemicfmbaaaDoorW.PrintWords
set_option linter.unusedVariables false
set_option linter.unusedSimpArgs false
/-- A builder of the call's own that holds the bytes l. -/
def Bd (B b : Nat) (l : List UInt8) (w : World) : Prop := Lib.IsBuilder 53 5 B b (Lib.byteCells l) w
theorem builderAt_below {B b : Nat} {p : Value} {bs : List Value} {w w1 : World} (h : Lib.BuilderAt 53 5 B b p bs w) (hb : Below w.heap.size w w1) : Lib.BuilderAt 53 5 B b p bs w1 := by
  have hlt := h.lt
  obtain ⟨hB, v, hk, ho, hne⟩ := h
  exact ⟨hB, v, (hb.block b hlt).trans hk, pw_own_below ho hb, hne⟩
theorem Bd.below {B b : Nat} {l : List UInt8} {w w1 : World} (h : Bd B b l w) (hb : Below w.heap.size w w1) : Bd B b l w1 :=
  h.elim (fun h => .inl (builderAt_below h hb)) (fun h => .inr (builderAt_below h hb))
/-- Boxes of tokens stand as they stood. -/
def Keep37 (w w1 : World) : Prop := ∀ (g : Nat) (cs : Array Value), w.heap[g]? = some (.cells cs 37 (0, 0)) → w1.heap[g]? = some (.cells cs 37 (0, 0))
theorem Keep37.refl (w : World) : Keep37 w w := fun _ _ h => h
theorem Keep37.trans {a b c : World} (h : Keep37 a b) (k : Keep37 b c) : Keep37 a c := fun g cs hg => k g cs (h g cs hg)
theorem Keep37.set {w : World} {b j : Nat} {v : Value} {cs1 : Array Value} (hb : w.heap[b]? = some (.cells cs1 53 (0, 0))) : Keep37 w (w.setCell ⟨b, j, none⟩ v) := fun g cs hg => by
  have hne : g ≠ b := by
    rintro rfl
    rw [hg] at hb
    cases hb
  exact (Below.heap_setCell w ⟨b, j, none⟩ v g hne).trans hg
theorem Keep37.alloc (w : World) (o : Obj) : Keep37 w (w.alloc o) := fun g cs hg => by
  have hlt : g < w.heap.size := by
    by_cases hl : g < w.heap.size
    · exact hl
    · rw [Array.getElem?_eq_none (by omega)] at hg; cases hg
  rw [Lib.alloc_old w _ g hlt]
  exact hg
theorem Keep37.grown {w w1 : World} {B n : Nat} {v : Value} {xs : List Value} (ho : w.ownsRow B 5 1 v n xs) (hgr : w.grownBy w1 v.ownBlock) : Keep37 w w1 := fun g cs hg => by
  have hlt : g < w.heap.size := by
    by_cases hl : g < w.heap.size
    · exact hl
    · rw [Array.getElem?_eq_none (by omega)] at hg; cases hg
  have hne : v.ownBlock ≠ some g := by
    intro e
    obtain ⟨cells, hc⟩ := own_typed ho g e
    rw [hg] at hc
    cases hc
  rw [hgr.block g hlt (fun e => hne e.symm)]
  exact hg
set_option maxHeartbeats 1000000 in
set_option maxRecDepth 100000 in
theorem check_calls (B b : Nat) (bs : List Value) (w : World) (h : Lib.IsBuilder 53 5 B b bs w) :
    Calls Tryd.prog 49 #[.pointer (some ⟨b, 0, none⟩)] w fun e w1 => e = .returned (.tuple #[]) ∧ Lib.BuilderAt 53 5 B b (.pointer (some ⟨b, 0, none⟩)) bs w1 ∧ Below B w w1 ∧ Keep37 w w1 := by
  obtain ⟨j, hj, hjs⟩ := Option.map_eq_some_iff.1 (show (Tryd.prog.info? 53).map (·.size) = some 2 by kernel_rfl)
  have hlies : liesAt Tryd.prog Tryd.prog.depth 53 (2 / Tryd.prog.cellsOf 53) 0 53 1 = true := by kernel_rfl
  rcases h with h | h
  · have h0 := h.cell0
    have hsh := h.shape
    have hfz := h.frozen0
    go_enter Tryd.func49, Tryd.ntmps49
    go_wp2
    rw [Lib.run_to_unsafe w ⟨b, 0, none⟩ Tryd.underlying50 Tryd.underlying70 hj (by rw [hjs]; decide) hsh (Nat.zero_lt_succ 1)]
    simp only [Result.andThen]
    rw [Oper.upon_value]
    go_wp2
    rw [run_callFunc_extern Tryd.func55 (by kernel_rfl) (by kernel_rfl) (by kernel_rfl) (e := Extern.AbiNoEscape.same) (by kernel_rfl), Lib.run_noEscape]
    simp only [Result.andThen]
    rw [Oper.upon_value]
    go_wp2
    rw [Lib.run_from_unsafe w ⟨b, 0, none⟩ Tryd.underlying70 Tryd.underlying50 hj hsh hlies]
    simp only [Result.andThen]
    rw [Oper.upon_value]
    go_wp2
    go_end0
    exact ⟨rfl, h.used _, (Below.refl B w).setCell (p := ⟨b, 0, none⟩) h.1 _, Keep37.set (h.2.choose_spec.1)⟩
  · have h0 := h.cell0
    go_enter Tryd.func49, Tryd.ntmps49
    go_wp2
    rw [Lib.run_neq_ptr_same w _ Tryd.underlying50 hj]
    go_wp2
    go_end0
    exact ⟨rfl, h, Below.refl B w, Keep37.refl w⟩
theorem byteCells_append (a c : List UInt8) : Lib.byteCells a ++ Lib.byteCells c = Lib.byteCells (a ++ c) := by simp [Lib.byteCells]
theorem info_u8 : (Tryd.prog.info? 5).map (fun i => (i.zero, i.size, i.bytes)) = some (some (.int .u8 0), 1, 1) := by kernel_rfl
set_option maxHeartbeats 2000000 in
set_option maxRecDepth 100000 in
theorem writeByte_calls (B b : Nat) (l : List UInt8) (w : World) (h : Bd B b l w) (hlen : l.length + 1 ≤ 140737488355328) (hBw : B ≤ w.heap.size) :
    Calls Tryd.prog 31 #[.pointer (some ⟨b, 0, none⟩), .int .u8 32] w fun e w1 => e = .returned .nilIface ∧ Bd B b (l ++ [32]) w1 ∧ Below B w w1 ∧ Keep37 w w1 := by
  obtain ⟨i0, hi, hz0, hz1, hz2⟩ := info_parts info_u8
  have hbl : (Lib.byteCells l).length = l.length := Lib.byteCells_length l
  go_enter Tryd.func31, Tryd.ntmps31
  go_wp2_with (go_at_call 49; refine (check_calls B b (Lib.byteCells l) _ h).mono ?_)
  rintro e w1 ⟨rfl, h1, hb1, hk1⟩
  obtain ⟨hB, v, hbk, hown, hne⟩ := h1
  have c0 : w1.cell? ⟨b, 0, none⟩ = some (.pointer (some ⟨b, 0, none⟩)) := by rw [Lib.cell_of_heap hbk]; rfl
  have c1 : w1.cell? ⟨b, 1, none⟩ = some v := by rw [Lib.cell_of_heap hbk]; rfl
  go_wp2_with (at_builtin; refine wpList_append_own _ rfl _ _ 51 rfl B 5 i0 (.int .u8 0) 1 1 Tryd.underlying51 hi hz0 hz1 hz2 rfl (by decide) _ _ _ rfl (hown.alloc _) ⟨w1.heap.size, 0, none⟩ 1 1 [.int .u8 32] rfl rfl ?c1 ?c2 ?c3 ?c4 ?c5 ?_)
  case c1 =>
    intro j u hj
    match j, hj with
    | 0, hj => simp at hj; subst hj; simp [Addr.add]
  case c2 => intro u hu; simp at hu; subst hu; rfl
  case c3 => unfold maxLen; omega
  case c4 => omega
  case c5 => have := hb1.size; simp; omega
  intro v2 w2 hown2 hgrow _
  have hlt : b < w1.heap.size := Lib.BuilderAt.lt ⟨hB, v, hbk, hown, hne⟩
  have hb2 : w2.heap[b]? = some (.cells #[.pointer (some ⟨b, 0, none⟩), v] 53 (0, 0)) := by
    rw [hgrow.block b (by simp; omega) (fun e => hne e.symm), Lib.alloc_old w1 _ b hlt]
    exact hbk
  have d0 : w2.cell? ⟨b, 0, none⟩ = some (.pointer (some ⟨b, 0, none⟩)) := by rw [Lib.cell_of_heap hb2]; rfl
  have d1 : w2.cell? ⟨b, 1, none⟩ = some v := by rw [Lib.cell_of_heap hb2]; rfl
  have f1 : w2.frozen? ⟨b, 1, none⟩ = false := Lib.frozen_of_heap hb2 1
  obtain ⟨ao, n2, cap, rfl⟩ : ∃ ao n2 cap, v2 = .slice ao n2 cap := by
    rcases hown2.2 with ⟨hv, _⟩ | ⟨g, cap, cur, hv, _⟩
    · exact ⟨_, _, _, hv⟩
    · exact ⟨_, _, _, hv⟩
  go_wp2
  go_ret
  refine ⟨rfl, .inr ?_, ?_, ?_⟩
  · have h5 := Lib.BuilderAt.put (T := 53) (e := 5) (bs' := Lib.byteCells l ++ [.int .u8 32]) hB hb2 (by rw [List.length_append, hbl]; simpa [hbl] using hown2) (by decide)
    rw [show Lib.byteCells l ++ [Value.int .u8 32] = Lib.byteCells (l ++ [32]) from byteCells_append l [32]] at h5
    exact h5
  · exact ((hb1.alloc (by have := hb1.size; omega) _).grown hgrow (by have := hb1.size; simp; omega) (fun k hk => (hown.lt k hk).1)).setCell (p := ⟨b, 1, none⟩) hB _
  · exact ((hk1.trans (Keep37.alloc w1 _)).trans (Keep37.grown (hown.alloc _) hgrow)).trans (Keep37.set hb2)
set_option maxHeartbeats 2000000 in
set_option maxRecDepth 100000 in
theorem writeString_calls (B b : Nat) (l : List UInt8) (s : ByteArray) (w : World) (h : Bd B b l w) (hlen : l.length + s.size ≤ 140737488355328) (hBw : B ≤ w.heap.size) :
    Calls Tryd.prog 32 #[.pointer (some ⟨b, 0, none⟩), .string s] w fun e w1 => e = .returned (.tuple #[.int .i64 s.size, .nilIface]) ∧ Bd B b (l ++ s.data.toList) w1 ∧ Below B w w1 ∧ Keep37 w w1 := by
  obtain ⟨i0, hi, hz0, hz1, hz2⟩ := info_parts info_u8
  have hbl : (Lib.byteCells l).length = l.length := Lib.byteCells_length l
  go_enter Tryd.func32, Tryd.ntmps32
  go_wp2_with (go_at_call 49; refine (check_calls B b (Lib.byteCells l) _ h).mono ?_)
  rintro e w1 ⟨rfl, h1, hb1, hk1⟩
  obtain ⟨hB, v, hbk, hown, hne⟩ := h1
  have c0 : w1.cell? ⟨b, 0, none⟩ = some (.pointer (some ⟨b, 0, none⟩)) := by rw [Lib.cell_of_heap hbk]; rfl
  have c1 : w1.cell? ⟨b, 1, none⟩ = some v := by rw [Lib.cell_of_heap hbk]; rfl
  go_wp2_with (at_builtin; refine Lib.wpList_append_own_string _ rfl _ _ 51 9 rfl B 5 i0 Tryd.underlying51 Tryd.underlying9 hi hz0 hz1 hz2 _ _ _ rfl hown s rfl ?c3 ?c4 ?c5 ?_)
  case c3 => unfold maxLen; omega
  case c4 => omega
  case c5 => have := hb1.size; omega
  intro v2 w2 hown2 hgrow _
  have hlt : b < w1.heap.size := Lib.BuilderAt.lt ⟨hB, v, hbk, hown, hne⟩
  have hb2 : w2.heap[b]? = some (.cells #[.pointer (some ⟨b, 0, none⟩), v] 53 (0, 0)) := by
    rw [hgrow.block b hlt (fun e => hne e.symm)]
    exact hbk
  have d0 : w2.cell? ⟨b, 0, none⟩ = some (.pointer (some ⟨b, 0, none⟩)) := by rw [Lib.cell_of_heap hb2]; rfl
  have d1 : w2.cell? ⟨b, 1, none⟩ = some v := by rw [Lib.cell_of_heap hb2]; rfl
  have f1 : w2.frozen? ⟨b, 1, none⟩ = false := Lib.frozen_of_heap hb2 1
  obtain ⟨ao, n2, cap, rfl⟩ : ∃ ao n2 cap, v2 = .slice ao n2 cap := by
    rcases hown2.2 with ⟨hv, _⟩ | ⟨g, cap, cur, hv, _⟩
    · exact ⟨_, _, _, hv⟩
    · exact ⟨_, _, _, hv⟩
  go_wp2
  go_ret2
  refine ⟨rfl, .inr ?_, ?_, ?_⟩
  · have h5 := Lib.BuilderAt.put (T := 53) (e := 5) (bs' := Lib.byteCells l ++ Lib.strCells s) hB hb2 (by rw [List.length_append, hbl, Lib.strCells_length]; simpa [hbl] using hown2) (by decide)
    rw [show Lib.byteCells l ++ Lib.strCells s = Lib.byteCells (l ++ s.data.toList) from byteCells_append l s.data.toList] at h5
    exact h5
  · exact (hb1.grown hgrow (by have := hb1.size; omega) (fun k hk => (hown.lt k hk).1)).setCell (p := ⟨b, 1, none⟩) hB _
  · exact (hk1.trans (Keep37.grown hown hgrow)).trans (Keep37.set hb2)
end Go.Proofs.YtmpbkemicfmbaaaDoor.PX
-- Written by a program of this session (wip/xprint.py, over the kit's print tool). Lean checks it.
namespace Go.Proofs.YtmpbkemicfmbaaaDoor.PX
open Go.RowKit Go.Proofs.YtmpbkemicfmbaaaDoorW.PrintWords Go.Proofs.YtmpbkemicfmbaaaDoorW.PrintLast Go.Proofs.YtmpbkemicfmbaaaDoorW.PrintMore
attribute [local go_sem] max2_int min2_int max_two min_two max_three min_three max_four min_four   -- for this text's walks alone
set_option linter.unusedVariables false
set_option linter.unusedSimpArgs false

/-! ### lexer_apart: function 30 -/
def lexer_apart.f (k : Nat) (a0 : ByteArray) (a1 : ByteArray) : Option (Bool) := if a0.size + a1.size ≤ 9223372036854775807 then ((lexer_Scan.f k (a0 ++ a1)).bind fun t146 => (if (t146.length : Int) = 3 then (if 0 < (t146.length : Int) then (if ((rd_T37 t146 0).f1).toList = a0.toList then (if 1 < (t146.length : Int) then (some (((rd_T37 t146 1).f1).toList != a1.toList)) else (none)) else (some true)) else (none)) else (some true))) else (none)
theorem lexer_apart.mono : ∀ a0 a1 k, LeO (lexer_apart.f k a0 a1) (lexer_apart.f (k + 1) a0 a1) := by
  intro a0 a1 k
  unfold lexer_apart.f
  repeat' first
      | (with_reducible exact lexer_Scan.mono _ _)
      | (with_reducible exact LeO.refl _)
      | (with_reducible exact LeO.none _)
      | (with_reducible refine LeO.ite ?_ ?_)
      | (with_reducible refine LeO.bind ?_ (fun _ => ?_))
      | exact lexer_Scan.mono _ _
      | exact LeO.none _
      | refine LeO.ite ?_ ?_
      | refine LeO.bind ?_ (fun _ => ?_)
set_option maxHeartbeats 8000000 in
set_option maxRecDepth 100000 in
theorem lexer_apart.calls (k : Nat) (a0 : ByteArray) (a1 : ByteArray) (r : Bool) (w : World) (hG : GW w) (h : lexer_apart.f k a0 a1 = some r) :
    Calls Tryd.prog 30 #[.string a0, .string a1] w fun e w' => e = .returned (.bool r) ∧ Below w.heap.size w w' := by
  have HG := Aside0.mk hG
  clear hG
  have HB := Aside0.mk (Below.refl w.heap.size w)
  have H : (if a0.size + a1.size ≤ 9223372036854775807 then ((lexer_Scan.f k (a0 ++ a1)).bind fun t146 => (if (t146.length : Int) = 3 then (if 0 < (t146.length : Int) then (if ((rd_T37 t146 0).f1).toList = a0.toList then (if 1 < (t146.length : Int) then (some (((rd_T37 t146 1).f1).toList != a1.toList)) else (none)) else (some true)) else (none)) else (some true))) else (none)) = some r := h
  clear h
  by_cases c3 : a0.size + a1.size ≤ 9223372036854775807
  · rw [if_pos c3] at H
    have c3b0 := eq_true c3
    have c3b1 : decide (a0.size + a1.size ≤ 9223372036854775807) = true := decide_eq_true c3
    try have c3b2 : (9223372036854775807 < a0.size + a1.size) = False := eq_false (Nat.not_lt.2 c3)
    replace H := Option.bind_eq_some_iff.mp H
    obtain ⟨t146, A40, H⟩ := H
    replace H : (if (t146.length : Int) = 3 then (if 0 < (t146.length : Int) then (if ((rd_T37 t146 0).f1).toList = a0.toList then (if 1 < (t146.length : Int) then (some (((rd_T37 t146 1).f1).toList != a1.toList)) else (none)) else (some true)) else (none)) else (some true)) = some r := H
    have A4 := Aside0.mk A40
    clear A40
    by_cases c5 : (t146.length : Int) = 3
    · rw [if_pos c5] at H
      have c5b0 : ((t146.length : Int) == 3) = true := beq_iff_eq.mpr c5
      have c5b1 : ((t146.length : Int) != 3) = false := bne_eq_false_iff_eq.mpr c5
      clear c5
      by_cases c6 : 0 < (t146.length : Int)
      · rw [if_pos c6] at H
        have c6b0 : decide (0 < (t146.length : Int)) = true := decide_eq_true c6
        have c6b1 : decide (0 < t146.length) = true := decide_eq_true (by omega)
        clear c6
        by_cases c7 : ((rd_T37 t146 0).f1).toList = a0.toList
        · rw [if_pos c7] at H
          have c7b0 : (((rd_T37 t146 0).f1).toList == a0.toList) = true := beq_iff_eq.mpr c7
          have c7b1 : (((rd_T37 t146 0).f1).toList != a0.toList) = false := bne_eq_false_iff_eq.mpr c7
          clear c7
          by_cases c8 : 1 < (t146.length : Int)
          · rw [if_pos c8] at H
            have c8b0 : decide (1 < (t146.length : Int)) = true := decide_eq_true c8
            have c8b1 : decide (1 < t146.length) = true := decide_eq_true (by omega)
            clear c8
            obtain rfl := Option.some.inj H
            go_enter Tryd.func30, Tryd.ntmps30
            go_wp2_with (first | ((with_reducible refine gate_callee (f := 13) rfl ?_); refine goesL_ (some 9) rfl rfl Tryd.func13 (by kernel_rfl) rfl #[.string (a0 ++ a1)] rfl (by (try simp only [List.map_toArray, List.map_cons, List.map_nil]); first | done | rfl | (simp only [List.length_drop, List.length_take]; rfl)) ?_; (with_reducible refine (lexer_Scan.calls k (a0 ++ a1) t146 _ ?side1 A4.out).mono ?_); (case side1 => refine GW.below HG.out ?_; repeat (first | (with_reducible first | exact HB.out | apply below_alloc | apply pw_below_drewN | apply below_drew1) | exact HB.out)); rintro e w9 ⟨v147, rfl, ho0, hb⟩; refine ⟨_, rfl, ?_⟩; have n0_ := Aside0.mk (Kd.R_lower ho0 (below_size (by repeat (first | (with_reducible first | exact HB.out | apply below_alloc | apply pw_below_drewN | apply below_drew1) | exact HB.out)))); have n1_ := Aside0.mk (below_step (by repeat (first | (with_reducible first | exact HB.out | apply below_alloc | apply pw_below_drewN | apply below_drew1) | exact HB.out)) hb); clear HB; have HO148 := n0_; have HB := n1_; clear n0_ n1_; (try clear hb); (try clear hb2); (try clear hk); (try clear hi); (try clear ho0); obtain ⟨Ao10, co10, eo10⟩ := Kd.R_slice HO148.out; subst eo10; have p149 : 0 ≤ (0 : Int) := (by omega); have q149 : 0 < (t146.length : Int) := of_decide_eq_true (by first | (with_reducible assumption) | assumption); obtain ⟨ad149, e149, hx149_0, hx149_1, hx149_2, hx149_3⟩ := at_T37 (Kd.R_reads' HO148.out).2.2 0 p149 q149; cases e149; have qi149 : (0 < t146.length) = True := eq_true (by omega); (try rw [show ((0 : Int)).toNat = 0 from rfl] at hx149_0); (try rw [show 0 * 4 = 0 from rfl] at hx149_0); (try rw [Addr.add_zero'] at hx149_0); (try rw [show ((0 : Int)).toNat = 0 from rfl] at hx149_1); (try rw [show 0 * 4 = 0 from rfl] at hx149_1); (try rw [Addr.add_zero'] at hx149_1); (try rw [show ((0 : Int)).toNat = 0 from rfl] at hx149_2); (try rw [show 0 * 4 = 0 from rfl] at hx149_2); (try rw [Addr.add_zero'] at hx149_2); (try rw [show ((0 : Int)).toNat = 0 from rfl] at hx149_3); (try rw [show 0 * 4 = 0 from rfl] at hx149_3); (try rw [Addr.add_zero'] at hx149_3); replace p149 := eq_true p149; replace q149 := eq_true q149; have p150 : 0 ≤ (1 : Int) := (by omega); have q150 : 1 < (t146.length : Int) := of_decide_eq_true (by first | (with_reducible assumption) | assumption); obtain ⟨ad150, e150, hx150_0, hx150_1, hx150_2, hx150_3⟩ := at_T37 (Kd.R_reads' HO148.out).2.2 1 p150 q150; obtain rfl : ad149 = ad150 := (by injection e150); (try simp only [show (1 : Int).toNat = 1 from rfl, Nat.reduceMul, Nat.reduceEqDiff, Go.Addr.add, ↓reduceIte] at hx150_0); (try simp only [show (1 : Int).toNat = 1 from rfl, Nat.reduceMul, Nat.reduceEqDiff, Go.Addr.add, ↓reduceIte] at hx150_1); (try simp only [show (1 : Int).toNat = 1 from rfl, Nat.reduceMul, Nat.reduceEqDiff, Go.Addr.add, ↓reduceIte] at hx150_2); (try simp only [show (1 : Int).toNat = 1 from rfl, Nat.reduceMul, Nat.reduceEqDiff, Go.Addr.add, ↓reduceIte] at hx150_3); have qi150 : (1 < t146.length) = True := eq_true (by omega); (try rw [show ((1 : Int)).toNat = 1 from rfl] at hx150_0); (try rw [show 1 * 4 = 4 from rfl] at hx150_0); (try rw [show ((1 : Int)).toNat = 1 from rfl] at hx150_1); (try rw [show 1 * 4 = 4 from rfl] at hx150_1); (try rw [show ((1 : Int)).toNat = 1 from rfl] at hx150_2); (try rw [show 1 * 4 = 4 from rfl] at hx150_2); (try rw [show ((1 : Int)).toNat = 1 from rfl] at hx150_3); (try rw [show 1 * 4 = 4 from rfl] at hx150_3); replace p150 := eq_true p150; replace q150 := eq_true q150))
            go_ret
            exact ⟨by first | rfl | (simp [errW_none, errW_some] <;> rfl) | (simp [*, errW_none, errW_some] <;> rfl), by repeat (first | (with_reducible first | exact HB.out | apply below_alloc | apply pw_below_drewN | apply below_drew1) | exact HB.out)⟩
          · rw [if_neg c8] at H
            exact absurd H (by simp)
        · rw [if_neg c7] at H
          have c7b0 : (((rd_T37 t146 0).f1).toList == a0.toList) = false := beq_eq_false_iff_ne.mpr c7
          have c7b1 : (((rd_T37 t146 0).f1).toList != a0.toList) = true := bne_iff_ne.mpr c7
          obtain rfl := Option.some.inj H
          go_enter Tryd.func30, Tryd.ntmps30
          go_wp2_with (first | ((with_reducible refine gate_callee (f := 13) rfl ?_); refine goesL_ (some 9) rfl rfl Tryd.func13 (by kernel_rfl) rfl #[.string (a0 ++ a1)] rfl (by (try simp only [List.map_toArray, List.map_cons, List.map_nil]); first | done | rfl | (simp only [List.length_drop, List.length_take]; rfl)) ?_; (with_reducible refine (lexer_Scan.calls k (a0 ++ a1) t146 _ ?side1 A4.out).mono ?_); (case side1 => refine GW.below HG.out ?_; repeat (first | (with_reducible first | exact HB.out | apply below_alloc | apply pw_below_drewN | apply below_drew1) | exact HB.out)); rintro e w11 ⟨v147, rfl, ho0, hb⟩; refine ⟨_, rfl, ?_⟩; have n0_ := Aside0.mk (Kd.R_lower ho0 (below_size (by repeat (first | (with_reducible first | exact HB.out | apply below_alloc | apply pw_below_drewN | apply below_drew1) | exact HB.out)))); have n1_ := Aside0.mk (below_step (by repeat (first | (with_reducible first | exact HB.out | apply below_alloc | apply pw_below_drewN | apply below_drew1) | exact HB.out)) hb); clear HB; have HO148 := n0_; have HB := n1_; clear n0_ n1_; (try clear hb); (try clear hb2); (try clear hk); (try clear hi); (try clear ho0); obtain ⟨Ao12, co12, eo12⟩ := Kd.R_slice HO148.out; subst eo12; have p149 : 0 ≤ (0 : Int) := (by omega); have q149 : 0 < (t146.length : Int) := of_decide_eq_true (by first | (with_reducible assumption) | assumption); obtain ⟨ad149, e149, hx149_0, hx149_1, hx149_2, hx149_3⟩ := at_T37 (Kd.R_reads' HO148.out).2.2 0 p149 q149; cases e149; have qi149 : (0 < t146.length) = True := eq_true (by omega); (try rw [show ((0 : Int)).toNat = 0 from rfl] at hx149_0); (try rw [show 0 * 4 = 0 from rfl] at hx149_0); (try rw [Addr.add_zero'] at hx149_0); (try rw [show ((0 : Int)).toNat = 0 from rfl] at hx149_1); (try rw [show 0 * 4 = 0 from rfl] at hx149_1); (try rw [Addr.add_zero'] at hx149_1); (try rw [show ((0 : Int)).toNat = 0 from rfl] at hx149_2); (try rw [show 0 * 4 = 0 from rfl] at hx149_2); (try rw [Addr.add_zero'] at hx149_2); (try rw [show ((0 : Int)).toNat = 0 from rfl] at hx149_3); (try rw [show 0 * 4 = 0 from rfl] at hx149_3); (try rw [Addr.add_zero'] at hx149_3); replace p149 := eq_true p149; replace q149 := eq_true q149))
          go_ret
          exact ⟨by first | rfl | (simp [errW_none, errW_some] <;> rfl) | (simp [*, errW_none, errW_some] <;> rfl), by repeat (first | (with_reducible first | exact HB.out | apply below_alloc | apply pw_below_drewN | apply below_drew1) | exact HB.out)⟩
      · rw [if_neg c6] at H
        exact absurd H (by simp)
    · rw [if_neg c5] at H
      have c5b0 : ((t146.length : Int) == 3) = false := beq_eq_false_iff_ne.mpr c5
      have c5b1 : ((t146.length : Int) != 3) = true := bne_iff_ne.mpr c5
      obtain rfl := Option.some.inj H
      go_enter Tryd.func30, Tryd.ntmps30
      go_wp2_with (first | ((with_reducible refine gate_callee (f := 13) rfl ?_); refine goesL_ (some 9) rfl rfl Tryd.func13 (by kernel_rfl) rfl #[.string (a0 ++ a1)] rfl (by (try simp only [List.map_toArray, List.map_cons, List.map_nil]); first | done | rfl | (simp only [List.length_drop, List.length_take]; rfl)) ?_; (with_reducible refine (lexer_Scan.calls k (a0 ++ a1) t146 _ ?side1 A4.out).mono ?_); (case side1 => refine GW.below HG.out ?_; repeat (first | (with_reducible first | exact HB.out | apply below_alloc | apply pw_below_drewN | apply below_drew1) | exact HB.out)); rintro e w13 ⟨v147, rfl, ho0, hb⟩; refine ⟨_, rfl, ?_⟩; have n0_ := Aside0.mk (Kd.R_lower ho0 (below_size (by repeat (first | (with_reducible first | exact HB.out | apply below_alloc | apply pw_below_drewN | apply below_drew1) | exact HB.out)))); have n1_ := Aside0.mk (below_step (by repeat (first | (with_reducible first | exact HB.out | apply below_alloc | apply pw_below_drewN | apply below_drew1) | exact HB.out)) hb); clear HB; have HO148 := n0_; have HB := n1_; clear n0_ n1_; (try clear hb); (try clear hb2); (try clear hk); (try clear hi); (try clear ho0); obtain ⟨Ao14, co14, eo14⟩ := Kd.R_slice HO148.out; subst eo14))
      go_ret
      exact ⟨by first | rfl | (simp [errW_none, errW_some] <;> rfl) | (simp [*, errW_none, errW_some] <;> rfl), by repeat (first | (with_reducible first | exact HB.out | apply below_alloc | apply pw_below_drewN | apply below_drew1) | exact HB.out)⟩
  · rw [if_neg c3] at H
    exact absurd H (by simp)

-- NOT PRINTED: function 55 (abi_NoEscape)

-- NOT PRINTED: function 49 (strings_Builder_copyCheck)

-- NOT PRINTED: function 31 (strings_Builder_WriteByte)

-- NOT PRINTED: function 32 (strings_Builder_WriteString)

-- NOT PRINTED: function 33 (strings_Builder_String)

end Go.Proofs.YtmpbkemicfmbaaaDoor.PX
/- lexer.Join: what it computes, and that the call computes it. -/
namespace Go.Proofs.YtmpbkemicfmbaaaDoor.PX
open Go.RowKit Go.Proofs.YtmpbkemicfmbaaaDoorW.PrintWords Go.Proofs.YtmpbkemicfmbaaaDoorW.PrintLast Go.Proofs.YtmpbkemicfmbaaaDoorW.PrintMore
set_option linter.unusedVariables false
set_option linter.unusedSimpArgs false
/-- The bytes that Join has written behind some tokens: the last text, the bytes so far, the tokens that are left. -/
def joinL (k : Nat) : ByteArray → List UInt8 → List S37 → Option (List UInt8)
  | _, out, [] => some out
  | last, out, t :: r => if t.f1.toList = ([] : List UInt8) then joinL k last out r else if out.length + t.f1.size + 1 ≤ 140737488355328 then (if last.toList = ([] : List UInt8) then joinL k t.f1 (out ++ t.f1.data.toList) r else (lexer_apart.f k last t.f1).bind fun ap => joinL k t.f1 ((if ap = true then out ++ [32] else out) ++ t.f1.data.toList) r) else none
theorem joinL_mono (k : Nat) (l : List S37) : ∀ last out, LeO (joinL k last out l) (joinL (k + 1) last out l) := by
  induction l with
  | nil => intro last out; exact LeO.refl _
  | cons t r ih =>
    intro last out
    rw [joinL, joinL]
    exact LeO.ite (ih _ _) (LeO.ite (LeO.ite (ih _ _) (LeO.bind (lexer_apart.mono _ _ k) (fun _ => ih _ _))) (LeO.none _))
def lexer_Join.f (k : Nat) (l0 : List S37) : Option ByteArray := (joinL k ⟨#[]⟩ [] l0).bind fun l => some ⟨l.toArray⟩
theorem lexer_Join.mono : ∀ a0 k, LeO (lexer_Join.f k a0) (lexer_Join.f (k + 1) a0) := by
  intro a0 k
  exact LeO.bind (joinL_mono k a0 _ _) (fun _ => LeO.refl _)
theorem rdj37 (xs : List S37) (j : Nat) (h : j < xs.length) : rd_T37 xs (j : Int) = xs[j] := getD_nat xs z37 j h
/-- A builder, and another block of tokens. -/
def BT (B b : Nat) (l : List UInt8) (g : Nat) (w : World) : Prop := Bd B b l w ∧ ∃ cs, w.heap[g]? = some (.cells cs 37 (0, 0))
theorem BT.out {B b g : Nat} {l : List UInt8} {w : World} (h : BT B b l g w) : Bd B b l w := h.1
theorem builderAt_set {B b g j : Nat} {p v : Value} {bs : List Value} {w : World} (h : Lib.BuilderAt 53 5 B b p bs w) {cs : Array Value} (hg : w.heap[g]? = some (.cells cs 37 (0, 0))) : Lib.BuilderAt 53 5 B b p bs (w.setCell ⟨g, j, none⟩ v) := by
  obtain ⟨hB, u, hk, ho, hne⟩ := h
  have hgb : b ≠ g := by
    rintro rfl
    rw [hg] at hk
    cases hk
  have hgu : u.ownBlock ≠ some g := by
    intro e
    obtain ⟨cells, hc⟩ := own_typed ho g e
    rw [hg] at hc
    cases hc
  refine ⟨hB, u, (Below.heap_setCell w ⟨g, j, none⟩ v b hgb).trans hk, ?_, hne⟩
  exact ho.kept (row := some g) ⟨rfl, rfl, rfl, by simp [World.setCell], fun k _ hk => Below.heap_setCell _ _ _ _ (fun e => hk (by simp [e]))⟩ (Or.inr hgu)
theorem BT.set {B b g j : Nat} {l : List UInt8} {v : Value} {w : World} (h : BT B b l g w) : BT B b l g (w.setCell ⟨g, j, none⟩ v) := by
  obtain ⟨h, cs, hg⟩ := h
  refine ⟨h.elim (fun h => .inl (builderAt_set h hg)) (fun h => .inr (builderAt_set h hg)), ?_⟩
  simp [World.setCell, Array.getElem?_modify, hg]

set_option maxHeartbeats 8000000 in
set_option maxRecDepth 100000 in
theorem join_walk (k : Nat) (A0 : Option Addr) (c0 : Nat) (l0 : List S37) (res : List UInt8) (w : World) (hr0 : Kd.C k37 w A0 l0.length l0) (hc0 : l0.length ≤ c0) (hG : GW w) (h : joinL k ⟨#[]⟩ [] l0 = some res) :
    Calls Tryd.prog 15 #[.slice A0 l0.length c0] w fun e w' => e = .returned (.string ⟨res.toArray⟩) ∧ Below w.heap.size w w' := by
  have HG := Aside0.mk hG
  have HR0 := Aside0.mk hr0
  have HC0 := Aside0.mk hc0
  have hln := Aside0.mk hr0.2.1
  have HJ := Aside0.mk h
  clear hr0 hc0 hG h
  have hbd : Bd w.heap.size w.heap.size [] (w.alloc (.cells #[.pointer none, .slice none 0 0] 53)) := by
    refine .inl ⟨Nat.le_refl _, .slice none 0 0, ?_, ?_, by simp [Value.ownBlock]⟩
    · exact Array.getElem?_push_size
    · exact ⟨rfl, .inl ⟨rfl, rfl⟩⟩
  go_enter Tryd.func15, Tryd.ntmps15
  go_upto_region 3 with (fail)
  refine wp_gen3 (Q := fun wz => Aside0 (Below w.heap.size w wz) ∧ Aside0 (Bd w.heap.size w.heap.size [] wz)) ⟨⟨below_alloc (Below.refl _ _) _⟩, ⟨hbd⟩⟩ ?_
  clear hbd
  intro wz hz
  obtain ⟨HB, HD⟩ := hz
  obtain ⟨bb, hbb⟩ : ∃ bb, bb = w.heap.size := ⟨_, rfl⟩
  go_wp2
  go_loopg [4, 9] l0.length (fun kq v4 v9 w' => ∃ (last : ByteArray) (out : List UInt8) (j : Nat), v4 = .string last ∧ v9 = .int .i64 (j : Int) ∧ Aside0 (j + kq = l0.length ∧ joinL k last out (l0.drop j) = some res) ∧ Aside0 (Bd w.heap.size w.heap.size out w') ∧ Aside0 (Below w.heap.size w w'))
  case atStart => exact ⟨⟨#[]⟩, [], 0, rfl, rfl, ⟨⟨by omega, HJ.out⟩⟩, HD, HB⟩
  case round =>
    clear HB HD HJ
    obtain ⟨last, out, j, rfl, rfl, HA, HD, HB⟩ := hrel
    by_cases c2 : (j : Int) < (l0.length : Int)
    · have hjn : j < l0.length := by omega
      have c2b0 : decide ((j : Int) < (l0.length : Int)) = true := decide_eq_true c2
      have c2n : decide (j < l0.length) = true := decide_eq_true hjn
      obtain ⟨ad, ead, hx0, hx1, hx2, hx3⟩ := at_T37 HR0.out (j : Int) (by omega) (by omega)
      cases ead
      rw [rdj37 l0 j hjn, Int.toNat_natCast] at hx0 hx1 hx2 hx3
      replace hx0 := (HB.out.cell (World.block_lt_of_cell? w _ hx0)).trans hx0
      replace hx1 := (HB.out.cell (World.block_lt_of_cell? w _ hx1)).trans hx1
      replace hx2 := (HB.out.cell (World.block_lt_of_cell? w _ hx2)).trans hx2
      replace hx3 := (HB.out.cell (World.block_lt_of_cell? w _ hx3)).trans hx3
      have p0 := eq_true (show (0 : Int) ≤ (j : Int) by omega)
      have q0 := eq_true c2
      have q0n := eq_true hjn
      clear c2
      have hwr := (i64_w ((j : Int) + 1)).trans (wrap_nat hjn hln.out)
      have hstep : joinL k last out (l0[j] :: l0.drop (j + 1)) = some res := by rw [← drop_cons l0 j hjn]; exact HA.out.2
      have hj1 := Aside0.mk HA.out.1
      clear HA
      go_upto_region 6 with (first | ((with_reducible refine gate_dst (N := 6) rfl ?_); refine box_event ?hg (N := 6) ?hd (cs := #[.int .i64 0, .string (⟨#[]⟩ : ByteArray), .int .i16 0, .int .i64 0]) (t := 37) ?hr ?_; (case hd => rfl); (case hg => rfl); (case hr => first | (go_simp; done) | (go_simp; rfl)); intro gb hg w8 hbox hb; have n1_ := Aside0.mk (below_step (by repeat (first | (with_reducible first | exact HB.out | apply below_alloc | apply pw_below_drewN | apply below_drew1) | exact HB.out)) hb); have n2_ := Aside0.mk hbox; have n3_ := Aside0.mk ((by rw [hg]; exact (below_size (by repeat (first | (with_reducible first | exact HB.out | apply below_alloc | apply pw_below_drewN | apply below_drew1) | exact HB.out)))) : w.heap.size ≤ gb); have n4_ := Aside0.mk (Bd.below HD.out hb); clear HB HD; have HB := n1_; have BK := n2_; have GE := n3_; have HD := n4_; clear n1_ n2_ n3_ n4_; clear hb hbox hg; have hcz0 : w8.cell? ⟨gb, 0, none⟩ = some (.int .i64 0) := (blk_cell BK.out 0).trans rfl; have hfz0 := blk_frozen BK.out 0; have hcz1 : w8.cell? ⟨gb, 1, none⟩ = some (.string (⟨#[]⟩ : ByteArray)) := (blk_cell BK.out 1).trans rfl; have hfz1 := blk_frozen BK.out 1; have hcz2 : w8.cell? ⟨gb, 2, none⟩ = some (.int .i16 0) := (blk_cell BK.out 2).trans rfl; have hfz2 := blk_frozen BK.out 2; have hcz3 : w8.cell? ⟨gb, 3, none⟩ = some (.int .i64 0) := (blk_cell BK.out 3).trans rfl; have hfz3 := blk_frozen BK.out 3))
      have hBT : BT w.heap.size w.heap.size out gb w8 := ⟨HD.out, _, BK.out⟩
      refine wp_gen3 (Q := fun wq => Aside0 (wq.heap[gb]? = some (.cells #[.int .i64 (l0[j]).f0, .string (l0[j]).f1, .int .i16 (l0[j]).f2, .int .i64 (l0[j]).f3] 37 (0, 0))) ∧ Aside0 (Below w.heap.size w wq) ∧ Aside0 (Bd w.heap.size w.heap.size out wq)) ⟨⟨by (with_reducible repeat (first | refine blk_drewN ?_ _ | refine blk_drew ?_ | refine blk_alloc ?_ _)); refine blk_put (cs := #[.int .i64 (l0[j]).f0, .string (l0[j]).f1, .int .i16 (l0[j]).f2, .int .i64 0]) ?_ 3 _ rfl; (with_reducible repeat (first | refine blk_drewN ?_ _ | refine blk_drew ?_ | refine blk_alloc ?_ _)); refine blk_put (cs := #[.int .i64 (l0[j]).f0, .string (l0[j]).f1, .int .i16 0, .int .i64 0]) ?_ 2 _ rfl; (with_reducible repeat (first | refine blk_drewN ?_ _ | refine blk_drew ?_ | refine blk_alloc ?_ _)); refine blk_put (cs := #[.int .i64 (l0[j]).f0, .string (⟨#[]⟩ : ByteArray), .int .i16 0, .int .i64 0]) ?_ 1 _ rfl; (with_reducible repeat (first | refine blk_drewN ?_ _ | refine blk_drew ?_ | refine blk_alloc ?_ _)); refine blk_put (cs := #[.int .i64 0, .string (⟨#[]⟩ : ByteArray), .int .i16 0, .int .i64 0]) ?_ 0 _ rfl; (with_reducible repeat (first | refine blk_drewN ?_ _ | refine blk_drew ?_ | refine blk_alloc ?_ _)); exact BK.out⟩, ⟨(by repeat (first | (with_reducible first | exact HB.out | apply below_alloc | apply pw_below_drewN | apply below_drew1 | refine below_set ?_ GE.out) | exact HB.out))⟩, ⟨BT.out (by repeat (first | exact hBT | apply BT.set))⟩⟩ ?_
      clear HB HD BK hBT hcz0 hcz1 hcz2 hcz3 hfz0 hfz1 hfz2 hfz3 hx0 hx1 hx2 hx3
      intro wq hq
      obtain ⟨BK, HB, HD⟩ := hq
      have hcf1 : wq.cell? ⟨gb, 1, none⟩ = some (.string (l0[j]).f1) := (blk_cell BK.out 1).trans rfl
      rw [joinL] at hstep
      cases gk with
      | zero => exact absurd hj1.out (by omega)
      | succ k2 =>
        by_cases ht : (l0[j]).f1.toList = ([] : List UInt8)
        · have c3 : ((l0[j]).f1.toList == ([] : List UInt8)) = true := beq_iff_eq.mpr ht
          rw [if_pos ht] at hstep
          replace hstep := Aside0.mk hstep
          clear ht
          go_wp2
          go_roundg k2
          case measure => omega
          case rel => exact ⟨last, out, j + 1, rfl, by first | rfl | (simp; done) | (simp [*]; done) | exact congrArg (Value.int .i64) hwr, ⟨⟨by have := hj1.out; omega, hstep.out⟩⟩, HD, HB⟩
        · have c3 : ((l0[j]).f1.toList == ([] : List UInt8)) = false := beq_eq_false_iff_ne.mpr ht
          rw [if_neg ht] at hstep
          clear ht
          by_cases hsz0 : out.length + (l0[j]).f1.size + 1 ≤ 140737488355328
          case neg => rw [if_neg hsz0] at hstep; cases hstep
          rw [if_pos hsz0] at hstep
          have hsz := Aside0.mk hsz0
          clear hsz0
          by_cases hl : last.toList = ([] : List UInt8)
          · have c4 : (last.toList == ([] : List UInt8)) = true := beq_iff_eq.mpr hl
            have c4b : (last.toList != ([] : List UInt8)) = false := by rw [bne, c4]; rfl
            rw [if_pos hl] at hstep
            replace hstep := Aside0.mk hstep
            clear hl
            go_wp2_with (first | (go_at_call 32; refine (writeString_calls w.heap.size w.heap.size out (l0[j]).f1 _ HD.out ?s1 ?s2).mono ?_; (case s1 => have := hsz.out; omega); (case s2 => exact below_size HB.out); rintro e w22 ⟨rfl, hd, hb, hk⟩; have nB := Aside0.mk (HB.out.trans hb); have nD := Aside0.mk hd; have nK := Aside0.mk (hk _ _ BK.out); clear HB HD BK hb hd hk hcf1; have HB := nB; have HD := nD; have BK := nK; clear nB nD nK; have hcf1 : w22.cell? ⟨gb, 1, none⟩ = some (.string (l0[j]).f1) := (blk_cell BK.out 1).trans rfl))
            go_roundg k2
            case measure => omega
            case rel => exact ⟨(l0[j]).f1, out ++ (l0[j]).f1.data.toList, j + 1, rfl, by first | rfl | (simp; done) | (simp [*]; done) | exact congrArg (Value.int .i64) hwr, ⟨⟨by have := hj1.out; omega, hstep.out⟩⟩, HD, HB⟩
          · have c4 : (last.toList == ([] : List UInt8)) = false := beq_eq_false_iff_ne.mpr hl
            have c4b : (last.toList != ([] : List UInt8)) = true := by rw [bne, c4]; rfl
            rw [if_neg hl] at hstep
            clear hl
            obtain ⟨ap, hap0, hstep⟩ := Option.bind_eq_some_iff.mp hstep
            have hap := Aside0.mk hap0
            clear hap0
            cases ap with
            | true =>
              rw [if_pos rfl] at hstep
              replace hstep := Aside0.mk hstep
              go_wp2_with (first | (go_at_call 30; (with_reducible refine (lexer_apart.calls k last (l0[j]).f1 true _ ?side1 hap.out).mono ?_); (case side1 => exact GW.below HG.out HB.out); rintro e w20 ⟨rfl, hb⟩; have nB := Aside0.mk (below_step HB.out hb); have nD := Aside0.mk (Bd.below HD.out hb); have nK := Aside0.mk (blk_below BK.out hb); clear HB HD BK hb hcf1; have HB := nB; have HD := nD; have BK := nK; clear nB nD nK; have hcf1 : w20.cell? ⟨gb, 1, none⟩ = some (.string (l0[j]).f1) := (blk_cell BK.out 1).trans rfl) | (go_at_call 31; refine (writeByte_calls w.heap.size w.heap.size out _ HD.out ?s1 ?s2).mono ?_; (case s1 => have := hsz.out; omega); (case s2 => exact below_size HB.out); rintro e w21 ⟨rfl, hd, hb, hk⟩; have nB := Aside0.mk (HB.out.trans hb); have nD := Aside0.mk hd; have nK := Aside0.mk (hk _ _ BK.out); clear HB HD BK hb hd hk hcf1; have HB := nB; have HD := nD; have BK := nK; clear nB nD nK; have hcf1 : w21.cell? ⟨gb, 1, none⟩ = some (.string (l0[j]).f1) := (blk_cell BK.out 1).trans rfl) | (go_at_call 32; refine (writeString_calls w.heap.size w.heap.size (out ++ [32]) (l0[j]).f1 _ HD.out ?s1 ?s2).mono ?_; (case s1 => have := hsz.out; rw [List.length_append]; simp only [List.length_cons, List.length_nil]; omega); (case s2 => exact below_size HB.out); rintro e w22 ⟨rfl, hd, hb, hk⟩; have nB := Aside0.mk (HB.out.trans hb); have nD := Aside0.mk hd; have nK := Aside0.mk (hk _ _ BK.out); clear HB HD BK hb hd hk hcf1; have HB := nB; have HD := nD; have BK := nK; clear nB nD nK; have hcf1 : w22.cell? ⟨gb, 1, none⟩ = some (.string (l0[j]).f1) := (blk_cell BK.out 1).trans rfl))
              go_roundg k2
              case measure => omega
              case rel => exact ⟨(l0[j]).f1, (out ++ [32]) ++ (l0[j]).f1.data.toList, j + 1, rfl, by first | rfl | (simp; done) | (simp [*]; done) | exact congrArg (Value.int .i64) hwr, ⟨⟨by have := hj1.out; omega, hstep.out⟩⟩, HD, HB⟩
            | false =>
              rw [if_neg (by decide)] at hstep
              replace hstep := Aside0.mk hstep
              go_wp2_with (first | (go_at_call 30; (with_reducible refine (lexer_apart.calls k last (l0[j]).f1 false _ ?side1 hap.out).mono ?_); (case side1 => exact GW.below HG.out HB.out); rintro e w20 ⟨rfl, hb⟩; have nB := Aside0.mk (below_step HB.out hb); have nD := Aside0.mk (Bd.below HD.out hb); have nK := Aside0.mk (blk_below BK.out hb); clear HB HD BK hb hcf1; have HB := nB; have HD := nD; have BK := nK; clear nB nD nK; have hcf1 : w20.cell? ⟨gb, 1, none⟩ = some (.string (l0[j]).f1) := (blk_cell BK.out 1).trans rfl) | (go_at_call 32; refine (writeString_calls w.heap.size w.heap.size out (l0[j]).f1 _ HD.out ?s1 ?s2).mono ?_; (case s1 => have := hsz.out; omega); (case s2 => exact below_size HB.out); rintro e w22 ⟨rfl, hd, hb, hk⟩; have nB := Aside0.mk (HB.out.trans hb); have nD := Aside0.mk hd; have nK := Aside0.mk (hk _ _ BK.out); clear HB HD BK hb hd hk hcf1; have HB := nB; have HD := nD; have BK := nK; clear nB nD nK; have hcf1 : w22.cell? ⟨gb, 1, none⟩ = some (.string (l0[j]).f1) := (blk_cell BK.out 1).trans rfl))
              go_roundg k2
              case measure => omega
              case rel => exact ⟨(l0[j]).f1, out ++ (l0[j]).f1.data.toList, j + 1, rfl, by first | rfl | (simp; done) | (simp [*]; done) | exact congrArg (Value.int .i64) hwr, ⟨⟨by have := hj1.out; omega, hstep.out⟩⟩, HD, HB⟩
    · have c2b0 : decide ((j : Int) < (l0.length : Int)) = false := decide_eq_false c2
      have c2n : decide (j < l0.length) = false := decide_eq_false (by omega)
      have hres : out = res := by have := HA.out.2; rw [List.drop_of_length_le (by omega), joinL] at this; exact Option.some.inj this
      clear HA c2
      subst hres
      go_wp2_with (first | (go_at_call 33; refine (Tryd.Builder_String_any w.heap.size w.heap.size out _ HD.out (below_size HB.out)).mono ?_; rintro e w23 ⟨rfl, hb⟩))
      go_ret
      exact ⟨rfl, HB.out.trans hb⟩
theorem lexer_Join.calls (k : Nat) (A0 : Option Addr) (c0 : Nat) (l0 : List S37) (r : ByteArray) (w : World) (hr0 : Kd.C k37 w A0 l0.length l0) (hc0 : l0.length ≤ c0) (hG : GW w) (h : lexer_Join.f k l0 = some r) :
    Calls Tryd.prog 15 #[.slice A0 l0.length c0] w fun e w' => e = .returned (.string r) ∧ Below w.heap.size w w' := by
  obtain ⟨l, hl, hr⟩ := Option.bind_eq_some_iff.mp h
  obtain rfl := Option.some.inj hr
  exact join_walk k A0 c0 l0 l w hr0 hc0 hG hl
end Go.Proofs.YtmpbkemicfmbaaaDoor.PX
