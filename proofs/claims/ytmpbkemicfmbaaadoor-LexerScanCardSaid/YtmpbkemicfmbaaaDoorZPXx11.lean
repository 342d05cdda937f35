-- Written by a program of this session (wip/xprint.py, over the kit's print tool). Lean checks it.
import Derived.Test.YtmpbkemicfmbaaaDoorZPXx0
import Derived.Test.YtmpbkemicfmbaaaDoorZPXx4
import Derived.Test.YtmpbkemicfmbaaaDoorZPXx10
import Derived.Test.YtmpbkemicfmbaaaDoorZMGen
namespace Go.Proofs.YtmpbkemicfmbaaaDoor.PX
open Go.RowKit Go.Proofs.YtmpbkemicfmbaaaDoorW.PrintWords Go.Proofs.YtmpbkemicfmbaaaDoorW.PrintLast Go.Proofs.YtmpbkemicfmbaaaDoorW.PrintMore
attribute [local go_sem] max2_int min2_int max_two min_two max_three min_three max_four min_four   -- for this text's walks alone
set_option linter.unusedVariables false
set_option linter.unusedSimpArgs false

/-! ### lexer_Scan: function 13 -/
def lexer_Scan.l0 : Nat → ByteArray → List (S37) → Int → Option ((List (S37)))
  | 0, _, _, _ => none
  | k + 1, x0, x3, x4 => if 0 ≤ x4 then (if x4 ≤ (x0.size : Int) then ((lexer_skip.f k (x0.extract (x4 : Int).toNat x0.size)).bind fun t134 => (if (wrap64 (x4 + t134)) = (x0.size : Int) then (if x3.length < 3518437208883 then (some (x3 ++ [(⟨0, (⟨#[]⟩ : ByteArray), 0, wrap64 (x4 + t134)⟩ : S37)])) else (none)) else (if 0 ≤ (wrap64 (x4 + t134)) then (if (wrap64 (x4 + t134)) ≤ (x0.size : Int) then ((lexer_next.f k (x0.extract ((wrap64 (x4 + t134)) : Int).toNat x0.size)).bind fun bt138 => (if x3.length < 3518437208883 then (lexer_Scan.l0 k x0 (x3 ++ [(⟨bt138.1, bt138.2.1, bt138.2.2.1, wrap64 (x4 + t134)⟩ : S37)]) (wrap64 ((wrap64 (x4 + t134)) + (bt138.2.1.size : Int)))) else (none))) else (none)) else (none)))) else (none)) else (none)
def lexer_Scan.f (k : Nat) (a0 : ByteArray) : Option ((List (S37))) := lexer_Scan.l0 k a0 ([] : List (S37)) 0
theorem lexer_Scan.mono_l : ∀ k, (∀ y0 y1 y2, LeO (lexer_Scan.l0 k y0 y1 y2) (lexer_Scan.l0 (k + 1) y0 y1 y2))
  | 0 => fun _ _ _ r h => by simp [lexer_Scan.l0] at h
  | k + 1 => by
    have ih0 := lexer_Scan.mono_l k
    · intro y0 y1 y2
      unfold lexer_Scan.l0
      repeat' first
      | (with_reducible exact ih0 _ _ _)
      | (with_reducible exact lexer_next.mono _ _)
      | (with_reducible exact lexer_skip.mono _ _)
      | (with_reducible exact LeO.refl _)
      | (with_reducible exact LeO.none _)
      | (with_reducible refine LeO.ite ?_ ?_)
      | (with_reducible refine LeO.bind ?_ (fun _ => ?_))
      | exact ih0 _ _ _
      | exact lexer_next.mono _ _
      | exact lexer_skip.mono _ _
      | exact LeO.none _
      | refine LeO.ite ?_ ?_
      | refine LeO.bind ?_ (fun _ => ?_)
theorem lexer_Scan.mono : ∀ a0 k, LeO (lexer_Scan.f k a0) (lexer_Scan.f (k + 1) a0) := by
  intro a0 k
  have ih0 := lexer_Scan.mono_l k
  unfold lexer_Scan.f
  repeat' first
      | (with_reducible exact ih0 _ _ _)
      | (with_reducible exact lexer_next.mono _ _)
      | (with_reducible exact lexer_skip.mono _ _)
      | (with_reducible exact LeO.refl _)
      | (with_reducible exact LeO.none _)
      | (with_reducible refine LeO.ite ?_ ?_)
      | (with_reducible refine LeO.bind ?_ (fun _ => ?_))
      | exact ih0 _ _ _
      | exact lexer_next.mono _ _
      | exact lexer_skip.mono _ _
      | exact LeO.none _
      | refine LeO.ite ?_ ?_
      | refine LeO.bind ?_ (fun _ => ?_)
set_option maxHeartbeats 8000000 in
set_option maxRecDepth 100000 in
theorem lexer_Scan.calls (k : Nat) (a0 : ByteArray) (r : List (S37)) (w : World) (hG : GW w) (h : lexer_Scan.f k a0 = some r) :
    Calls Tryd.prog 13 #[.string a0] w fun e w' => ∃ v0_ : Value, e = .returned (v0_) ∧ Kd.R k37 37 w' w.heap.size (fun _ => True) v0_ r ∧ Below w.heap.size w w' := by
  have hu37 := Tryd.underlying37
  have HG := Aside0.mk hG
  clear hG
  have HB := Aside0.mk (Below.refl w.heap.size w)
  have H : (lexer_Scan.l0 k a0 ([] : List (S37)) 0) = some r := h
  clear h
  have H' := Aside0.mk H
  clear H
  go_enter Tryd.func13, Tryd.ntmps13
  go_wp2
  go_loopg [3, 4] k (fun kq v3 v4 w' => ∃ (x3_1 : List (S37)) (x4_1 : Int), v4 = .int .i64 x4_1 ∧ Aside0 (lexer_Scan.l0 kq a0 x3_1 x4_1 = some r) ∧ Aside0 (kq ≤ k) ∧ Aside0 (Kd.R k37 37 w' w.heap.size (fun _ => True) v3 x3_1) ∧ Aside0 (Below w.heap.size w w'))
  case atStart => exact ⟨(([] : List (S37))), (0), (by first | rfl | (simp; done) | (simp [*]; done)), H', ⟨Nat.le_refl _⟩, ⟨by first | exact Kd.R_nil _ _ _ _ _ | exact Kd.N_nil _ _ _ _ _ | exact Kd.V_nil _ _ _ _ _ | exact Kd.Q_nil _ _ _ _ _ | exact Kd.S_nil _ _ _ _ _⟩, ⟨by repeat (first | (with_reducible first | exact HB.out | apply below_alloc | apply pw_below_drewN | apply below_drew1) | exact HB.out)⟩⟩
  case round =>
    clear H'
    try clear c1
    obtain ⟨x3_1, x4_1, rfl, HA, HK1, HO_3, HB⟩ := hrel
    cases gk with
    | zero => exact absurd HA.out (by simp [lexer_Scan.l0])
    | succ k1 =>
      have H := HA.out
      clear HA
      simp only [lexer_Scan.l0] at H
      by_cases c2 : 0 ≤ x4_1
      · rw [if_pos c2] at H
        have c2b0 := eq_true c2
        have c2b1 : decide (0 ≤ x4_1) = true := decide_eq_true c2
        clear c2
        by_cases c3 : x4_1 ≤ (a0.size : Int)
        · rw [if_pos c3] at H
          have c3b0 := eq_true c3
          have c3b1 : decide (x4_1 ≤ (a0.size : Int)) = true := decide_eq_true c3
          clear c3
          replace H := Option.bind_eq_some_iff.mp H
          obtain ⟨t134, A40, H⟩ := H
          replace H : (if (wrap64 (x4_1 + t134)) = (a0.size : Int) then (if x3_1.length < 3518437208883 then (some (x3_1 ++ [(⟨0, (⟨#[]⟩ : ByteArray), 0, wrap64 (x4_1 + t134)⟩ : S37)])) else (none)) else (if 0 ≤ (wrap64 (x4_1 + t134)) then (if (wrap64 (x4_1 + t134)) ≤ (a0.size : Int) then ((lexer_next.f k1 (a0.extract ((wrap64 (x4_1 + t134)) : Int).toNat a0.size)).bind fun bt138 => (if x3_1.length < 3518437208883 then (lexer_Scan.l0 k1 a0 (x3_1 ++ [(⟨bt138.1, bt138.2.1, bt138.2.2.1, wrap64 (x4_1 + t134)⟩ : S37)]) (wrap64 ((wrap64 (x4_1 + t134)) + (bt138.2.1.size : Int)))) else (none))) else (none)) else (none))) = some r := H
          have A4 := Aside0.mk A40
          clear A40
          by_cases c5 : (wrap64 (x4_1 + t134)) = (a0.size : Int)
          · rw [if_pos c5] at H
            have c5b0 : ((wrap64 (x4_1 + t134)) == (a0.size : Int)) = true := beq_iff_eq.mpr c5
            have c5b1 : ((wrap64 (x4_1 + t134)) != (a0.size : Int)) = false := bne_eq_false_iff_eq.mpr c5
            clear c5
            by_cases c6 : x3_1.length < 3518437208883
            · rw [if_pos c6] at H
              have LMc6 := Aside0.mk c6
              clear c6
              obtain ⟨y135, hy135⟩ : ∃ y_ : List (S37), y_ = (x3_1 ++ [(⟨0, (⟨#[]⟩ : ByteArray), 0, wrap64 (x4_1 + t134)⟩ : S37)]) := ⟨_, rfl⟩
              replace H : (some y135) = some r := by first | (rw [hy135]; with_reducible exact H) | (have H2_ := (Option.bind_some _ _).symm.trans H; rw [hy135]; with_reducible exact H2_) | (have H2_ := (Option.bind_some _ _).symm.trans H; with_reducible exact H2_) | with_reducible exact H | (rw [hy135]; exact H) | exact H
              have Ny135 := Aside0.mk hy135
              clear hy135
              obtain rfl := Option.some.inj H
              go_wp2_with (first | ((with_reducible refine gate_callee (f := 26) rfl ?_); refine goesL_ (some 10) rfl rfl Tryd.func26 (by kernel_rfl) rfl #[.string (a0.extract (x4_1 : Int).toNat a0.size)] rfl (by (try simp only [List.map_toArray, List.map_cons, List.map_nil]); first | done | rfl | (simp only [List.length_drop, List.length_take]; rfl)) ?_; (with_reducible refine (lexer_skip.calls k1 (a0.extract (x4_1 : Int).toNat a0.size) t134 _ A4.out).mono ?_); rintro e w' ⟨rfl, ⟨nd, rfl⟩⟩; refine ⟨_, rfl, ?_⟩) | ((with_reducible refine gate_builtin (b := .append) (xs := #[.tmp 16, .tmp 19]) rfl ?_); at_builtin; refine Kd.R_append k37 (w0 := w) w.heap.size rfl (.tmp 16) (.tmp 19) 26 37 (.agg #[(.int .i64 0), (.string ⟨#[]⟩), (.int .i16 0), (.int .i64 0)]) 40 rfl Tryd.underlying26 info37 rfl (by decide) (by omega) u3 x3_1 (⟨0, (⟨#[]⟩ : ByteArray), 0, wrap64 (x4_1 + t134)⟩ : S37) [.int .i64 0, .string (⟨#[]⟩ : ByteArray), .int .i16 0, .int .i64 (wrap64 (x4_1 + t134))] (fun _ => True) (fun _ => False) rfl rfl ?aP (fun _ hk => hk.elim) ?aF ?aO ?aB ?aS ?aL ?_; (case aP => exact k37_mkM _ _ _ (⟨0, (⟨#[]⟩ : ByteArray), 0, wrap64 (x4_1 + t134)⟩ : S37)); (case aB => exact (by repeat (first | (with_reducible first | exact HB.out | apply below_alloc | apply pw_below_drewN | apply below_drew1) | exact HB.out))); (case aF => exact (fun _ _ => trivial)); (case aO => exact (by (with_reducible repeat (first | apply Kd.R_alloc | apply Kd.R_drewN | apply Kd.R_drew)); exact HO_3.out)); (case aS => exact (below_size (by repeat (first | (with_reducible first | exact HB.out | apply below_alloc | apply pw_below_drewN | apply below_drew1) | exact HB.out)))); (case aL => have := LMc6.out; omega); intro v136 w7 ho hb hg hat; rw [← Ny135.out] at ho; have n0_ := Aside0.mk (hb); have n1_ := Aside0.mk (ho); clear HB; clear HO_3; have HB := n0_; have HO137 := n1_; clear n0_ n1_; clear ho hb hg hat))
              go_ret
              exact ⟨_, by first | rfl | (simp [errW_none, errW_some] <;> rfl) | (simp [*, errW_none, errW_some] <;> rfl), by (with_reducible repeat (first | apply Kd.R_alloc | apply Kd.R_drewN | apply Kd.R_drew)); exact HO137.out, by repeat (first | (with_reducible first | exact HB.out | apply below_alloc | apply pw_below_drewN | apply below_drew1) | exact HB.out)⟩
            · rw [if_neg c6] at H
              exact absurd H (by simp)
          · rw [if_neg c5] at H
            have c5b0 : ((wrap64 (x4_1 + t134)) == (a0.size : Int)) = false := beq_eq_false_iff_ne.mpr c5
            have c5b1 : ((wrap64 (x4_1 + t134)) != (a0.size : Int)) = true := bne_iff_ne.mpr c5
            obtain ⟨ji8, hji8⟩ : ∃ j_ : Int, (wrap64 (x4_1 + t134)) = j_ := ⟨_, rfl⟩
            replace H : (if 0 ≤ (ji8) then (if (ji8) ≤ (a0.size : Int) then ((lexer_next.f k1 (a0.extract ((ji8) : Int).toNat a0.size)).bind fun bt138 => (if x3_1.length < 3518437208883 then (lexer_Scan.l0 k1 a0 (x3_1 ++ [(⟨bt138.1, bt138.2.1, bt138.2.2.1, ji8⟩ : S37)]) (wrap64 ((ji8) + (bt138.2.1.size : Int)))) else (none))) else (none)) else (none)) = some r := by first | (rw [hji8] at H; exact H) | (simp only [hji8] at H ⊢; exact H)
            (try rw [hji8] at c5b0)
            (try rw [hji8] at c5b1)
            (try rw [hji8] at A4)
            have hji8w : (IntKind.i64.wrap (x4_1 + t134)) = ji8 := (i64_w _).trans hji8
            by_cases c9 : 0 ≤ (ji8)
            · rw [if_pos c9] at H
              have c9b0 := eq_true c9
              have c9b1 : decide (0 ≤ (ji8)) = true := decide_eq_true c9
              clear c9
              by_cases c10 : (ji8) ≤ (a0.size : Int)
              · rw [if_pos c10] at H
                have c10b0 := eq_true c10
                have c10b1 : decide ((ji8) ≤ (a0.size : Int)) = true := decide_eq_true c10
                clear c10
                replace H := Option.bind_eq_some_iff.mp H
                obtain ⟨⟨t138, t139, t140, t141⟩, A110, H⟩ := H
                replace H : (if x3_1.length < 3518437208883 then (lexer_Scan.l0 k1 a0 (x3_1 ++ [(⟨t138, t139, t140, ji8⟩ : S37)]) (wrap64 ((ji8) + (t139.size : Int)))) else (none)) = some r := H
                have A11 := Aside0.mk A110
                clear A110
                by_cases c12 : x3_1.length < 3518437208883
                · rw [if_pos c12] at H
                  have LMc12 := Aside0.mk c12
                  clear c12
                  obtain ⟨y143, hy143⟩ : ∃ y_ : List (S37), y_ = (x3_1 ++ [(⟨t138, t139, t140, ji8⟩ : S37)]) := ⟨_, rfl⟩
                  replace H : (lexer_Scan.l0 k1 a0 y143 (wrap64 ((ji8) + (t139.size : Int)))) = some r := by first | (rw [hy143]; with_reducible exact H) | (have H2_ := (Option.bind_some _ _).symm.trans H; rw [hy143]; with_reducible exact H2_) | (have H2_ := (Option.bind_some _ _).symm.trans H; with_reducible exact H2_) | with_reducible exact H | (rw [hy143]; exact H) | exact H
                  have Ny143 := Aside0.mk hy143
                  clear hy143
                  have H' := Aside0.mk H
                  clear H
                  go_upto_region 8 with (first | ((with_reducible refine gate_callee (f := 26) rfl ?_); refine goesL_ (some 10) rfl rfl Tryd.func26 (by kernel_rfl) rfl #[.string (a0.extract (x4_1 : Int).toNat a0.size)] rfl (by (try simp only [List.map_toArray, List.map_cons, List.map_nil]); first | done | rfl | (simp only [List.length_drop, List.length_take]; rfl)) ?_; (with_reducible refine (lexer_skip.calls k1 (a0.extract (x4_1 : Int).toNat a0.size) t134 _ A4.out).mono ?_); rintro e w' ⟨rfl, ⟨nd, rfl⟩⟩; refine ⟨_, rfl, ?_⟩; (try (rw [drewN_self wr]; generalize hq_ : World.drewN wr _ = wr; have n0_ : Aside0 (Kd.R k37 37 wr w.heap.size (fun _ => True) u3 x3_1) := ⟨by rw [← hq_]; exact (by (with_reducible repeat (first | apply Kd.R_alloc | apply Kd.R_drewN | apply Kd.R_drew)); exact HO_3.out)⟩; have n1_ : Aside0 (Below w.heap.size w wr) := ⟨by rw [← hq_]; exact (by repeat (first | (with_reducible first | exact HB.out | apply below_alloc | apply pw_below_drewN | apply below_drew1) | exact HB.out))⟩; clear HO_3 HB hq_; have HO_3 := n0_; have HB := n1_; clear n0_ n1_))) | ((with_reducible refine gate_callee (f := 27) rfl ?_); refine goesL_ (some 24) rfl rfl Tryd.func27 (by kernel_rfl) rfl #[.string (a0.extract ((ji8) : Int).toNat a0.size)] rfl (by (try simp only [List.map_toArray, List.map_cons, List.map_nil]); first | done | (simp only [hji8]; rfl) | rfl | (simp only [List.length_drop, List.length_take]; rfl)) ?_; (with_reducible refine (lexer_next.calls k1 (a0.extract ((ji8) : Int).toNat a0.size) t138 t139 t140 t141 _ ?side1 A11.out).mono ?_); (case side1 => refine GW.below HG.out ?_; repeat (first | (with_reducible first | exact HB.out | apply below_alloc | apply pw_below_drewN | apply below_drew1) | exact HB.out)); rintro e w13 ⟨rfl, hb⟩; refine ⟨_, rfl, ?_⟩; have n0_ := Aside0.mk (Kd.R_below (by (with_reducible repeat (first | apply Kd.R_alloc | apply Kd.R_drewN | apply Kd.R_drew)); exact HO_3.out) hb); have n1_ := Aside0.mk (below_step (by repeat (first | (with_reducible first | exact HB.out | apply below_alloc | apply pw_below_drewN | apply below_drew1) | exact HB.out)) hb); clear HO_3; clear HB; have HO_3 := n0_; have HB := n1_; clear n0_ n1_; (try clear hb); (try clear hb2); (try clear hk); (try clear hi)) | ((with_reducible refine gate_dst (N := 5) rfl ?_); refine box_event ?hg (N := 5) ?hd (cs := #[.int .i64 0, .string (⟨#[]⟩ : ByteArray), .int .i16 0, .int .i64 0]) (t := 37) ?hr ?_; (case hd => rfl); (case hg => rfl); (case hr => first | (go_simp; done) | (go_simp; rfl)); intro gb142 hg w14 hbox hb; have n0_ := Aside0.mk (Kd.R_below (Kd.R_elderB (by (with_reducible repeat (first | apply Kd.R_alloc | apply Kd.R_drewN | apply Kd.R_drew)); exact HO_3.out) gb142 (Nat.le_of_eq hg.symm)) hb); have n1_ := Aside0.mk (below_step (by repeat (first | (with_reducible first | exact HB.out | apply below_alloc | apply pw_below_drewN | apply below_drew1) | exact HB.out)) hb); have n2_ := Aside0.mk (hbox); have n3_ := Aside0.mk ((by rw [hg]; exact (below_size (by repeat (first | (with_reducible first | exact HB.out | apply below_alloc | apply pw_below_drewN | apply below_drew1) | exact HB.out))) : w.heap.size ≤ gb142)); have n4_ := Aside0.mk ((by rw [hg]; exact (below_size (by repeat (first | (with_reducible first | exact HB.out | apply below_alloc | apply pw_below_drewN | apply below_drew1) | exact HB.out))) : w.heap.size ≤ gb142)); clear HO_3; clear HB; have HO_3 := n0_; have HB := n1_; have BK142 := n2_; have GW142 := n3_; have GE142 := n4_; clear n0_ n1_ n2_ n3_ n4_; clear hb hbox hg; have hcz15_0 : w14.cell? ⟨gb142, 0, none⟩ = some (.int .i64 0) := (blk_cell BK142.out 0).trans rfl; have hcz15_1 : w14.cell? ⟨gb142, 1, none⟩ = some (.string (⟨#[]⟩ : ByteArray)) := (blk_cell BK142.out 1).trans rfl; have hcz15_2 : w14.cell? ⟨gb142, 2, none⟩ = some (.int .i16 0) := (blk_cell BK142.out 2).trans rfl; have hcz15_3 : w14.cell? ⟨gb142, 3, none⟩ = some (.int .i64 0) := (blk_cell BK142.out 3).trans rfl; have hfz15_0 := blk_frozen BK142.out 0; have hfz15_1 := blk_frozen BK142.out 1; have hfz15_2 := blk_frozen BK142.out 2; have hfz15_3 := blk_frozen BK142.out 3))
                  refine wp_gen3 (Q := fun wz => Aside0 (wz.heap[gb142]? = some (.cells #[.int .i64 t138, .string t139, .int .i16 t140, .int .i64 ji8] 37 (0, 0))) ∧ Aside0 (Below w.heap.size w wz) ∧ Aside0 (Kd.R k37 37 wz w.heap.size (fun k_ => k_ ≠ gb142) u3 x3_1)) ⟨⟨by (with_reducible repeat (first | refine blk_drewN ?_ _ | refine blk_drew ?_ | refine blk_alloc ?_ _)); refine blk_put (cs := #[.int .i64 t138, .string t139, .int .i16 t140, .int .i64 t141]) ?_ 3 _ rfl; (with_reducible repeat (first | refine blk_drewN ?_ _ | refine blk_drew ?_ | refine blk_alloc ?_ _)); refine blk_put (cs := #[.int .i64 t138, .string t139, .int .i16 t140, .int .i64 0]) ?_ 3 _ rfl; (with_reducible repeat (first | refine blk_drewN ?_ _ | refine blk_drew ?_ | refine blk_alloc ?_ _)); refine blk_put (cs := #[.int .i64 t138, .string t139, .int .i16 0, .int .i64 0]) ?_ 2 _ rfl; (with_reducible repeat (first | refine blk_drewN ?_ _ | refine blk_drew ?_ | refine blk_alloc ?_ _)); refine blk_put (cs := #[.int .i64 t138, .string (⟨#[]⟩ : ByteArray), .int .i16 0, .int .i64 0]) ?_ 1 _ rfl; (with_reducible repeat (first | refine blk_drewN ?_ _ | refine blk_drew ?_ | refine blk_alloc ?_ _)); refine blk_put (cs := #[.int .i64 0, .string (⟨#[]⟩ : ByteArray), .int .i16 0, .int .i64 0]) ?_ 0 _ rfl; (with_reducible repeat (first | refine blk_drewN ?_ _ | refine blk_drew ?_ | refine blk_alloc ?_ _)); exact BK142.out⟩, ⟨by repeat (first | (with_reducible first | exact HB.out | apply below_alloc | apply pw_below_drewN | apply below_drew1 | refine below_set ?_ GE142.out) | exact HB.out)⟩, ⟨by (with_reducible repeat (first | apply Kd.R_alloc | apply Kd.R_drewN | apply Kd.R_drew)); exact Kd.R_mono (Kd.R_far (p := ⟨gb142, 3, none⟩) (Kd.R_far (p := ⟨gb142, 3, none⟩) (Kd.R_far (p := ⟨gb142, 2, none⟩) (Kd.R_far (p := ⟨gb142, 1, none⟩) (Kd.R_far (p := ⟨gb142, 0, none⟩) (Kd.R_mono HO_3.out (fun k_ hk => (⟨hk, hk.2⟩ : _ ∧ k_ ≠ gb142))) (fun _ hk => hk.2) (.int .i64 t138)) (fun _ hk => hk.2) (.string t139)) (fun _ hk => hk.2) (.int .i16 t140)) (fun _ hk => hk.2) (.int .i64 t141)) (fun _ hk => hk.2) (.int .i64 ji8)) (fun _ hk => hk.1.2)⟩⟩ ?_
                  clear HO_3 HB BK142
                  try clear hcz15_0
                  try clear hcz15_1
                  try clear hcz15_2
                  try clear hcz15_3
                  try clear hfz15_0
                  try clear hfz15_1
                  try clear hfz15_2
                  try clear hfz15_3
                  intro wz hz
                  obtain ⟨BK142, HB, HO_3⟩ := hz
                  have hcf_0 : wz.cell? ⟨gb142, 0, none⟩ = some (.int .i64 t138) := (blk_cell BK142.out 0).trans rfl
                  have hcf_1 : wz.cell? ⟨gb142, 1, none⟩ = some (.string t139) := (blk_cell BK142.out 1).trans rfl
                  have hcf_2 : wz.cell? ⟨gb142, 2, none⟩ = some (.int .i16 t140) := (blk_cell BK142.out 2).trans rfl
                  have hcf_3 : wz.cell? ⟨gb142, 3, none⟩ = some (.int .i64 ji8) := (blk_cell BK142.out 3).trans rfl
                  go_wp2_with (first | ((with_reducible refine gate_builtin (b := .append) (xs := #[.tmp 27, .tmp 29]) rfl ?_); at_builtin; refine Kd.R_append k37 (w0 := w) w.heap.size rfl (.tmp 27) (.tmp 29) 26 37 (.agg #[(.int .i64 0), (.string ⟨#[]⟩), (.int .i16 0), (.int .i64 0)]) 40 rfl Tryd.underlying26 info37 rfl (by decide) (by omega) u3 x3_1 (⟨t138, t139, t140, ji8⟩ : S37) [.int .i64 t138, .string t139, .int .i16 t140, .int .i64 ji8] (fun k_ => k_ ≠ gb142) (fun _ => False) rfl (by first | (go_simp; done) | (go_simp; rfl)) ?aP (fun _ hk => hk.elim) ?aF ?aO ?aB ?aS ?aL ?_; (case aP => exact k37_mkM _ _ _ (⟨t138, t139, t140, ji8⟩ : S37)); (case aB => exact (by repeat (first | (with_reducible first | exact HB.out | apply below_alloc | apply pw_below_drewN | apply below_drew1 | refine below_set ?_ GE142.out) | exact HB.out))); (case aF => exact (fun k_ hk => Kd.freshB (g := gb142) (o := .cells #[.int .i64 t138, .string t139, .int .i16 t140, .int .i64 ji8] 37 (0, 0)) BK142.out k_ hk)); (case aO => exact HO_3.out); (case aS => exact (below_size (by repeat (first | (with_reducible first | exact HB.out | apply below_alloc | apply pw_below_drewN | apply below_drew1 | refine below_set ?_ GE142.out) | exact HB.out)))); (case aL => have := LMc12.out; omega); intro v144 w16 ho hb hg hat; rw [← Ny143.out] at ho; have n0_ := Aside0.mk (blk_grown (g := gb142) (o := .cells #[.int .i64 t138, .string t139, .int .i16 t140, .int .i64 ji8] 37 (0, 0)) BK142.out hg (Kd.R_away HO_3.out (fun _ hk => hk))); have n1_ := Aside0.mk (hb); have n2_ := Aside0.mk (ho); clear BK142; clear HB; clear HO_3; have BK142 := n0_; have HB := n1_; have HO145 := n2_; clear n0_ n1_ n2_; clear ho hb hg hat; have hcz17_0 : w16.cell? ⟨gb142, 0, none⟩ = some (.int .i64 t138) := (blk_cell BK142.out 0).trans rfl; have hcz17_1 : w16.cell? ⟨gb142, 1, none⟩ = some (.string t139) := (blk_cell BK142.out 1).trans rfl; have hcz17_2 : w16.cell? ⟨gb142, 2, none⟩ = some (.int .i16 t140) := (blk_cell BK142.out 2).trans rfl; have hcz17_3 : w16.cell? ⟨gb142, 3, none⟩ = some (.int .i64 ji8) := (blk_cell BK142.out 3).trans rfl; have hfz17_0 := blk_frozen BK142.out 0; have hfz17_1 := blk_frozen BK142.out 1; have hfz17_2 := blk_frozen BK142.out 2; have hfz17_3 := blk_frozen BK142.out 3))
                  go_roundg k1
                  case measure => have := HK1.out; omega
                  case rel => exact ⟨(y143), (wrap64 ((ji8) + (t139.size : Int))), (by first | rfl | (simp; done) | (simp only [← hji8] <;> (first | rfl | simp)) | (simp [*]; done)), H', ⟨by have := HK1.out; omega⟩, ⟨by (with_reducible repeat (first | apply Kd.R_alloc | apply Kd.R_drewN | apply Kd.R_drew)); exact Kd.R_mono HO145.out (fun _ hk => trivial)⟩, ⟨by repeat (first | (with_reducible first | exact HB.out | apply below_alloc | apply pw_below_drewN | apply below_drew1 | refine below_set ?_ GE142.out) | exact HB.out)⟩⟩
                · rw [if_neg c12] at H
                  exact absurd H (by simp)
              · rw [if_neg c10] at H
                exact absurd H (by simp)
            · rw [if_neg c9] at H
              exact absurd H (by simp)
        · rw [if_neg c3] at H
          exact absurd H (by simp)
      · rw [if_neg c2] at H
        exact absurd H (by simp)

end Go.Proofs.YtmpbkemicfmbaaaDoor.PX
