/- Parts of the proof, merged in build order: PXx32, PXx33, PXx34, PureLexerErrors. -/
import Derived.Test.YtmpbkemicfmbaaaDoorY1
import Derived.Test.YtmpbkemicfmbaaaDoorY2
import Derived.Test.YtmpbkemicfmbaaaDoorY5
-- Written by a program of this session (wip/xprint.py, over the kit's print tool). Lean checks it.
namespace Go.Proofs.YtmpbkemicfmbaaaDoor.PX
open Go.RowKit Go.Proofs.YtmpbkemicfmbaaaDoorW.PrintWords Go.Proofs.YtmpbkemicfmbaaaDoorW.PrintLast Go.Proofs.YtmpbkemicfmbaaaDoorW.PrintMore
attribute [local go_sem] max2_int min2_int max_two min_two max_three min_three max_four min_four   -- for this text's walks alone
set_option linter.unusedVariables false
set_option linter.unusedSimpArgs false

/-! ### lexer_Errors: function 24 -/
def lexer_Errors.l0 : Nat → List (S62) → List (S37) → Int → Int → Option ((List (S62)))
  | 0, _, _, _, _ => none
  | k + 1, x3, x7, x8, x9 => if x9 < x8 then (if 0 ≤ x9 then (if x9 < (x7.length : Int) then (if ((rd_T37 x7 x9).f0) = 5 then (if ((rd_T37 x7 x9).f1).toList = ([] : List UInt8) then (if x3.length < 5864062014805 then (lexer_Errors.l0 k (x3 ++ [(⟨(rd_T37 x7 x9).f3, (⟨#[105, 110, 118, 97, 108, 105, 100, 32, 99, 104, 97, 114, 97, 99, 116, 101, 114]⟩ : ByteArray)⟩ : S62)]) x7 x8 (wrap64 (x9 + 1))) else (none)) else (if 0 < (((rd_T37 x7 x9).f1).size : Int) then ((lexer_letter.f (bt ((rd_T37 x7 x9).f1) 0)).bind fun t352 => (if t352 = true then (if x3.length < 5864062014805 then (lexer_Errors.l0 k (x3 ++ [(⟨(rd_T37 x7 x9).f3, (⟨#[105, 100, 101, 110, 116, 105, 102, 105, 101, 114, 32, 116, 111, 111, 32, 108, 111, 110, 103]⟩ : ByteArray)⟩ : S62)]) x7 x8 (wrap64 (x9 + 1))) else (none)) else ((lexer_digit.f (bt ((rd_T37 x7 x9).f1) 0)).bind fun t356 => (if t356 = true then (if x3.length < 5864062014805 then (lexer_Errors.l0 k (x3 ++ [(⟨(rd_T37 x7 x9).f3, (⟨#[105, 110, 118, 97, 108, 105, 100, 32, 105, 110, 116, 101, 103, 101, 114]⟩ : ByteArray)⟩ : S62)]) x7 x8 (wrap64 (x9 + 1))) else (none)) else (if x3.length < 5864062014805 then (lexer_Errors.l0 k (x3 ++ [(⟨(rd_T37 x7 x9).f3, (⟨#[105, 110, 118, 97, 108, 105, 100, 32, 99, 104, 97, 114, 97, 99, 116, 101, 114]⟩ : ByteArray)⟩ : S62)]) x7 x8 (wrap64 (x9 + 1))) else (none)))))) else (none))) else (lexer_Errors.l0 k x3 x7 x8 (wrap64 (x9 + 1)))) else (none)) else (none)) else (some x3)
def lexer_Errors.f (k : Nat) (l0 : List (S37)) : Option ((List (S62))) := lexer_Errors.l0 k ([] : List (S62)) l0 (l0.length : Int) 0
set_option maxHeartbeats 8000000 in
set_option maxRecDepth 100000 in
theorem lexer_Errors.calls (k : Nat) (A0 : Option Addr) (c0 : Nat) (l0 : List (S37)) (r : List (S62)) (w : World) (hr0 : Kd.C k37 w A0 l0.length l0) (hc0 : l0.length ≤ c0) (h : lexer_Errors.f k l0 = some r) :
    Calls Tryd.prog 24 #[.slice A0 l0.length c0] w fun e w' => ∃ v0_ : Value, e = .returned (v0_) ∧ Kd.R k62 62 w' w.heap.size (fun _ => True) v0_ r ∧ Below w.heap.size w w' := by
  have hu37 := Tryd.underlying37
  have hu62 := Tryd.underlying62
  have HR0 := Aside0.mk hr0
  have HC0 := Aside0.mk hc0
  clear hr0 hc0
  have HB := Aside0.mk (Below.refl w.heap.size w)
  have H : (lexer_Errors.l0 k ([] : List (S62)) l0 (l0.length : Int) 0) = some r := h
  clear h
  have H' := Aside0.mk H
  clear H
  go_enter Tryd.func24, Tryd.ntmps24
  go_wp2
  go_loopg [3, 9] k (fun kq v3 v9 w' => ∃ (x3_1 : List (S62)) (x9_1 : Int), v9 = .int .i64 x9_1 ∧ Aside0 (lexer_Errors.l0 kq x3_1 l0 (l0.length : Int) x9_1 = some r) ∧ Aside0 (kq ≤ k) ∧ Aside0 (Kd.R k62 62 w' w.heap.size (fun _ => True) v3 x3_1) ∧ Aside0 (Below w.heap.size w w'))
  case atStart => exact ⟨(([] : List (S62))), (0), (by first | rfl | (simp; done) | (simp [*]; done)), H', ⟨Nat.le_refl _⟩, ⟨by first | exact Kd.R_nil _ _ _ _ _ | exact Kd.N_nil _ _ _ _ _ | exact Kd.V_nil _ _ _ _ _ | exact Kd.Q_nil _ _ _ _ _ | exact Kd.S_nil _ _ _ _ _⟩, ⟨by repeat (first | (with_reducible first | exact HB.out | apply below_alloc | apply pw_below_drewN | apply below_drew1) | exact HB.out)⟩⟩
  case round =>
    clear H'
    obtain ⟨x3_1, x9_1, rfl, HA, HK1, HO_3, HB⟩ := hrel
    cases gk with
    | zero => exact absurd HA.out (by simp [lexer_Errors.l0])
    | succ k1 =>
      have H := HA.out
      clear HA
      simp only [lexer_Errors.l0] at H
      by_cases c2 : x9_1 < (l0.length : Int)
      · rw [if_pos c2] at H
        have c2b0 : decide (x9_1 < (l0.length : Int)) = true := decide_eq_true c2
        clear c2
        by_cases c3 : 0 ≤ x9_1
        · rw [if_pos c3] at H
          have c3b0 : decide (0 ≤ x9_1) = true := decide_eq_true c3
          clear c3
          by_cases c4 : x9_1 < (l0.length : Int)
          · rw [if_pos c4] at H
            have c4b0 : decide (x9_1 < (l0.length : Int)) = true := decide_eq_true c4
            clear c4
            by_cases c5 : ((rd_T37 l0 x9_1).f0) = 5
            · rw [if_pos c5] at H
              have c5b0 : (((rd_T37 l0 x9_1).f0) == 5) = true := beq_iff_eq.mpr c5
              have c5b1 : (((rd_T37 l0 x9_1).f0) != 5) = false := bne_eq_false_iff_eq.mpr c5
              clear c5
              by_cases c6 : ((rd_T37 l0 x9_1).f1).toList = ([] : List UInt8)
              · rw [if_pos c6] at H
                have c6b0 : (((rd_T37 l0 x9_1).f1).toList == ([] : List UInt8)) = true := beq_iff_eq.mpr c6
                have c6b1 : (((rd_T37 l0 x9_1).f1).toList != ([] : List UInt8)) = false := bne_eq_false_iff_eq.mpr c6
                clear c6
                by_cases c7 : x3_1.length < 5864062014805
                · rw [if_pos c7] at H
                  have LMc7 := Aside0.mk c7
                  clear c7
                  obtain ⟨y349, hy349⟩ : ∃ y_ : List (S62), y_ = (x3_1 ++ [(⟨(rd_T37 l0 x9_1).f3, (⟨#[105, 110, 118, 97, 108, 105, 100, 32, 99, 104, 97, 114, 97, 99, 116, 101, 114]⟩ : ByteArray)⟩ : S62)]) := ⟨_, rfl⟩
                  replace H : (lexer_Errors.l0 k1 y349 l0 (l0.length : Int) (wrap64 (x9_1 + 1))) = some r := by first | (rw [hy349]; with_reducible exact H) | (have H2_ := (Option.bind_some _ _).symm.trans H; rw [hy349]; with_reducible exact H2_) | (have H2_ := (Option.bind_some _ _).symm.trans H; with_reducible exact H2_) | with_reducible exact H | (rw [hy349]; exact H) | exact H
                  have Ny349 := Aside0.mk hy349
                  clear hy349
                  have H' := Aside0.mk H
                  clear H
                  have p347 : 0 ≤ (x9_1 : Int) := of_decide_eq_true (by first | (with_reducible assumption) | assumption)
                  have q347 : x9_1 < (l0.length : Int) := of_decide_eq_true (by first | (with_reducible assumption) | assumption)
                  obtain ⟨ad347, e347, hx347_0, hx347_1, hx347_2, hx347_3⟩ := at_T37 HR0.out x9_1 p347 q347
                  cases e347
                  replace hx347_0 := (HB.out.cell (World.block_lt_of_cell? w _ hx347_0)).trans hx347_0
                  replace hx347_1 := (HB.out.cell (World.block_lt_of_cell? w _ hx347_1)).trans hx347_1
                  replace hx347_2 := (HB.out.cell (World.block_lt_of_cell? w _ hx347_2)).trans hx347_2
                  replace hx347_3 := (HB.out.cell (World.block_lt_of_cell? w _ hx347_3)).trans hx347_3
                  replace p347 := eq_true p347
                  replace q347 := eq_true q347
                  go_wp2_with (first | ((with_reducible refine gate_dst (N := 5) rfl ?_); refine box_event ?hg (N := 5) ?hd (cs := #[.int .i64 0, .string (⟨#[]⟩ : ByteArray), .int .i16 0, .int .i64 0]) (t := 37) ?hr ?_; (case hd => rfl); (case hg => rfl); (case hr => first | (go_simp; done) | (go_simp; rfl)); intro gb348 hg w8 hbox hb; have n0_ := Aside0.mk (Kd.R_below (by (with_reducible repeat (first | apply Kd.R_alloc | apply Kd.R_drewN | apply Kd.R_drew)); exact HO_3.out) hb); have n1_ := Aside0.mk (below_step (by repeat (first | (with_reducible first | exact HB.out | apply below_alloc | apply pw_below_drewN | apply below_drew1) | exact HB.out)) hb); have n2_ := Aside0.mk (hbox); have n3_ := Aside0.mk ((by rw [hg]; exact (below_size (by repeat (first | (with_reducible first | exact HB.out | apply below_alloc | apply pw_below_drewN | apply below_drew1) | exact HB.out))) : w.heap.size ≤ gb348)); have n4_ := Aside0.mk ((by rw [hg]; exact (below_size (by repeat (first | (with_reducible first | exact HB.out | apply below_alloc | apply pw_below_drewN | apply below_drew1) | exact HB.out))) : w.heap.size ≤ gb348)); clear HO_3; clear HB; have HO_3 := n0_; have HB := n1_; have BK348 := n2_; have GW348 := n3_; have GE348 := n4_; clear n0_ n1_ n2_ n3_ n4_; clear hb hbox hg; have hcz9_0 : w8.cell? ⟨gb348, 0, none⟩ = some (.int .i64 0) := (blk_cell BK348.out 0).trans rfl; have hcz9_1 : w8.cell? ⟨gb348, 1, none⟩ = some (.string (⟨#[]⟩ : ByteArray)) := (blk_cell BK348.out 1).trans rfl; have hcz9_2 : w8.cell? ⟨gb348, 2, none⟩ = some (.int .i16 0) := (blk_cell BK348.out 2).trans rfl; have hcz9_3 : w8.cell? ⟨gb348, 3, none⟩ = some (.int .i64 0) := (blk_cell BK348.out 3).trans rfl; have hfz9_0 := blk_frozen BK348.out 0; have hfz9_1 := blk_frozen BK348.out 1; have hfz9_2 := blk_frozen BK348.out 2; have hfz9_3 := blk_frozen BK348.out 3) | ((with_reducible refine gate_builtin (b := .append) (xs := #[.tmp 30, .tmp 35]) rfl ?_); at_builtin; refine Kd.R_append k62 (w0 := w) w.heap.size rfl (.tmp 30) (.tmp 35) 44 62 (.agg #[(.int .i64 0), (.string ⟨#[]⟩)]) 24 rfl Tryd.underlying44 info62 rfl (by decide) (by omega) u3 x3_1 (⟨(rd_T37 l0 x9_1).f3, (⟨#[105, 110, 118, 97, 108, 105, 100, 32, 99, 104, 97, 114, 97, 99, 116, 101, 114]⟩ : ByteArray)⟩ : S62) [.int .i64 ((rd_T37 l0 x9_1).f3), .string (⟨#[105, 110, 118, 97, 108, 105, 100, 32, 99, 104, 97, 114, 97, 99, 116, 101, 114]⟩ : ByteArray)] (fun _ => True) (fun _ => False) rfl (by first | (go_simp; done) | (go_simp; rfl)) ?aP (fun _ hk => hk.elim) ?aF ?aO ?aB ?aS ?aL ?_; (case aP => exact k62_mkM _ _ _ (⟨(rd_T37 l0 x9_1).f3, (⟨#[105, 110, 118, 97, 108, 105, 100, 32, 99, 104, 97, 114, 97, 99, 116, 101, 114]⟩ : ByteArray)⟩ : S62)); (case aB => exact (by repeat (first | (with_reducible first | exact HB.out | apply below_alloc | apply pw_below_drewN | apply below_drew1 | refine below_set ?_ GE348.out) | exact HB.out))); (case aF => exact (fun _ _ => trivial)); (case aO => exact (by (with_reducible repeat (first | apply Kd.R_alloc | apply Kd.R_drewN | apply Kd.R_drew)); exact Kd.R_mono (Kd.R_far (p := ⟨gb348, 3, none⟩) (Kd.R_far (p := ⟨gb348, 2, none⟩) (Kd.R_far (p := ⟨gb348, 1, none⟩) (Kd.R_far (p := ⟨gb348, 0, none⟩) (Kd.R_types HO_3.out BK348.out (by decide)) (fun _ hk => hk.2) (.int .i64 ((rd_T37 l0 x9_1).f0))) (fun _ hk => hk.2) (.string ((rd_T37 l0 x9_1).f1))) (fun _ hk => hk.2) (.int .i16 ((rd_T37 l0 x9_1).f2))) (fun _ hk => hk.2) (.int .i64 ((rd_T37 l0 x9_1).f3))) (fun _ hk => trivial))); (case aS => exact (below_size (by repeat (first | (with_reducible first | exact HB.out | apply below_alloc | apply pw_below_drewN | apply below_drew1 | refine below_set ?_ GE348.out) | exact HB.out)))); (case aL => have := LMc7.out; omega); intro v350 w10 ho hb hg hat; rw [← Ny349.out] at ho; have n0_ := Aside0.mk (blk_grown (g := gb348) (o := .cells #[.int .i64 ((rd_T37 l0 x9_1).f0), .string ((rd_T37 l0 x9_1).f1), .int .i16 ((rd_T37 l0 x9_1).f2), .int .i64 ((rd_T37 l0 x9_1).f3)] 37 (0, 0)) (by (with_reducible repeat (first | refine blk_drewN ?_ _ | refine blk_drew ?_ | refine blk_alloc ?_ _)); refine blk_put (cs := #[.int .i64 ((rd_T37 l0 x9_1).f0), .string ((rd_T37 l0 x9_1).f1), .int .i16 ((rd_T37 l0 x9_1).f2), .int .i64 0]) ?_ 3 _ rfl; (with_reducible repeat (first | refine blk_drewN ?_ _ | refine blk_drew ?_ | refine blk_alloc ?_ _)); refine blk_put (cs := #[.int .i64 ((rd_T37 l0 x9_1).f0), .string ((rd_T37 l0 x9_1).f1), .int .i16 0, .int .i64 0]) ?_ 2 _ rfl; (with_reducible repeat (first | refine blk_drewN ?_ _ | refine blk_drew ?_ | refine blk_alloc ?_ _)); refine blk_put (cs := #[.int .i64 ((rd_T37 l0 x9_1).f0), .string (⟨#[]⟩ : ByteArray), .int .i16 0, .int .i64 0]) ?_ 1 _ rfl; (with_reducible repeat (first | refine blk_drewN ?_ _ | refine blk_drew ?_ | refine blk_alloc ?_ _)); refine blk_put (cs := #[.int .i64 0, .string (⟨#[]⟩ : ByteArray), .int .i16 0, .int .i64 0]) ?_ 0 _ rfl; (with_reducible repeat (first | refine blk_drewN ?_ _ | refine blk_drew ?_ | refine blk_alloc ?_ _)); exact BK348.out) hg (Kd.R_ne HO_3.out BK348.out (by decide))); have n1_ := Aside0.mk (hb); have n2_ := Aside0.mk (ho); clear BK348; clear HB; clear HO_3; have BK348 := n0_; have HB := n1_; have HO351 := n2_; clear n0_ n1_ n2_; clear ho hb hg hat))
                  go_roundg k1
                  case measure => have := HK1.out; omega
                  case rel => exact ⟨(y349), (wrap64 (x9_1 + 1)), (by first | rfl | (simp; done) | (simp [*]; done)), H', ⟨by have := HK1.out; omega⟩, ⟨by (with_reducible repeat (first | apply Kd.R_alloc | apply Kd.R_drewN | apply Kd.R_drew)); exact HO351.out⟩, ⟨by repeat (first | (with_reducible first | exact HB.out | apply below_alloc | apply pw_below_drewN | apply below_drew1 | refine below_set ?_ GE348.out) | exact HB.out)⟩⟩
                · rw [if_neg c7] at H
                  exact absurd H (by simp)
              · rw [if_neg c6] at H
                have c6b0 : (((rd_T37 l0 x9_1).f1).toList == ([] : List UInt8)) = false := beq_eq_false_iff_ne.mpr c6
                have c6b1 : (((rd_T37 l0 x9_1).f1).toList != ([] : List UInt8)) = true := bne_iff_ne.mpr c6
                by_cases c11 : 0 < (((rd_T37 l0 x9_1).f1).size : Int)
                · rw [if_pos c11] at H
                  have c11b0 : decide (0 < (((rd_T37 l0 x9_1).f1).size : Int)) = true := decide_eq_true c11
                  have c11b1 : decide (0 < ((rd_T37 l0 x9_1).f1).size) = true := decide_eq_true (by omega)
                  clear c11
                  replace H := Option.bind_eq_some_iff.mp H
                  obtain ⟨t352, A130, H⟩ := H
                  replace H : (if t352 = true then (if x3_1.length < 5864062014805 then (lexer_Errors.l0 k1 (x3_1 ++ [(⟨(rd_T37 l0 x9_1).f3, (⟨#[105, 100, 101, 110, 116, 105, 102, 105, 101, 114, 32, 116, 111, 111, 32, 108, 111, 110, 103]⟩ : ByteArray)⟩ : S62)]) l0 (l0.length : Int) (wrap64 (x9_1 + 1))) else (none)) else ((lexer_digit.f (bt ((rd_T37 l0 x9_1).f1) 0)).bind fun t356 => (if t356 = true then (if x3_1.length < 5864062014805 then (lexer_Errors.l0 k1 (x3_1 ++ [(⟨(rd_T37 l0 x9_1).f3, (⟨#[105, 110, 118, 97, 108, 105, 100, 32, 105, 110, 116, 101, 103, 101, 114]⟩ : ByteArray)⟩ : S62)]) l0 (l0.length : Int) (wrap64 (x9_1 + 1))) else (none)) else (if x3_1.length < 5864062014805 then (lexer_Errors.l0 k1 (x3_1 ++ [(⟨(rd_T37 l0 x9_1).f3, (⟨#[105, 110, 118, 97, 108, 105, 100, 32, 99, 104, 97, 114, 97, 99, 116, 101, 114]⟩ : ByteArray)⟩ : S62)]) l0 (l0.length : Int) (wrap64 (x9_1 + 1))) else (none))))) = some r := H
                  have A13 := Aside0.mk A130
                  clear A130
                  by_cases c14 : t352 = true
                  · subst c14
                    have H1 : (if x3_1.length < 5864062014805 then (lexer_Errors.l0 k1 (x3_1 ++ [(⟨(rd_T37 l0 x9_1).f3, (⟨#[105, 100, 101, 110, 116, 105, 102, 105, 101, 114, 32, 116, 111, 111, 32, 108, 111, 110, 103]⟩ : ByteArray)⟩ : S62)]) l0 (l0.length : Int) (wrap64 (x9_1 + 1))) else (none)) = some r := by rw [if_pos rfl] at H; exact H
                    clear H
                    have H := H1
                    clear H1
                    by_cases c15 : x3_1.length < 5864062014805
                    · rw [if_pos c15] at H
                      have LMc15 := Aside0.mk c15
                      clear c15
                      obtain ⟨y353, hy353⟩ : ∃ y_ : List (S62), y_ = (x3_1 ++ [(⟨(rd_T37 l0 x9_1).f3, (⟨#[105, 100, 101, 110, 116, 105, 102, 105, 101, 114, 32, 116, 111, 111, 32, 108, 111, 110, 103]⟩ : ByteArray)⟩ : S62)]) := ⟨_, rfl⟩
                      replace H : (lexer_Errors.l0 k1 y353 l0 (l0.length : Int) (wrap64 (x9_1 + 1))) = some r := by first | (rw [hy353]; with_reducible exact H) | (have H2_ := (Option.bind_some _ _).symm.trans H; rw [hy353]; with_reducible exact H2_) | (have H2_ := (Option.bind_some _ _).symm.trans H; with_reducible exact H2_) | with_reducible exact H | (rw [hy353]; exact H) | exact H
                      have Ny353 := Aside0.mk hy353
                      clear hy353
                      have H' := Aside0.mk H
                      clear H
                      have p347 : 0 ≤ (x9_1 : Int) := of_decide_eq_true (by first | (with_reducible assumption) | assumption)
                      have q347 : x9_1 < (l0.length : Int) := of_decide_eq_true (by first | (with_reducible assumption) | assumption)
                      obtain ⟨ad347, e347, hx347_0, hx347_1, hx347_2, hx347_3⟩ := at_T37 HR0.out x9_1 p347 q347
                      cases e347
                      replace hx347_0 := (HB.out.cell (World.block_lt_of_cell? w _ hx347_0)).trans hx347_0
                      replace hx347_1 := (HB.out.cell (World.block_lt_of_cell? w _ hx347_1)).trans hx347_1
                      replace hx347_2 := (HB.out.cell (World.block_lt_of_cell? w _ hx347_2)).trans hx347_2
                      replace hx347_3 := (HB.out.cell (World.block_lt_of_cell? w _ hx347_3)).trans hx347_3
                      replace p347 := eq_true p347
                      replace q347 := eq_true q347
                      go_wp2_with (first | ((with_reducible refine gate_dst (N := 5) rfl ?_); refine box_event ?hg (N := 5) ?hd (cs := #[.int .i64 0, .string (⟨#[]⟩ : ByteArray), .int .i16 0, .int .i64 0]) (t := 37) ?hr ?_; (case hd => rfl); (case hg => rfl); (case hr => first | (go_simp; done) | (go_simp; rfl)); intro gb348 hg w16 hbox hb; have n0_ := Aside0.mk (Kd.R_below (by (with_reducible repeat (first | apply Kd.R_alloc | apply Kd.R_drewN | apply Kd.R_drew)); exact HO_3.out) hb); have n1_ := Aside0.mk (below_step (by repeat (first | (with_reducible first | exact HB.out | apply below_alloc | apply pw_below_drewN | apply below_drew1) | exact HB.out)) hb); have n2_ := Aside0.mk (hbox); have n3_ := Aside0.mk ((by rw [hg]; exact (below_size (by repeat (first | (with_reducible first | exact HB.out | apply below_alloc | apply pw_below_drewN | apply below_drew1) | exact HB.out))) : w.heap.size ≤ gb348)); have n4_ := Aside0.mk ((by rw [hg]; exact (below_size (by repeat (first | (with_reducible first | exact HB.out | apply below_alloc | apply pw_below_drewN | apply below_drew1) | exact HB.out))) : w.heap.size ≤ gb348)); clear HO_3; clear HB; have HO_3 := n0_; have HB := n1_; have BK348 := n2_; have GW348 := n3_; have GE348 := n4_; clear n0_ n1_ n2_ n3_ n4_; clear hb hbox hg; have hcz17_0 : w16.cell? ⟨gb348, 0, none⟩ = some (.int .i64 0) := (blk_cell BK348.out 0).trans rfl; have hcz17_1 : w16.cell? ⟨gb348, 1, none⟩ = some (.string (⟨#[]⟩ : ByteArray)) := (blk_cell BK348.out 1).trans rfl; have hcz17_2 : w16.cell? ⟨gb348, 2, none⟩ = some (.int .i16 0) := (blk_cell BK348.out 2).trans rfl; have hcz17_3 : w16.cell? ⟨gb348, 3, none⟩ = some (.int .i64 0) := (blk_cell BK348.out 3).trans rfl; have hfz17_0 := blk_frozen BK348.out 0; have hfz17_1 := blk_frozen BK348.out 1; have hfz17_2 := blk_frozen BK348.out 2; have hfz17_3 := blk_frozen BK348.out 3; have p12 : 0 ≤ (0 : Int) := (by omega); have q12 : 0 < ((rd_T37 l0 x9_1).f1).size := (by have : (0 : Int) < (((rd_T37 l0 x9_1).f1).size : Int) := of_decide_eq_true (by first | (with_reducible assumption) | assumption); omega); have hx12 : ∀ h : 0 < ((rd_T37 l0 x9_1).f1).size, ((((rd_T37 l0 x9_1).f1)[0]'h).toNat : Int) = bt ((rd_T37 l0 x9_1).f1) 0 := bt_at ((rd_T37 l0 x9_1).f1) 0; clear p12; have qi12 : (0 < (((rd_T37 l0 x9_1).f1).size : Int)) = True := eq_true (of_decide_eq_true (by first | (with_reducible assumption) | assumption)); replace q12 := eq_true q12) | ((with_reducible refine gate_callee (f := 35) rfl ?_); refine goesL_ (some 24) rfl rfl Tryd.func35 (by kernel_rfl) rfl #[.int .u8 (bt ((rd_T37 l0 x9_1).f1) 0)] rfl (by (try simp only [List.map_toArray, List.map_cons, List.map_nil]); first | done | rfl | (simp only [List.length_drop, List.length_take]; rfl)) ?_; (with_reducible refine (lexer_letter.calls (bt ((rd_T37 l0 x9_1).f1) 0) true _ A13.out).mono ?_); rintro e w' ⟨rfl, ⟨nd, rfl⟩⟩; refine ⟨_, rfl, ?_⟩) | ((with_reducible refine gate_builtin (b := .append) (xs := #[.tmp 30, .tmp 35]) rfl ?_); at_builtin; refine Kd.R_append k62 (w0 := w) w.heap.size rfl (.tmp 30) (.tmp 35) 44 62 (.agg #[(.int .i64 0), (.string ⟨#[]⟩)]) 24 rfl Tryd.underlying44 info62 rfl (by decide) (by omega) u3 x3_1 (⟨(rd_T37 l0 x9_1).f3, (⟨#[105, 100, 101, 110, 116, 105, 102, 105, 101, 114, 32, 116, 111, 111, 32, 108, 111, 110, 103]⟩ : ByteArray)⟩ : S62) [.int .i64 ((rd_T37 l0 x9_1).f3), .string (⟨#[105, 100, 101, 110, 116, 105, 102, 105, 101, 114, 32, 116, 111, 111, 32, 108, 111, 110, 103]⟩ : ByteArray)] (fun _ => True) (fun _ => False) rfl (by first | (go_simp; done) | (go_simp; rfl)) ?aP (fun _ hk => hk.elim) ?aF ?aO ?aB ?aS ?aL ?_; (case aP => exact k62_mkM _ _ _ (⟨(rd_T37 l0 x9_1).f3, (⟨#[105, 100, 101, 110, 116, 105, 102, 105, 101, 114, 32, 116, 111, 111, 32, 108, 111, 110, 103]⟩ : ByteArray)⟩ : S62)); (case aB => exact (by repeat (first | (with_reducible first | exact HB.out | apply below_alloc | apply pw_below_drewN | apply below_drew1 | refine below_set ?_ GE348.out) | exact HB.out))); (case aF => exact (fun _ _ => trivial)); (case aO => exact (by (with_reducible repeat (first | apply Kd.R_alloc | apply Kd.R_drewN | apply Kd.R_drew)); exact Kd.R_mono (Kd.R_far (p := ⟨gb348, 3, none⟩) (Kd.R_far (p := ⟨gb348, 2, none⟩) (Kd.R_far (p := ⟨gb348, 1, none⟩) (Kd.R_far (p := ⟨gb348, 0, none⟩) (Kd.R_types HO_3.out BK348.out (by decide)) (fun _ hk => hk.2) (.int .i64 ((rd_T37 l0 x9_1).f0))) (fun _ hk => hk.2) (.string ((rd_T37 l0 x9_1).f1))) (fun _ hk => hk.2) (.int .i16 ((rd_T37 l0 x9_1).f2))) (fun _ hk => hk.2) (.int .i64 ((rd_T37 l0 x9_1).f3))) (fun _ hk => trivial))); (case aS => exact (below_size (by repeat (first | (with_reducible first | exact HB.out | apply below_alloc | apply pw_below_drewN | apply below_drew1 | refine below_set ?_ GE348.out) | exact HB.out)))); (case aL => have := LMc15.out; omega); intro v354 w18 ho hb hg hat; rw [← Ny353.out] at ho; have n0_ := Aside0.mk (blk_grown (g := gb348) (o := .cells #[.int .i64 ((rd_T37 l0 x9_1).f0), .string ((rd_T37 l0 x9_1).f1), .int .i16 ((rd_T37 l0 x9_1).f2), .int .i64 ((rd_T37 l0 x9_1).f3)] 37 (0, 0)) (by (with_reducible repeat (first | refine blk_drewN ?_ _ | refine blk_drew ?_ | refine blk_alloc ?_ _)); refine blk_put (cs := #[.int .i64 ((rd_T37 l0 x9_1).f0), .string ((rd_T37 l0 x9_1).f1), .int .i16 ((rd_T37 l0 x9_1).f2), .int .i64 0]) ?_ 3 _ rfl; (with_reducible repeat (first | refine blk_drewN ?_ _ | refine blk_drew ?_ | refine blk_alloc ?_ _)); refine blk_put (cs := #[.int .i64 ((rd_T37 l0 x9_1).f0), .string ((rd_T37 l0 x9_1).f1), .int .i16 0, .int .i64 0]) ?_ 2 _ rfl; (with_reducible repeat (first | refine blk_drewN ?_ _ | refine blk_drew ?_ | refine blk_alloc ?_ _)); refine blk_put (cs := #[.int .i64 ((rd_T37 l0 x9_1).f0), .string (⟨#[]⟩ : ByteArray), .int .i16 0, .int .i64 0]) ?_ 1 _ rfl; (with_reducible repeat (first | refine blk_drewN ?_ _ | refine blk_drew ?_ | refine blk_alloc ?_ _)); refine blk_put (cs := #[.int .i64 0, .string (⟨#[]⟩ : ByteArray), .int .i16 0, .int .i64 0]) ?_ 0 _ rfl; (with_reducible repeat (first | refine blk_drewN ?_ _ | refine blk_drew ?_ | refine blk_alloc ?_ _)); exact BK348.out) hg (Kd.R_ne HO_3.out BK348.out (by decide))); have n1_ := Aside0.mk (hb); have n2_ := Aside0.mk (ho); clear BK348; clear HB; clear HO_3; have BK348 := n0_; have HB := n1_; have HO355 := n2_; clear n0_ n1_ n2_; clear ho hb hg hat))
                      go_roundg k1
                      case measure => have := HK1.out; omega
                      case rel => exact ⟨(y353), (wrap64 (x9_1 + 1)), (by first | rfl | (simp; done) | (simp [*]; done)), H', ⟨by have := HK1.out; omega⟩, ⟨by (with_reducible repeat (first | apply Kd.R_alloc | apply Kd.R_drewN | apply Kd.R_drew)); exact HO355.out⟩, ⟨by repeat (first | (with_reducible first | exact HB.out | apply below_alloc | apply pw_below_drewN | apply below_drew1 | refine below_set ?_ GE348.out) | exact HB.out)⟩⟩
                    · rw [if_neg c15] at H
                      exact absurd H (by simp)
                  · replace c14 := Bool.eq_false_iff.mpr c14
                    subst c14
                    have H1 : ((lexer_digit.f (bt ((rd_T37 l0 x9_1).f1) 0)).bind fun t356 => (if t356 = true then (if x3_1.length < 5864062014805 then (lexer_Errors.l0 k1 (x3_1 ++ [(⟨(rd_T37 l0 x9_1).f3, (⟨#[105, 110, 118, 97, 108, 105, 100, 32, 105, 110, 116, 101, 103, 101, 114]⟩ : ByteArray)⟩ : S62)]) l0 (l0.length : Int) (wrap64 (x9_1 + 1))) else (none)) else (if x3_1.length < 5864062014805 then (lexer_Errors.l0 k1 (x3_1 ++ [(⟨(rd_T37 l0 x9_1).f3, (⟨#[105, 110, 118, 97, 108, 105, 100, 32, 99, 104, 97, 114, 97, 99, 116, 101, 114]⟩ : ByteArray)⟩ : S62)]) l0 (l0.length : Int) (wrap64 (x9_1 + 1))) else (none)))) = some r := by rw [if_neg (show ¬ (false = true) by decide)] at H; exact H
                    clear H
                    have H := H1
                    clear H1
                    replace H := Option.bind_eq_some_iff.mp H
                    obtain ⟨t356, A200, H⟩ := H
                    replace H : (if t356 = true then (if x3_1.length < 5864062014805 then (lexer_Errors.l0 k1 (x3_1 ++ [(⟨(rd_T37 l0 x9_1).f3, (⟨#[105, 110, 118, 97, 108, 105, 100, 32, 105, 110, 116, 101, 103, 101, 114]⟩ : ByteArray)⟩ : S62)]) l0 (l0.length : Int) (wrap64 (x9_1 + 1))) else (none)) else (if x3_1.length < 5864062014805 then (lexer_Errors.l0 k1 (x3_1 ++ [(⟨(rd_T37 l0 x9_1).f3, (⟨#[105, 110, 118, 97, 108, 105, 100, 32, 99, 104, 97, 114, 97, 99, 116, 101, 114]⟩ : ByteArray)⟩ : S62)]) l0 (l0.length : Int) (wrap64 (x9_1 + 1))) else (none))) = some r := H
                    have A20 := Aside0.mk A200
                    clear A200
                    by_cases c21 : t356 = true
                    · subst c21
                      have H1 : (if x3_1.length < 5864062014805 then (lexer_Errors.l0 k1 (x3_1 ++ [(⟨(rd_T37 l0 x9_1).f3, (⟨#[105, 110, 118, 97, 108, 105, 100, 32, 105, 110, 116, 101, 103, 101, 114]⟩ : ByteArray)⟩ : S62)]) l0 (l0.length : Int) (wrap64 (x9_1 + 1))) else (none)) = some r := by rw [if_pos rfl] at H; exact H
                      clear H
                      have H := H1
                      clear H1
                      by_cases c22 : x3_1.length < 5864062014805
                      · rw [if_pos c22] at H
                        have LMc22 := Aside0.mk c22
                        clear c22
                        obtain ⟨y357, hy357⟩ : ∃ y_ : List (S62), y_ = (x3_1 ++ [(⟨(rd_T37 l0 x9_1).f3, (⟨#[105, 110, 118, 97, 108, 105, 100, 32, 105, 110, 116, 101, 103, 101, 114]⟩ : ByteArray)⟩ : S62)]) := ⟨_, rfl⟩
                        replace H : (lexer_Errors.l0 k1 y357 l0 (l0.length : Int) (wrap64 (x9_1 + 1))) = some r := by first | (rw [hy357]; with_reducible exact H) | (have H2_ := (Option.bind_some _ _).symm.trans H; rw [hy357]; with_reducible exact H2_) | (have H2_ := (Option.bind_some _ _).symm.trans H; with_reducible exact H2_) | with_reducible exact H | (rw [hy357]; exact H) | exact H
                        have Ny357 := Aside0.mk hy357
                        clear hy357
                        have H' := Aside0.mk H
                        clear H
                        have p347 : 0 ≤ (x9_1 : Int) := of_decide_eq_true (by first | (with_reducible assumption) | assumption)
                        have q347 : x9_1 < (l0.length : Int) := of_decide_eq_true (by first | (with_reducible assumption) | assumption)
                        obtain ⟨ad347, e347, hx347_0, hx347_1, hx347_2, hx347_3⟩ := at_T37 HR0.out x9_1 p347 q347
                        cases e347
                        replace hx347_0 := (HB.out.cell (World.block_lt_of_cell? w _ hx347_0)).trans hx347_0
                        replace hx347_1 := (HB.out.cell (World.block_lt_of_cell? w _ hx347_1)).trans hx347_1
                        replace hx347_2 := (HB.out.cell (World.block_lt_of_cell? w _ hx347_2)).trans hx347_2
                        replace hx347_3 := (HB.out.cell (World.block_lt_of_cell? w _ hx347_3)).trans hx347_3
                        replace p347 := eq_true p347
                        replace q347 := eq_true q347
                        go_wp2_with (first | ((with_reducible refine gate_dst (N := 5) rfl ?_); refine box_event ?hg (N := 5) ?hd (cs := #[.int .i64 0, .string (⟨#[]⟩ : ByteArray), .int .i16 0, .int .i64 0]) (t := 37) ?hr ?_; (case hd => rfl); (case hg => rfl); (case hr => first | (go_simp; done) | (go_simp; rfl)); intro gb348 hg w23 hbox hb; have n0_ := Aside0.mk (Kd.R_below (by (with_reducible repeat (first | apply Kd.R_alloc | apply Kd.R_drewN | apply Kd.R_drew)); exact HO_3.out) hb); have n1_ := Aside0.mk (below_step (by repeat (first | (with_reducible first | exact HB.out | apply below_alloc | apply pw_below_drewN | apply below_drew1) | exact HB.out)) hb); have n2_ := Aside0.mk (hbox); have n3_ := Aside0.mk ((by rw [hg]; exact (below_size (by repeat (first | (with_reducible first | exact HB.out | apply below_alloc | apply pw_below_drewN | apply below_drew1) | exact HB.out))) : w.heap.size ≤ gb348)); have n4_ := Aside0.mk ((by rw [hg]; exact (below_size (by repeat (first | (with_reducible first | exact HB.out | apply below_alloc | apply pw_below_drewN | apply below_drew1) | exact HB.out))) : w.heap.size ≤ gb348)); clear HO_3; clear HB; have HO_3 := n0_; have HB := n1_; have BK348 := n2_; have GW348 := n3_; have GE348 := n4_; clear n0_ n1_ n2_ n3_ n4_; clear hb hbox hg; have hcz24_0 : w23.cell? ⟨gb348, 0, none⟩ = some (.int .i64 0) := (blk_cell BK348.out 0).trans rfl; have hcz24_1 : w23.cell? ⟨gb348, 1, none⟩ = some (.string (⟨#[]⟩ : ByteArray)) := (blk_cell BK348.out 1).trans rfl; have hcz24_2 : w23.cell? ⟨gb348, 2, none⟩ = some (.int .i16 0) := (blk_cell BK348.out 2).trans rfl; have hcz24_3 : w23.cell? ⟨gb348, 3, none⟩ = some (.int .i64 0) := (blk_cell BK348.out 3).trans rfl; have hfz24_0 := blk_frozen BK348.out 0; have hfz24_1 := blk_frozen BK348.out 1; have hfz24_2 := blk_frozen BK348.out 2; have hfz24_3 := blk_frozen BK348.out 3; have p12 : 0 ≤ (0 : Int) := (by omega); have q12 : 0 < ((rd_T37 l0 x9_1).f1).size := (by have : (0 : Int) < (((rd_T37 l0 x9_1).f1).size : Int) := of_decide_eq_true (by first | (with_reducible assumption) | assumption); omega); have hx12 : ∀ h : 0 < ((rd_T37 l0 x9_1).f1).size, ((((rd_T37 l0 x9_1).f1)[0]'h).toNat : Int) = bt ((rd_T37 l0 x9_1).f1) 0 := bt_at ((rd_T37 l0 x9_1).f1) 0; clear p12; have qi12 : (0 < (((rd_T37 l0 x9_1).f1).size : Int)) = True := eq_true (of_decide_eq_true (by first | (with_reducible assumption) | assumption)); replace q12 := eq_true q12) | ((with_reducible refine gate_callee (f := 35) rfl ?_); refine goesL_ (some 24) rfl rfl Tryd.func35 (by kernel_rfl) rfl #[.int .u8 (bt ((rd_T37 l0 x9_1).f1) 0)] rfl (by (try simp only [List.map_toArray, List.map_cons, List.map_nil]); first | done | rfl | (simp only [List.length_drop, List.length_take]; rfl)) ?_; (with_reducible refine (lexer_letter.calls (bt ((rd_T37 l0 x9_1).f1) 0) false _ A13.out).mono ?_); rintro e w' ⟨rfl, ⟨nd, rfl⟩⟩; refine ⟨_, rfl, ?_⟩; have p19 : 0 ≤ (0 : Int) := (by omega); have q19 : 0 < ((rd_T37 l0 x9_1).f1).size := (by have : (0 : Int) < (((rd_T37 l0 x9_1).f1).size : Int) := of_decide_eq_true (by first | (with_reducible assumption) | assumption); omega); have hx19 : ∀ h : 0 < ((rd_T37 l0 x9_1).f1).size, ((((rd_T37 l0 x9_1).f1)[0]'h).toNat : Int) = bt ((rd_T37 l0 x9_1).f1) 0 := bt_at ((rd_T37 l0 x9_1).f1) 0; clear p19; have qi19 : (0 < (((rd_T37 l0 x9_1).f1).size : Int)) = True := eq_true (of_decide_eq_true (by first | (with_reducible assumption) | assumption)); replace q19 := eq_true q19) | ((with_reducible refine gate_callee (f := 36) rfl ?_); refine goesL_ (some 29) rfl rfl Tryd.func36 (by kernel_rfl) rfl #[.int .u8 (bt ((rd_T37 l0 x9_1).f1) 0)] rfl (by (try simp only [List.map_toArray, List.map_cons, List.map_nil]); first | done | rfl | (simp only [List.length_drop, List.length_take]; rfl)) ?_; (with_reducible refine (lexer_digit.calls (bt ((rd_T37 l0 x9_1).f1) 0) true _ A20.out).mono ?_); rintro e w' ⟨rfl, ⟨nd, rfl⟩⟩; refine ⟨_, rfl, ?_⟩) | ((with_reducible refine gate_builtin (b := .append) (xs := #[.tmp 30, .tmp 35]) rfl ?_); at_builtin; refine Kd.R_append k62 (w0 := w) w.heap.size rfl (.tmp 30) (.tmp 35) 44 62 (.agg #[(.int .i64 0), (.string ⟨#[]⟩)]) 24 rfl Tryd.underlying44 info62 rfl (by decide) (by omega) u3 x3_1 (⟨(rd_T37 l0 x9_1).f3, (⟨#[105, 110, 118, 97, 108, 105, 100, 32, 105, 110, 116, 101, 103, 101, 114]⟩ : ByteArray)⟩ : S62) [.int .i64 ((rd_T37 l0 x9_1).f3), .string (⟨#[105, 110, 118, 97, 108, 105, 100, 32, 105, 110, 116, 101, 103, 101, 114]⟩ : ByteArray)] (fun _ => True) (fun _ => False) rfl (by first | (go_simp; done) | (go_simp; rfl)) ?aP (fun _ hk => hk.elim) ?aF ?aO ?aB ?aS ?aL ?_; (case aP => exact k62_mkM _ _ _ (⟨(rd_T37 l0 x9_1).f3, (⟨#[105, 110, 118, 97, 108, 105, 100, 32, 105, 110, 116, 101, 103, 101, 114]⟩ : ByteArray)⟩ : S62)); (case aB => exact (by repeat (first | (with_reducible first | exact HB.out | apply below_alloc | apply pw_below_drewN | apply below_drew1 | refine below_set ?_ GE348.out) | exact HB.out))); (case aF => exact (fun _ _ => trivial)); (case aO => exact (by (with_reducible repeat (first | apply Kd.R_alloc | apply Kd.R_drewN | apply Kd.R_drew)); exact Kd.R_mono (Kd.R_far (p := ⟨gb348, 3, none⟩) (Kd.R_far (p := ⟨gb348, 2, none⟩) (Kd.R_far (p := ⟨gb348, 1, none⟩) (Kd.R_far (p := ⟨gb348, 0, none⟩) (Kd.R_types HO_3.out BK348.out (by decide)) (fun _ hk => hk.2) (.int .i64 ((rd_T37 l0 x9_1).f0))) (fun _ hk => hk.2) (.string ((rd_T37 l0 x9_1).f1))) (fun _ hk => hk.2) (.int .i16 ((rd_T37 l0 x9_1).f2))) (fun _ hk => hk.2) (.int .i64 ((rd_T37 l0 x9_1).f3))) (fun _ hk => trivial))); (case aS => exact (below_size (by repeat (first | (with_reducible first | exact HB.out | apply below_alloc | apply pw_below_drewN | apply below_drew1 | refine below_set ?_ GE348.out) | exact HB.out)))); (case aL => have := LMc22.out; omega); intro v358 w25 ho hb hg hat; rw [← Ny357.out] at ho; have n0_ := Aside0.mk (blk_grown (g := gb348) (o := .cells #[.int .i64 ((rd_T37 l0 x9_1).f0), .string ((rd_T37 l0 x9_1).f1), .int .i16 ((rd_T37 l0 x9_1).f2), .int .i64 ((rd_T37 l0 x9_1).f3)] 37 (0, 0)) (by (with_reducible repeat (first | refine blk_drewN ?_ _ | refine blk_drew ?_ | refine blk_alloc ?_ _)); refine blk_put (cs := #[.int .i64 ((rd_T37 l0 x9_1).f0), .string ((rd_T37 l0 x9_1).f1), .int .i16 ((rd_T37 l0 x9_1).f2), .int .i64 0]) ?_ 3 _ rfl; (with_reducible repeat (first | refine blk_drewN ?_ _ | refine blk_drew ?_ | refine blk_alloc ?_ _)); refine blk_put (cs := #[.int .i64 ((rd_T37 l0 x9_1).f0), .string ((rd_T37 l0 x9_1).f1), .int .i16 0, .int .i64 0]) ?_ 2 _ rfl; (with_reducible repeat (first | refine blk_drewN ?_ _ | refine blk_drew ?_ | refine blk_alloc ?_ _)); refine blk_put (cs := #[.int .i64 ((rd_T37 l0 x9_1).f0), .string (⟨#[]⟩ : ByteArray), .int .i16 0, .int .i64 0]) ?_ 1 _ rfl; (with_reducible repeat (first | refine blk_drewN ?_ _ | refine blk_drew ?_ | refine blk_alloc ?_ _)); refine blk_put (cs := #[.int .i64 0, .string (⟨#[]⟩ : ByteArray), .int .i16 0, .int .i64 0]) ?_ 0 _ rfl; (with_reducible repeat (first | refine blk_drewN ?_ _ | refine blk_drew ?_ | refine blk_alloc ?_ _)); exact BK348.out) hg (Kd.R_ne HO_3.out BK348.out (by decide))); have n1_ := Aside0.mk (hb); have n2_ := Aside0.mk (ho); clear BK348; clear HB; clear HO_3; have BK348 := n0_; have HB := n1_; have HO359 := n2_; clear n0_ n1_ n2_; clear ho hb hg hat))
                        go_roundg k1
                        case measure => have := HK1.out; omega
                        case rel => exact ⟨(y357), (wrap64 (x9_1 + 1)), (by first | rfl | (simp; done) | (simp [*]; done)), H', ⟨by have := HK1.out; omega⟩, ⟨by (with_reducible repeat (first | apply Kd.R_alloc | apply Kd.R_drewN | apply Kd.R_drew)); exact HO359.out⟩, ⟨by repeat (first | (with_reducible first | exact HB.out | apply below_alloc | apply pw_below_drewN | apply below_drew1 | refine below_set ?_ GE348.out) | exact HB.out)⟩⟩
                      · rw [if_neg c22] at H
                        exact absurd H (by simp)
                    · replace c21 := Bool.eq_false_iff.mpr c21
                      subst c21
                      have H1 : (if x3_1.length < 5864062014805 then (lexer_Errors.l0 k1 (x3_1 ++ [(⟨(rd_T37 l0 x9_1).f3, (⟨#[105, 110, 118, 97, 108, 105, 100, 32, 99, 104, 97, 114, 97, 99, 116, 101, 114]⟩ : ByteArray)⟩ : S62)]) l0 (l0.length : Int) (wrap64 (x9_1 + 1))) else (none)) = some r := by rw [if_neg (show ¬ (false = true) by decide)] at H; exact H
                      clear H
                      have H := H1
                      clear H1
                      by_cases c26 : x3_1.length < 5864062014805
                      · rw [if_pos c26] at H
                        have LMc26 := Aside0.mk c26
                        clear c26
                        obtain ⟨y360, hy360⟩ : ∃ y_ : List (S62), y_ = (x3_1 ++ [(⟨(rd_T37 l0 x9_1).f3, (⟨#[105, 110, 118, 97, 108, 105, 100, 32, 99, 104, 97, 114, 97, 99, 116, 101, 114]⟩ : ByteArray)⟩ : S62)]) := ⟨_, rfl⟩
                        replace H : (lexer_Errors.l0 k1 y360 l0 (l0.length : Int) (wrap64 (x9_1 + 1))) = some r := by first | (rw [hy360]; with_reducible exact H) | (have H2_ := (Option.bind_some _ _).symm.trans H; rw [hy360]; with_reducible exact H2_) | (have H2_ := (Option.bind_some _ _).symm.trans H; with_reducible exact H2_) | with_reducible exact H | (rw [hy360]; exact H) | exact H
                        have Ny360 := Aside0.mk hy360
                        clear hy360
                        have H' := Aside0.mk H
                        clear H
                        have p347 : 0 ≤ (x9_1 : Int) := of_decide_eq_true (by first | (with_reducible assumption) | assumption)
                        have q347 : x9_1 < (l0.length : Int) := of_decide_eq_true (by first | (with_reducible assumption) | assumption)
                        obtain ⟨ad347, e347, hx347_0, hx347_1, hx347_2, hx347_3⟩ := at_T37 HR0.out x9_1 p347 q347
                        cases e347
                        replace hx347_0 := (HB.out.cell (World.block_lt_of_cell? w _ hx347_0)).trans hx347_0
                        replace hx347_1 := (HB.out.cell (World.block_lt_of_cell? w _ hx347_1)).trans hx347_1
                        replace hx347_2 := (HB.out.cell (World.block_lt_of_cell? w _ hx347_2)).trans hx347_2
                        replace hx347_3 := (HB.out.cell (World.block_lt_of_cell? w _ hx347_3)).trans hx347_3
                        replace p347 := eq_true p347
                        replace q347 := eq_true q347
                        go_wp2_with (first | ((with_reducible refine gate_dst (N := 5) rfl ?_); refine box_event ?hg (N := 5) ?hd (cs := #[.int .i64 0, .string (⟨#[]⟩ : ByteArray), .int .i16 0, .int .i64 0]) (t := 37) ?hr ?_; (case hd => rfl); (case hg => rfl); (case hr => first | (go_simp; done) | (go_simp; rfl)); intro gb348 hg w27 hbox hb; have n0_ := Aside0.mk (Kd.R_below (by (with_reducible repeat (first | apply Kd.R_alloc | apply Kd.R_drewN | apply Kd.R_drew)); exact HO_3.out) hb); have n1_ := Aside0.mk (below_step (by repeat (first | (with_reducible first | exact HB.out | apply below_alloc | apply pw_below_drewN | apply below_drew1) | exact HB.out)) hb); have n2_ := Aside0.mk (hbox); have n3_ := Aside0.mk ((by rw [hg]; exact (below_size (by repeat (first | (with_reducible first | exact HB.out | apply below_alloc | apply pw_below_drewN | apply below_drew1) | exact HB.out))) : w.heap.size ≤ gb348)); have n4_ := Aside0.mk ((by rw [hg]; exact (below_size (by repeat (first | (with_reducible first | exact HB.out | apply below_alloc | apply pw_below_drewN | apply below_drew1) | exact HB.out))) : w.heap.size ≤ gb348)); clear HO_3; clear HB; have HO_3 := n0_; have HB := n1_; have BK348 := n2_; have GW348 := n3_; have GE348 := n4_; clear n0_ n1_ n2_ n3_ n4_; clear hb hbox hg; have hcz28_0 : w27.cell? ⟨gb348, 0, none⟩ = some (.int .i64 0) := (blk_cell BK348.out 0).trans rfl; have hcz28_1 : w27.cell? ⟨gb348, 1, none⟩ = some (.string (⟨#[]⟩ : ByteArray)) := (blk_cell BK348.out 1).trans rfl; have hcz28_2 : w27.cell? ⟨gb348, 2, none⟩ = some (.int .i16 0) := (blk_cell BK348.out 2).trans rfl; have hcz28_3 : w27.cell? ⟨gb348, 3, none⟩ = some (.int .i64 0) := (blk_cell BK348.out 3).trans rfl; have hfz28_0 := blk_frozen BK348.out 0; have hfz28_1 := blk_frozen BK348.out 1; have hfz28_2 := blk_frozen BK348.out 2; have hfz28_3 := blk_frozen BK348.out 3; have p12 : 0 ≤ (0 : Int) := (by omega); have q12 : 0 < ((rd_T37 l0 x9_1).f1).size := (by have : (0 : Int) < (((rd_T37 l0 x9_1).f1).size : Int) := of_decide_eq_true (by first | (with_reducible assumption) | assumption); omega); have hx12 : ∀ h : 0 < ((rd_T37 l0 x9_1).f1).size, ((((rd_T37 l0 x9_1).f1)[0]'h).toNat : Int) = bt ((rd_T37 l0 x9_1).f1) 0 := bt_at ((rd_T37 l0 x9_1).f1) 0; clear p12; have qi12 : (0 < (((rd_T37 l0 x9_1).f1).size : Int)) = True := eq_true (of_decide_eq_true (by first | (with_reducible assumption) | assumption)); replace q12 := eq_true q12) | ((with_reducible refine gate_callee (f := 35) rfl ?_); refine goesL_ (some 24) rfl rfl Tryd.func35 (by kernel_rfl) rfl #[.int .u8 (bt ((rd_T37 l0 x9_1).f1) 0)] rfl (by (try simp only [List.map_toArray, List.map_cons, List.map_nil]); first | done | rfl | (simp only [List.length_drop, List.length_take]; rfl)) ?_; (with_reducible refine (lexer_letter.calls (bt ((rd_T37 l0 x9_1).f1) 0) false _ A13.out).mono ?_); rintro e w' ⟨rfl, ⟨nd, rfl⟩⟩; refine ⟨_, rfl, ?_⟩; have p19 : 0 ≤ (0 : Int) := (by omega); have q19 : 0 < ((rd_T37 l0 x9_1).f1).size := (by have : (0 : Int) < (((rd_T37 l0 x9_1).f1).size : Int) := of_decide_eq_true (by first | (with_reducible assumption) | assumption); omega); have hx19 : ∀ h : 0 < ((rd_T37 l0 x9_1).f1).size, ((((rd_T37 l0 x9_1).f1)[0]'h).toNat : Int) = bt ((rd_T37 l0 x9_1).f1) 0 := bt_at ((rd_T37 l0 x9_1).f1) 0; clear p19; have qi19 : (0 < (((rd_T37 l0 x9_1).f1).size : Int)) = True := eq_true (of_decide_eq_true (by first | (with_reducible assumption) | assumption)); replace q19 := eq_true q19) | ((with_reducible refine gate_callee (f := 36) rfl ?_); refine goesL_ (some 29) rfl rfl Tryd.func36 (by kernel_rfl) rfl #[.int .u8 (bt ((rd_T37 l0 x9_1).f1) 0)] rfl (by (try simp only [List.map_toArray, List.map_cons, List.map_nil]); first | done | rfl | (simp only [List.length_drop, List.length_take]; rfl)) ?_; (with_reducible refine (lexer_digit.calls (bt ((rd_T37 l0 x9_1).f1) 0) false _ A20.out).mono ?_); rintro e w' ⟨rfl, ⟨nd, rfl⟩⟩; refine ⟨_, rfl, ?_⟩) | ((with_reducible refine gate_builtin (b := .append) (xs := #[.tmp 30, .tmp 35]) rfl ?_); at_builtin; refine Kd.R_append k62 (w0 := w) w.heap.size rfl (.tmp 30) (.tmp 35) 44 62 (.agg #[(.int .i64 0), (.string ⟨#[]⟩)]) 24 rfl Tryd.underlying44 info62 rfl (by decide) (by omega) u3 x3_1 (⟨(rd_T37 l0 x9_1).f3, (⟨#[105, 110, 118, 97, 108, 105, 100, 32, 99, 104, 97, 114, 97, 99, 116, 101, 114]⟩ : ByteArray)⟩ : S62) [.int .i64 ((rd_T37 l0 x9_1).f3), .string (⟨#[105, 110, 118, 97, 108, 105, 100, 32, 99, 104, 97, 114, 97, 99, 116, 101, 114]⟩ : ByteArray)] (fun _ => True) (fun _ => False) rfl (by first | (go_simp; done) | (go_simp; rfl)) ?aP (fun _ hk => hk.elim) ?aF ?aO ?aB ?aS ?aL ?_; (case aP => exact k62_mkM _ _ _ (⟨(rd_T37 l0 x9_1).f3, (⟨#[105, 110, 118, 97, 108, 105, 100, 32, 99, 104, 97, 114, 97, 99, 116, 101, 114]⟩ : ByteArray)⟩ : S62)); (case aB => exact (by repeat (first | (with_reducible first | exact HB.out | apply below_alloc | apply pw_below_drewN | apply below_drew1 | refine below_set ?_ GE348.out) | exact HB.out))); (case aF => exact (fun _ _ => trivial)); (case aO => exact (by (with_reducible repeat (first | apply Kd.R_alloc | apply Kd.R_drewN | apply Kd.R_drew)); exact Kd.R_mono (Kd.R_far (p := ⟨gb348, 3, none⟩) (Kd.R_far (p := ⟨gb348, 2, none⟩) (Kd.R_far (p := ⟨gb348, 1, none⟩) (Kd.R_far (p := ⟨gb348, 0, none⟩) (Kd.R_types HO_3.out BK348.out (by decide)) (fun _ hk => hk.2) (.int .i64 ((rd_T37 l0 x9_1).f0))) (fun _ hk => hk.2) (.string ((rd_T37 l0 x9_1).f1))) (fun _ hk => hk.2) (.int .i16 ((rd_T37 l0 x9_1).f2))) (fun _ hk => hk.2) (.int .i64 ((rd_T37 l0 x9_1).f3))) (fun _ hk => trivial))); (case aS => exact (below_size (by repeat (first | (with_reducible first | exact HB.out | apply below_alloc | apply pw_below_drewN | apply below_drew1 | refine below_set ?_ GE348.out) | exact HB.out)))); (case aL => have := LMc26.out; omega); intro v361 w29 ho hb hg hat; rw [← Ny360.out] at ho; have n0_ := Aside0.mk (blk_grown (g := gb348) (o := .cells #[.int .i64 ((rd_T37 l0 x9_1).f0), .string ((rd_T37 l0 x9_1).f1), .int .i16 ((rd_T37 l0 x9_1).f2), .int .i64 ((rd_T37 l0 x9_1).f3)] 37 (0, 0)) (by (with_reducible repeat (first | refine blk_drewN ?_ _ | refine blk_drew ?_ | refine blk_alloc ?_ _)); refine blk_put (cs := #[.int .i64 ((rd_T37 l0 x9_1).f0), .string ((rd_T37 l0 x9_1).f1), .int .i16 ((rd_T37 l0 x9_1).f2), .int .i64 0]) ?_ 3 _ rfl; (with_reducible repeat (first | refine blk_drewN ?_ _ | refine blk_drew ?_ | refine blk_alloc ?_ _)); refine blk_put (cs := #[.int .i64 ((rd_T37 l0 x9_1).f0), .string ((rd_T37 l0 x9_1).f1), .int .i16 0, .int .i64 0]) ?_ 2 _ rfl; (with_reducible repeat (first | refine blk_drewN ?_ _ | refine blk_drew ?_ | refine blk_alloc ?_ _)); refine blk_put (cs := #[.int .i64 ((rd_T37 l0 x9_1).f0), .string (⟨#[]⟩ : ByteArray), .int .i16 0, .int .i64 0]) ?_ 1 _ rfl; (with_reducible repeat (first | refine blk_drewN ?_ _ | refine blk_drew ?_ | refine blk_alloc ?_ _)); refine blk_put (cs := #[.int .i64 0, .string (⟨#[]⟩ : ByteArray), .int .i16 0, .int .i64 0]) ?_ 0 _ rfl; (with_reducible repeat (first | refine blk_drewN ?_ _ | refine blk_drew ?_ | refine blk_alloc ?_ _)); exact BK348.out) hg (Kd.R_ne HO_3.out BK348.out (by decide))); have n1_ := Aside0.mk (hb); have n2_ := Aside0.mk (ho); clear BK348; clear HB; clear HO_3; have BK348 := n0_; have HB := n1_; have HO362 := n2_; clear n0_ n1_ n2_; clear ho hb hg hat))
                        go_roundg k1
                        case measure => have := HK1.out; omega
                        case rel => exact ⟨(y360), (wrap64 (x9_1 + 1)), (by first | rfl | (simp; done) | (simp [*]; done)), H', ⟨by have := HK1.out; omega⟩, ⟨by (with_reducible repeat (first | apply Kd.R_alloc | apply Kd.R_drewN | apply Kd.R_drew)); exact HO362.out⟩, ⟨by repeat (first | (with_reducible first | exact HB.out | apply below_alloc | apply pw_below_drewN | apply below_drew1 | refine below_set ?_ GE348.out) | exact HB.out)⟩⟩
                      · rw [if_neg c26] at H
                        exact absurd H (by simp)
                · rw [if_neg c11] at H
                  exact absurd H (by simp)
            · rw [if_neg c5] at H
              have c5b0 : (((rd_T37 l0 x9_1).f0) == 5) = false := beq_eq_false_iff_ne.mpr c5
              have c5b1 : (((rd_T37 l0 x9_1).f0) != 5) = true := bne_iff_ne.mpr c5
              have H' := Aside0.mk H
              clear H
              have p347 : 0 ≤ (x9_1 : Int) := of_decide_eq_true (by first | (with_reducible assumption) | assumption)
              have q347 : x9_1 < (l0.length : Int) := of_decide_eq_true (by first | (with_reducible assumption) | assumption)
              obtain ⟨ad347, e347, hx347_0, hx347_1, hx347_2, hx347_3⟩ := at_T37 HR0.out x9_1 p347 q347
              cases e347
              replace hx347_0 := (HB.out.cell (World.block_lt_of_cell? w _ hx347_0)).trans hx347_0
              replace hx347_1 := (HB.out.cell (World.block_lt_of_cell? w _ hx347_1)).trans hx347_1
              replace hx347_2 := (HB.out.cell (World.block_lt_of_cell? w _ hx347_2)).trans hx347_2
              replace hx347_3 := (HB.out.cell (World.block_lt_of_cell? w _ hx347_3)).trans hx347_3
              replace p347 := eq_true p347
              replace q347 := eq_true q347
              go_wp2_with (first | ((with_reducible refine gate_dst (N := 5) rfl ?_); refine box_event ?hg (N := 5) ?hd (cs := #[.int .i64 0, .string (⟨#[]⟩ : ByteArray), .int .i16 0, .int .i64 0]) (t := 37) ?hr ?_; (case hd => rfl); (case hg => rfl); (case hr => first | (go_simp; done) | (go_simp; rfl)); intro gb348 hg w30 hbox hb; have n0_ := Aside0.mk (Kd.R_below (by (with_reducible repeat (first | apply Kd.R_alloc | apply Kd.R_drewN | apply Kd.R_drew)); exact HO_3.out) hb); have n1_ := Aside0.mk (below_step (by repeat (first | (with_reducible first | exact HB.out | apply below_alloc | apply pw_below_drewN | apply below_drew1) | exact HB.out)) hb); have n2_ := Aside0.mk (hbox); have n3_ := Aside0.mk ((by rw [hg]; exact (below_size (by repeat (first | (with_reducible first | exact HB.out | apply below_alloc | apply pw_below_drewN | apply below_drew1) | exact HB.out))) : w.heap.size ≤ gb348)); have n4_ := Aside0.mk ((by rw [hg]; exact (below_size (by repeat (first | (with_reducible first | exact HB.out | apply below_alloc | apply pw_below_drewN | apply below_drew1) | exact HB.out))) : w.heap.size ≤ gb348)); clear HO_3; clear HB; have HO_3 := n0_; have HB := n1_; have BK348 := n2_; have GW348 := n3_; have GE348 := n4_; clear n0_ n1_ n2_ n3_ n4_; clear hb hbox hg; have hcz31_0 : w30.cell? ⟨gb348, 0, none⟩ = some (.int .i64 0) := (blk_cell BK348.out 0).trans rfl; have hcz31_1 : w30.cell? ⟨gb348, 1, none⟩ = some (.string (⟨#[]⟩ : ByteArray)) := (blk_cell BK348.out 1).trans rfl; have hcz31_2 : w30.cell? ⟨gb348, 2, none⟩ = some (.int .i16 0) := (blk_cell BK348.out 2).trans rfl; have hcz31_3 : w30.cell? ⟨gb348, 3, none⟩ = some (.int .i64 0) := (blk_cell BK348.out 3).trans rfl; have hfz31_0 := blk_frozen BK348.out 0; have hfz31_1 := blk_frozen BK348.out 1; have hfz31_2 := blk_frozen BK348.out 2; have hfz31_3 := blk_frozen BK348.out 3))
              go_roundg k1
              case measure => have := HK1.out; omega
              case rel => exact ⟨(x3_1), (wrap64 (x9_1 + 1)), (by first | rfl | (simp; done) | (simp [*]; done)), H', ⟨by have := HK1.out; omega⟩, ⟨by (with_reducible repeat (first | apply Kd.R_alloc | apply Kd.R_drewN | apply Kd.R_drew)); exact Kd.R_mono (Kd.R_far (p := ⟨gb348, 3, none⟩) (Kd.R_far (p := ⟨gb348, 2, none⟩) (Kd.R_far (p := ⟨gb348, 1, none⟩) (Kd.R_far (p := ⟨gb348, 0, none⟩) (Kd.R_types HO_3.out BK348.out (by decide)) (fun _ hk => hk.2) (.int .i64 ((rd_T37 l0 x9_1).f0))) (fun _ hk => hk.2) (.string ((rd_T37 l0 x9_1).f1))) (fun _ hk => hk.2) (.int .i16 ((rd_T37 l0 x9_1).f2))) (fun _ hk => hk.2) (.int .i64 ((rd_T37 l0 x9_1).f3))) (fun _ hk => trivial)⟩, ⟨by repeat (first | (with_reducible first | exact HB.out | apply below_alloc | apply pw_below_drewN | apply below_drew1 | refine below_set ?_ GE348.out) | exact HB.out)⟩⟩
          · rw [if_neg c4] at H
            exact absurd H (by simp)
        · rw [if_neg c3] at H
          exact absurd H (by simp)
      · rw [if_neg c2] at H
        have c2b0 : decide (x9_1 < (l0.length : Int)) = false := decide_eq_false c2
        clear c2
        obtain rfl := Option.some.inj H
        go_wp2
        go_ret
        exact ⟨_, by first | rfl | (simp [errW_none, errW_some] <;> rfl) | (simp [*, errW_none, errW_some] <;> rfl), by (with_reducible repeat (first | apply Kd.R_alloc | apply Kd.R_drewN | apply Kd.R_drew)); exact HO_3.out, by repeat (first | (with_reducible first | exact HB.out | apply below_alloc | apply pw_below_drewN | apply below_drew1) | exact HB.out)⟩

end Go.Proofs.YtmpbkemicfmbaaaDoor.PX
-- Written by a program of this session (wip/xprint.py, over the kit's print tool). Lean checks it.
namespace Go.Proofs.YtmpbkemicfmbaaaDoor.PX
open Go.RowKit Go.Proofs.YtmpbkemicfmbaaaDoorW.PrintWords Go.Proofs.YtmpbkemicfmbaaaDoorW.PrintLast Go.Proofs.YtmpbkemicfmbaaaDoorW.PrintMore
attribute [local go_sem] max2_int min2_int max_two min_two max_three min_three max_four min_four   -- for this text's walks alone
set_option linter.unusedVariables false
set_option linter.unusedSimpArgs false

/-! ### trickleref15_Errors: function 25 -/
mutual
def trickleref15_Errors.l0 : Nat → List (S32) → List (S62) → Int → Option ((List (S62)))
  | 0, _, _, _ => none
  | k + 1, x0, x3, x4 => if x4 < (x0.length : Int) then (if 0 ≤ x4 then (if ((rd_T32 x0 x4).f0) = 5 then (if (((rd_T32 x0 x4).f1).size : Int) > 0 then (if 0 < (((rd_T32 x0 x4).f1).size : Int) then ((trickleref15_letter.f (bt ((rd_T32 x0 x4).f1) 0)).bind fun t366 => (trickleref15_Errors.j1 k x0 x3 x4 (⟨#[105, 110, 118, 97, 108, 105, 100, 32, 99, 104, 97, 114, 97, 99, 116, 101, 114]⟩ : ByteArray) t366)) else (none)) else (trickleref15_Errors.j1 k x0 x3 x4 (⟨#[105, 110, 118, 97, 108, 105, 100, 32, 99, 104, 97, 114, 97, 99, 116, 101, 114]⟩ : ByteArray) false)) else (trickleref15_Errors.l0 k x0 x3 (wrap64 (x4 + 1)))) else (none)) else (some x3)
def trickleref15_Errors.j1 : Nat → List (S32) → List (S62) → Int → ByteArray → Bool → Option ((List (S62)))
  | 0, _, _, _, _, _ => none
  | k + 1, x0, x3, x4, x5, x33 => if x33 = true then (trickleref15_Errors.j2 k x0 x3 x4 (⟨#[105, 100, 101, 110, 116, 105, 102, 105, 101, 114, 32, 116, 111, 111, 32, 108, 111, 110, 103]⟩ : ByteArray)) else (trickleref15_Errors.j2 k x0 x3 x4 x5)
def trickleref15_Errors.j2 : Nat → List (S32) → List (S62) → Int → ByteArray → Option ((List (S62)))
  | 0, _, _, _, _ => none
  | k + 1, x0, x3, x4, x5 => if 0 ≤ x4 then (if x4 < (x0.length : Int) then (if (((rd_T32 x0 x4).f1).size : Int) > 0 then (if 0 < (((rd_T32 x0 x4).f1).size : Int) then ((trickleref15_digit.f (bt ((rd_T32 x0 x4).f1) 0)).bind fun t369 => (if t369 = true then (if x3.length < 5864062014805 then (trickleref15_Errors.l0 k x0 (x3 ++ [(⟨(rd_T32 x0 x4).f3, (⟨#[105, 110, 118, 97, 108, 105, 100, 32, 105, 110, 116, 101, 103, 101, 114]⟩ : ByteArray)⟩ : S62)]) (wrap64 (x4 + 1))) else (none)) else (if x3.length < 5864062014805 then (trickleref15_Errors.l0 k x0 (x3 ++ [(⟨(rd_T32 x0 x4).f3, x5⟩ : S62)]) (wrap64 (x4 + 1))) else (none)))) else (none)) else (if x3.length < 5864062014805 then (trickleref15_Errors.l0 k x0 (x3 ++ [(⟨(rd_T32 x0 x4).f3, x5⟩ : S62)]) (wrap64 (x4 + 1))) else (none))) else (none)) else (none)
end
def trickleref15_Errors.f (k : Nat) (l0 : List (S32)) : Option ((List (S62))) := trickleref15_Errors.l0 k l0 ([] : List (S62)) 0
set_option maxHeartbeats 8000000 in
set_option maxRecDepth 100000 in
theorem trickleref15_Errors.calls (k : Nat) (A0 : Option Addr) (c0 : Nat) (l0 : List (S32)) (r : List (S62)) (w : World) (hr0 : Kd.C k32 w A0 l0.length l0) (hc0 : l0.length ≤ c0) (h : trickleref15_Errors.f k l0 = some r) :
    Calls Tryd.prog 25 #[.slice A0 l0.length c0] w fun e w' => ∃ v0_ : Value, e = .returned (v0_) ∧ Kd.R k62 62 w' w.heap.size (fun _ => True) v0_ r ∧ Below w.heap.size w w' := by
  have hu62 := Tryd.underlying62
  have HR0 := Aside0.mk hr0
  have HC0 := Aside0.mk hc0
  clear hr0 hc0
  have HB := Aside0.mk (Below.refl w.heap.size w)
  have H : (trickleref15_Errors.l0 k l0 ([] : List (S62)) 0) = some r := h
  clear h
  have H' := Aside0.mk H
  clear H
  go_enter Tryd.func25, Tryd.ntmps25
  go_wp2
  go_loopg [3, 4] k (fun kq v3 v4 w' => ∃ (x3_1 : List (S62)) (x4_1 : Int), v4 = .int .i64 x4_1 ∧ Aside0 (trickleref15_Errors.l0 kq l0 x3_1 x4_1 = some r) ∧ Aside0 (kq ≤ k) ∧ Aside0 (Kd.R k62 62 w' w.heap.size (fun _ => True) v3 x3_1) ∧ Aside0 (Below w.heap.size w w'))
  case atStart => exact ⟨(([] : List (S62))), (0), (by first | rfl | (simp; done) | (simp [*]; done)), H', ⟨Nat.le_refl _⟩, ⟨by first | exact Kd.R_nil _ _ _ _ _ | exact Kd.N_nil _ _ _ _ _ | exact Kd.V_nil _ _ _ _ _ | exact Kd.Q_nil _ _ _ _ _ | exact Kd.S_nil _ _ _ _ _⟩, ⟨by repeat (first | (with_reducible first | exact HB.out | apply below_alloc | apply pw_below_drewN | apply below_drew1) | exact HB.out)⟩⟩
  case round =>
    clear H'
    obtain ⟨x3_1, x4_1, rfl, HA, HK1, HO_3, HB⟩ := hrel
    cases gk with
    | zero => exact absurd HA.out (by simp [trickleref15_Errors.l0])
    | succ k1 =>
      have H := HA.out
      clear HA
      simp only [trickleref15_Errors.l0] at H
      by_cases c2 : x4_1 < (l0.length : Int)
      · rw [if_pos c2] at H
        have c2b0 : decide (x4_1 < (l0.length : Int)) = true := decide_eq_true c2
        clear c2
        by_cases c3 : 0 ≤ x4_1
        · rw [if_pos c3] at H
          have c3b0 : decide (0 ≤ x4_1) = true := decide_eq_true c3
          clear c3
          by_cases c4 : ((rd_T32 l0 x4_1).f0) = 5
          · rw [if_pos c4] at H
            have c4b0 : (((rd_T32 l0 x4_1).f0) == 5) = true := beq_iff_eq.mpr c4
            have c4b1 : (((rd_T32 l0 x4_1).f0) != 5) = false := bne_eq_false_iff_eq.mpr c4
            clear c4
            have HC5 := Aside0.mk H
            clear H
            have p363 : 0 ≤ (x4_1 : Int) := of_decide_eq_true (by first | (with_reducible assumption) | assumption)
            have q363 : x4_1 < (l0.length : Int) := of_decide_eq_true (by first | (with_reducible assumption) | assumption)
            obtain ⟨ad363, e363, hx363_0, hx363_1, hx363_2, hx363_3⟩ := at_T32 HR0.out x4_1 p363 q363
            cases e363
            replace hx363_0 := (HB.out.cell (World.block_lt_of_cell? w _ hx363_0)).trans hx363_0
            replace hx363_1 := (HB.out.cell (World.block_lt_of_cell? w _ hx363_1)).trans hx363_1
            replace hx363_2 := (HB.out.cell (World.block_lt_of_cell? w _ hx363_2)).trans hx363_2
            replace hx363_3 := (HB.out.cell (World.block_lt_of_cell? w _ hx363_3)).trans hx363_3
            replace p363 := eq_true p363
            replace q363 := eq_true q363
            go_upto_region 7 with (fail)
            go_cut [33] (fun v33 wc => ∃ (kq : Nat) (x33_4 : Bool), v33 = .bool x33_4 ∧ Aside0 (trickleref15_Errors.j1 kq l0 x3_1 x4_1 (⟨#[105, 110, 118, 97, 108, 105, 100, 32, 99, 104, 97, 114, 97, 99, 116, 101, 114]⟩ : ByteArray) x33_4 = some r) ∧ Aside0 (kq ≤ k1) ∧ Aside0 (Kd.R k62 62 wc w.heap.size (fun _ => True) u3 x3_1) ∧ Aside0 (Below w.heap.size w wc))
            case first =>
              have H := HC5.out
              clear HC5
              by_cases c6 : (((rd_T32 l0 x4_1).f1).size : Int) > 0
              · rw [if_pos c6] at H
                have c6b0 : decide (0 < (((rd_T32 l0 x4_1).f1).size : Int)) = true := decide_eq_true c6
                have c6b1 : decide (0 < ((rd_T32 l0 x4_1).f1).size) = true := decide_eq_true (by omega)
                clear c6
                (first | rw [c6b0] | (simp only [i64_w, i32_w]; rw [c6b0]) | skip)
                by_cases c7 : 0 < (((rd_T32 l0 x4_1).f1).size : Int)
                · rw [if_pos c7] at H
                  have c7b0 : decide (0 < (((rd_T32 l0 x4_1).f1).size : Int)) = true := decide_eq_true c7
                  have c7b1 : decide (0 < ((rd_T32 l0 x4_1).f1).size) = true := decide_eq_true (by omega)
                  clear c7
                  replace H := Option.bind_eq_some_iff.mp H
                  obtain ⟨t366, A90, H⟩ := H
                  replace H : (trickleref15_Errors.j1 k1 l0 x3_1 x4_1 (⟨#[105, 110, 118, 97, 108, 105, 100, 32, 99, 104, 97, 114, 97, 99, 116, 101, 114]⟩ : ByteArray) t366) = some r := H
                  have A9 := Aside0.mk A90
                  clear A90
                  have H' := Aside0.mk H
                  clear H
                  have p364 : 0 ≤ (x4_1 : Int) := of_decide_eq_true (by first | (with_reducible assumption) | assumption)
                  have q364 : x4_1 < (l0.length : Int) := of_decide_eq_true (by first | (with_reducible assumption) | assumption)
                  obtain ⟨ad364, e364, hx364_0, hx364_1, hx364_2, hx364_3⟩ := at_T32 HR0.out x4_1 p364 q364
                  obtain rfl : ad363 = ad364 := (by injection e364)
                  replace hx364_0 := (HB.out.cell (World.block_lt_of_cell? w _ hx364_0)).trans hx364_0
                  replace hx364_1 := (HB.out.cell (World.block_lt_of_cell? w _ hx364_1)).trans hx364_1
                  replace hx364_2 := (HB.out.cell (World.block_lt_of_cell? w _ hx364_2)).trans hx364_2
                  replace hx364_3 := (HB.out.cell (World.block_lt_of_cell? w _ hx364_3)).trans hx364_3
                  replace p364 := eq_true p364
                  replace q364 := eq_true q364
                  have p365 : 0 ≤ (x4_1 : Int) := of_decide_eq_true (by first | (with_reducible assumption) | assumption)
                  have q365 : x4_1 < (l0.length : Int) := of_decide_eq_true (by first | (with_reducible assumption) | assumption)
                  obtain ⟨ad365, e365, hx365_0, hx365_1, hx365_2, hx365_3⟩ := at_T32 HR0.out x4_1 p365 q365
                  obtain rfl : ad363 = ad365 := (by injection e365)
                  replace hx365_0 := (HB.out.cell (World.block_lt_of_cell? w _ hx365_0)).trans hx365_0
                  replace hx365_1 := (HB.out.cell (World.block_lt_of_cell? w _ hx365_1)).trans hx365_1
                  replace hx365_2 := (HB.out.cell (World.block_lt_of_cell? w _ hx365_2)).trans hx365_2
                  replace hx365_3 := (HB.out.cell (World.block_lt_of_cell? w _ hx365_3)).trans hx365_3
                  replace p365 := eq_true p365
                  replace q365 := eq_true q365
                  have p8 : 0 ≤ (0 : Int) := (by omega)
                  have q8 : 0 < ((rd_T32 l0 x4_1).f1).size := (by have : (0 : Int) < (((rd_T32 l0 x4_1).f1).size : Int) := of_decide_eq_true (by first | (with_reducible assumption) | assumption); omega)
                  have hx8 : ∀ h : 0 < ((rd_T32 l0 x4_1).f1).size, ((((rd_T32 l0 x4_1).f1)[0]'h).toNat : Int) = bt ((rd_T32 l0 x4_1).f1) 0 := bt_at ((rd_T32 l0 x4_1).f1) 0
                  clear p8
                  have qi8 : (0 < (((rd_T32 l0 x4_1).f1).size : Int)) = True := eq_true (of_decide_eq_true (by first | (with_reducible assumption) | assumption))
                  replace q8 := eq_true q8
                  go_wp2_with (first | (go_at_call 37; (with_reducible refine (trickleref15_letter.calls (bt ((rd_T32 l0 x4_1).f1) 0) t366 _ A9.out).mono ?_); rintro e w' ⟨rfl, ⟨nd, rfl⟩⟩))
                  go_meet
                  case rel => exact ⟨_, (t366), (by first | rfl | (simp; done) | (simp [*]; done)), H', ⟨by have := HK1.out; first | omega | exact Nat.le_refl _⟩, ⟨by (with_reducible repeat (first | apply Kd.R_alloc | apply Kd.R_drewN | apply Kd.R_drew)); exact HO_3.out⟩, ⟨by repeat (first | (with_reducible first | exact HB.out | apply below_alloc | apply pw_below_drewN | apply below_drew1) | exact HB.out)⟩⟩
                · rw [if_neg c7] at H
                  exact absurd H (by simp)
              · rw [if_neg c6] at H
                have c6b0 : decide (0 < (((rd_T32 l0 x4_1).f1).size : Int)) = false := decide_eq_false c6
                have c6b1 : decide (0 < ((rd_T32 l0 x4_1).f1).size) = false := decide_eq_false (by omega)
                clear c6
                (first | rw [c6b0] | (simp only [i64_w, i32_w]; rw [c6b0]) | skip)
                have H' := Aside0.mk H
                clear H
                have p364 : 0 ≤ (x4_1 : Int) := of_decide_eq_true (by first | (with_reducible assumption) | assumption)
                have q364 : x4_1 < (l0.length : Int) := of_decide_eq_true (by first | (with_reducible assumption) | assumption)
                obtain ⟨ad364, e364, hx364_0, hx364_1, hx364_2, hx364_3⟩ := at_T32 HR0.out x4_1 p364 q364
                obtain rfl : ad363 = ad364 := (by injection e364)
                replace hx364_0 := (HB.out.cell (World.block_lt_of_cell? w _ hx364_0)).trans hx364_0
                replace hx364_1 := (HB.out.cell (World.block_lt_of_cell? w _ hx364_1)).trans hx364_1
                replace hx364_2 := (HB.out.cell (World.block_lt_of_cell? w _ hx364_2)).trans hx364_2
                replace hx364_3 := (HB.out.cell (World.block_lt_of_cell? w _ hx364_3)).trans hx364_3
                replace p364 := eq_true p364
                replace q364 := eq_true q364
                go_wp2
                go_meet
                case rel => exact ⟨_, (false), (by first | rfl | (simp; done) | (simp [*]; done)), H', ⟨by have := HK1.out; first | omega | exact Nat.le_refl _⟩, ⟨by (with_reducible repeat (first | apply Kd.R_alloc | apply Kd.R_drewN | apply Kd.R_drew)); exact HO_3.out⟩, ⟨by repeat (first | (with_reducible first | exact HB.out | apply below_alloc | apply pw_below_drewN | apply below_drew1) | exact HB.out)⟩⟩
            case rest =>
              clear HC5
              try clear c2
              try clear c2b0
              try clear p2
              try clear c3
              try clear c3b0
              try clear p3
              try clear q3
              try clear hx3
              try clear c4
              try clear c4b0
              try clear c4b1
              try clear c6
              try clear c6b0
              try clear c6b1
              try clear c7
              try clear c7b0
              try clear c7b1
              try clear p8
              try clear q8
              try clear hx8
              try clear qi8
              try clear hx363_0
              try clear hx363_1
              try clear hx363_2
              try clear hx363_3
              try clear hx364_0
              try clear hx364_1
              try clear hx364_2
              try clear hx364_3
              try clear hx365_0
              try clear hx365_1
              try clear hx365_2
              try clear hx365_3
              try clear p363
              try clear p364
              try clear p365
              try clear p8
              try clear q363
              try clear q364
              try clear q365
              try clear q8
              obtain ⟨kq, x33_4, rfl, HA, HJ4, HO_3, HB⟩ := hcut
              cases kq with
              | zero => exact absurd HA.out (by simp [trickleref15_Errors.j1])
              | succ kj4 =>
                have H := HA.out
                clear HA
                simp only [trickleref15_Errors.j1] at H
                have HC10 := Aside0.mk H
                clear H
                go_upto_if 33 with (fail)
                go_cut [5] (fun v5 wc => ∃ (kq : Nat) (x5_9 : ByteArray), v5 = .string x5_9 ∧ Aside0 (trickleref15_Errors.j2 kq l0 x3_1 x4_1 x5_9 = some r) ∧ Aside0 (kq ≤ kj4) ∧ Aside0 (Kd.R k62 62 wc w.heap.size (fun _ => True) u3 x3_1) ∧ Aside0 (Below w.heap.size w wc))
                case first =>
                  have H := HC10.out
                  clear HC10
                  by_cases c11 : x33_4 = true
                  · subst c11
                    have H1 : (trickleref15_Errors.j2 kj4 l0 x3_1 x4_1 (⟨#[105, 100, 101, 110, 116, 105, 102, 105, 101, 114, 32, 116, 111, 111, 32, 108, 111, 110, 103]⟩ : ByteArray)) = some r := by rw [if_pos rfl] at H; exact H
                    clear H
                    have H := H1
                    clear H1
                    have H' := Aside0.mk H
                    clear H
                    go_wp2
                    go_meet
                    case rel => exact ⟨_, ((⟨#[105, 100, 101, 110, 116, 105, 102, 105, 101, 114, 32, 116, 111, 111, 32, 108, 111, 110, 103]⟩ : ByteArray)), (by first | rfl | (simp; done) | (simp [*]; done)), H', ⟨by have := HK1.out; have := HJ4.out; first | omega | exact Nat.le_refl _⟩, ⟨by (with_reducible repeat (first | apply Kd.R_alloc | apply Kd.R_drewN | apply Kd.R_drew)); exact HO_3.out⟩, ⟨by repeat (first | (with_reducible first | exact HB.out | apply below_alloc | apply pw_below_drewN | apply below_drew1) | exact HB.out)⟩⟩
                  · replace c11 := Bool.eq_false_iff.mpr c11
                    subst c11
                    have H1 : (trickleref15_Errors.j2 kj4 l0 x3_1 x4_1 (⟨#[105, 110, 118, 97, 108, 105, 100, 32, 99, 104, 97, 114, 97, 99, 116, 101, 114]⟩ : ByteArray)) = some r := by rw [if_neg (show ¬ (false = true) by decide)] at H; exact H
                    clear H
                    have H := H1
                    clear H1
                    have H' := Aside0.mk H
                    clear H
                    go_wp2
                    go_meet
                    case rel => exact ⟨_, ((⟨#[105, 110, 118, 97, 108, 105, 100, 32, 99, 104, 97, 114, 97, 99, 116, 101, 114]⟩ : ByteArray)), (by first | rfl | (simp; done) | (simp [*]; done)), H', ⟨by have := HK1.out; have := HJ4.out; first | omega | exact Nat.le_refl _⟩, ⟨by (with_reducible repeat (first | apply Kd.R_alloc | apply Kd.R_drewN | apply Kd.R_drew)); exact HO_3.out⟩, ⟨by repeat (first | (with_reducible first | exact HB.out | apply below_alloc | apply pw_below_drewN | apply below_drew1) | exact HB.out)⟩⟩
                case rest =>
                  clear HC10
                  try clear c1
                  try clear c2
                  try clear c2b0
                  try clear p2
                  try clear c3
                  try clear c3b0
                  try clear p3
                  try clear q3
                  try clear hx3
                  try clear c4
                  try clear c4b0
                  try clear c4b1
                  try clear c6
                  try clear c6b0
                  try clear c6b1
                  try clear c7
                  try clear c7b0
                  try clear c7b1
                  try clear p8
                  try clear q8
                  try clear hx8
                  try clear qi8
                  try clear c11
                  try clear hx363_0
                  try clear hx363_1
                  try clear hx363_2
                  try clear hx363_3
                  try clear hx364_0
                  try clear hx364_1
                  try clear hx364_2
                  try clear hx364_3
                  try clear hx365_0
                  try clear hx365_1
                  try clear hx365_2
                  try clear hx365_3
                  try clear p2
                  try clear p3
                  try clear p363
                  try clear p364
                  try clear p365
                  try clear p8
                  try clear q3
                  try clear q363
                  try clear q364
                  try clear q365
                  try clear q8
                  obtain ⟨kq, x5_9, rfl, HA, HJ9, HO_3, HB⟩ := hcut
                  cases kq with
                  | zero => exact absurd HA.out (by simp [trickleref15_Errors.j2])
                  | succ kj9 =>
                    have H := HA.out
                    clear HA
                    simp only [trickleref15_Errors.j2] at H
                    by_cases c12 : 0 ≤ x4_1
                    · rw [if_pos c12] at H
                      have c12b0 : decide (0 ≤ x4_1) = true := decide_eq_true c12
                      clear c12
                      by_cases c13 : x4_1 < (l0.length : Int)
                      · rw [if_pos c13] at H
                        have c13b0 : decide (x4_1 < (l0.length : Int)) = true := decide_eq_true c13
                        clear c13
                        by_cases c14 : (((rd_T32 l0 x4_1).f1).size : Int) > 0
                        · rw [if_pos c14] at H
                          have c14b0 : decide (0 < (((rd_T32 l0 x4_1).f1).size : Int)) = true := decide_eq_true c14
                          have c14b1 : decide (0 < ((rd_T32 l0 x4_1).f1).size) = true := decide_eq_true (by omega)
                          clear c14
                          by_cases c15 : 0 < (((rd_T32 l0 x4_1).f1).size : Int)
                          · rw [if_pos c15] at H
                            have c15b0 : decide (0 < (((rd_T32 l0 x4_1).f1).size : Int)) = true := decide_eq_true c15
                            have c15b1 : decide (0 < ((rd_T32 l0 x4_1).f1).size) = true := decide_eq_true (by omega)
                            clear c15
                            replace H := Option.bind_eq_some_iff.mp H
                            obtain ⟨t369, A170, H⟩ := H
                            replace H : (if t369 = true then (if x3_1.length < 5864062014805 then (trickleref15_Errors.l0 kj9 l0 (x3_1 ++ [(⟨(rd_T32 l0 x4_1).f3, (⟨#[105, 110, 118, 97, 108, 105, 100, 32, 105, 110, 116, 101, 103, 101, 114]⟩ : ByteArray)⟩ : S62)]) (wrap64 (x4_1 + 1))) else (none)) else (if x3_1.length < 5864062014805 then (trickleref15_Errors.l0 kj9 l0 (x3_1 ++ [(⟨(rd_T32 l0 x4_1).f3, x5_9⟩ : S62)]) (wrap64 (x4_1 + 1))) else (none))) = some r := H
                            have A17 := Aside0.mk A170
                            clear A170
                            by_cases c18 : t369 = true
                            · subst c18
                              have H1 : (if x3_1.length < 5864062014805 then (trickleref15_Errors.l0 kj9 l0 (x3_1 ++ [(⟨(rd_T32 l0 x4_1).f3, (⟨#[105, 110, 118, 97, 108, 105, 100, 32, 105, 110, 116, 101, 103, 101, 114]⟩ : ByteArray)⟩ : S62)]) (wrap64 (x4_1 + 1))) else (none)) = some r := by rw [if_pos rfl] at H; exact H
                              clear H
                              have H := H1
                              clear H1
                              by_cases c19 : x3_1.length < 5864062014805
                              · rw [if_pos c19] at H
                                have LMc19 := Aside0.mk c19
                                clear c19
                                obtain ⟨y371, hy371⟩ : ∃ y_ : List (S62), y_ = (x3_1 ++ [(⟨(rd_T32 l0 x4_1).f3, (⟨#[105, 110, 118, 97, 108, 105, 100, 32, 105, 110, 116, 101, 103, 101, 114]⟩ : ByteArray)⟩ : S62)]) := ⟨_, rfl⟩
                                replace H : (trickleref15_Errors.l0 kj9 l0 y371 (wrap64 (x4_1 + 1))) = some r := by first | (rw [hy371]; with_reducible exact H) | (have H2_ := (Option.bind_some _ _).symm.trans H; rw [hy371]; with_reducible exact H2_) | (have H2_ := (Option.bind_some _ _).symm.trans H; with_reducible exact H2_) | with_reducible exact H | (rw [hy371]; exact H) | exact H
                                have Ny371 := Aside0.mk hy371
                                clear hy371
                                have H' := Aside0.mk H
                                clear H
                                have p367 : 0 ≤ (x4_1 : Int) := of_decide_eq_true (by first | (with_reducible assumption) | assumption)
                                have q367 : x4_1 < (l0.length : Int) := of_decide_eq_true (by first | (with_reducible assumption) | assumption)
                                obtain ⟨ad367, e367, hx367_0, hx367_1, hx367_2, hx367_3⟩ := at_T32 HR0.out x4_1 p367 q367
                                obtain rfl : ad363 = ad367 := (by injection e367)
                                replace hx367_0 := (HB.out.cell (World.block_lt_of_cell? w _ hx367_0)).trans hx367_0
                                replace hx367_1 := (HB.out.cell (World.block_lt_of_cell? w _ hx367_1)).trans hx367_1
                                replace hx367_2 := (HB.out.cell (World.block_lt_of_cell? w _ hx367_2)).trans hx367_2
                                replace hx367_3 := (HB.out.cell (World.block_lt_of_cell? w _ hx367_3)).trans hx367_3
                                replace p367 := eq_true p367
                                replace q367 := eq_true q367
                                have p368 : 0 ≤ (x4_1 : Int) := of_decide_eq_true (by first | (with_reducible assumption) | assumption)
                                have q368 : x4_1 < (l0.length : Int) := of_decide_eq_true (by first | (with_reducible assumption) | assumption)
                                obtain ⟨ad368, e368, hx368_0, hx368_1, hx368_2, hx368_3⟩ := at_T32 HR0.out x4_1 p368 q368
                                obtain rfl : ad363 = ad368 := (by injection e368)
                                replace hx368_0 := (HB.out.cell (World.block_lt_of_cell? w _ hx368_0)).trans hx368_0
                                replace hx368_1 := (HB.out.cell (World.block_lt_of_cell? w _ hx368_1)).trans hx368_1
                                replace hx368_2 := (HB.out.cell (World.block_lt_of_cell? w _ hx368_2)).trans hx368_2
                                replace hx368_3 := (HB.out.cell (World.block_lt_of_cell? w _ hx368_3)).trans hx368_3
                                replace p368 := eq_true p368
                                replace q368 := eq_true q368
                                have p16 : 0 ≤ (0 : Int) := (by omega)
                                have q16 : 0 < ((rd_T32 l0 x4_1).f1).size := (by have : (0 : Int) < (((rd_T32 l0 x4_1).f1).size : Int) := of_decide_eq_true (by first | (with_reducible assumption) | assumption); omega)
                                have hx16 : ∀ h : 0 < ((rd_T32 l0 x4_1).f1).size, ((((rd_T32 l0 x4_1).f1)[0]'h).toNat : Int) = bt ((rd_T32 l0 x4_1).f1) 0 := bt_at ((rd_T32 l0 x4_1).f1) 0
                                clear p16
                                have qi16 : (0 < (((rd_T32 l0 x4_1).f1).size : Int)) = True := eq_true (of_decide_eq_true (by first | (with_reducible assumption) | assumption))
                                replace q16 := eq_true q16
                                go_wp2_with (first | (go_at_call 38; (with_reducible refine (trickleref15_digit.calls (bt ((rd_T32 l0 x4_1).f1) 0) true _ A17.out).mono ?_); rintro e w' ⟨rfl, ⟨nd, rfl⟩⟩; have p370 : 0 ≤ (x4_1 : Int) := of_decide_eq_true (by first | (with_reducible assumption) | assumption); have q370 : x4_1 < (l0.length : Int) := of_decide_eq_true (by first | (with_reducible assumption) | assumption); obtain ⟨ad370, e370, hx370_0, hx370_1, hx370_2, hx370_3⟩ := at_T32 HR0.out x4_1 p370 q370; obtain rfl : ad363 = ad370 := (by injection e370); replace hx370_0 := (HB.out.cell (World.block_lt_of_cell? w _ hx370_0)).trans hx370_0; replace hx370_1 := (HB.out.cell (World.block_lt_of_cell? w _ hx370_1)).trans hx370_1; replace hx370_2 := (HB.out.cell (World.block_lt_of_cell? w _ hx370_2)).trans hx370_2; replace hx370_3 := (HB.out.cell (World.block_lt_of_cell? w _ hx370_3)).trans hx370_3; replace p370 := eq_true p370; replace q370 := eq_true q370) | ((with_reducible refine gate_builtin (b := .append) (xs := #[.tmp 50, .tmp 58]) rfl ?_); at_builtin; refine Kd.R_append k62 (w0 := w) w.heap.size rfl (.tmp 50) (.tmp 58) 44 62 (.agg #[(.int .i64 0), (.string ⟨#[]⟩)]) 24 rfl Tryd.underlying44 info62 rfl (by decide) (by omega) u3 x3_1 (⟨(rd_T32 l0 x4_1).f3, (⟨#[105, 110, 118, 97, 108, 105, 100, 32, 105, 110, 116, 101, 103, 101, 114]⟩ : ByteArray)⟩ : S62) [.int .i64 ((rd_T32 l0 x4_1).f3), .string (⟨#[105, 110, 118, 97, 108, 105, 100, 32, 105, 110, 116, 101, 103, 101, 114]⟩ : ByteArray)] (fun _ => True) (fun _ => False) rfl rfl ?aP (fun _ hk => hk.elim) ?aF ?aO ?aB ?aS ?aL ?_; (case aP => exact k62_mkM _ _ _ (⟨(rd_T32 l0 x4_1).f3, (⟨#[105, 110, 118, 97, 108, 105, 100, 32, 105, 110, 116, 101, 103, 101, 114]⟩ : ByteArray)⟩ : S62)); (case aB => exact (by repeat (first | (with_reducible first | exact HB.out | apply below_alloc | apply pw_below_drewN | apply below_drew1) | exact HB.out))); (case aF => exact (fun _ _ => trivial)); (case aO => exact (by (with_reducible repeat (first | apply Kd.R_alloc | apply Kd.R_drewN | apply Kd.R_drew)); exact HO_3.out)); (case aS => exact (below_size (by repeat (first | (with_reducible first | exact HB.out | apply below_alloc | apply pw_below_drewN | apply below_drew1) | exact HB.out)))); (case aL => have := LMc19.out; omega); intro v372 w20 ho hb hg hat; rw [← Ny371.out] at ho; have n0_ := Aside0.mk (hb); have n1_ := Aside0.mk (ho); clear HB; clear HO_3; have HB := n0_; have HO373 := n1_; clear n0_ n1_; clear ho hb hg hat))
                                go_roundg kj9
                                case measure => have := HK1.out; have := HJ4.out; have := HJ9.out; omega
                                case rel => exact ⟨(y371), (wrap64 (x4_1 + 1)), (by first | rfl | (simp; done) | (simp [*]; done)), H', ⟨by have := HK1.out; have := HJ4.out; have := HJ9.out; omega⟩, ⟨by (with_reducible repeat (first | apply Kd.R_alloc | apply Kd.R_drewN | apply Kd.R_drew)); exact HO373.out⟩, ⟨by repeat (first | (with_reducible first | exact HB.out | apply below_alloc | apply pw_below_drewN | apply below_drew1) | exact HB.out)⟩⟩
                              · rw [if_neg c19] at H
                                exact absurd H (by simp)
                            · replace c18 := Bool.eq_false_iff.mpr c18
                              subst c18
                              have H1 : (if x3_1.length < 5864062014805 then (trickleref15_Errors.l0 kj9 l0 (x3_1 ++ [(⟨(rd_T32 l0 x4_1).f3, x5_9⟩ : S62)]) (wrap64 (x4_1 + 1))) else (none)) = some r := by rw [if_neg (show ¬ (false = true) by decide)] at H; exact H
                              clear H
                              have H := H1
                              clear H1
                              by_cases c21 : x3_1.length < 5864062014805
                              · rw [if_pos c21] at H
                                have LMc21 := Aside0.mk c21
                                clear c21
                                obtain ⟨y375, hy375⟩ : ∃ y_ : List (S62), y_ = (x3_1 ++ [(⟨(rd_T32 l0 x4_1).f3, x5_9⟩ : S62)]) := ⟨_, rfl⟩
                                replace H : (trickleref15_Errors.l0 kj9 l0 y375 (wrap64 (x4_1 + 1))) = some r := by first | (rw [hy375]; with_reducible exact H) | (have H2_ := (Option.bind_some _ _).symm.trans H; rw [hy375]; with_reducible exact H2_) | (have H2_ := (Option.bind_some _ _).symm.trans H; with_reducible exact H2_) | with_reducible exact H | (rw [hy375]; exact H) | exact H
                                have Ny375 := Aside0.mk hy375
                                clear hy375
                                have H' := Aside0.mk H
                                clear H
                                have p367 : 0 ≤ (x4_1 : Int) := of_decide_eq_true (by first | (with_reducible assumption) | assumption)
                                have q367 : x4_1 < (l0.length : Int) := of_decide_eq_true (by first | (with_reducible assumption) | assumption)
                                obtain ⟨ad367, e367, hx367_0, hx367_1, hx367_2, hx367_3⟩ := at_T32 HR0.out x4_1 p367 q367
                                obtain rfl : ad363 = ad367 := (by injection e367)
                                replace hx367_0 := (HB.out.cell (World.block_lt_of_cell? w _ hx367_0)).trans hx367_0
                                replace hx367_1 := (HB.out.cell (World.block_lt_of_cell? w _ hx367_1)).trans hx367_1
                                replace hx367_2 := (HB.out.cell (World.block_lt_of_cell? w _ hx367_2)).trans hx367_2
                                replace hx367_3 := (HB.out.cell (World.block_lt_of_cell? w _ hx367_3)).trans hx367_3
                                replace p367 := eq_true p367
                                replace q367 := eq_true q367
                                have p368 : 0 ≤ (x4_1 : Int) := of_decide_eq_true (by first | (with_reducible assumption) | assumption)
                                have q368 : x4_1 < (l0.length : Int) := of_decide_eq_true (by first | (with_reducible assumption) | assumption)
                                obtain ⟨ad368, e368, hx368_0, hx368_1, hx368_2, hx368_3⟩ := at_T32 HR0.out x4_1 p368 q368
                                obtain rfl : ad363 = ad368 := (by injection e368)
                                replace hx368_0 := (HB.out.cell (World.block_lt_of_cell? w _ hx368_0)).trans hx368_0
                                replace hx368_1 := (HB.out.cell (World.block_lt_of_cell? w _ hx368_1)).trans hx368_1
                                replace hx368_2 := (HB.out.cell (World.block_lt_of_cell? w _ hx368_2)).trans hx368_2
                                replace hx368_3 := (HB.out.cell (World.block_lt_of_cell? w _ hx368_3)).trans hx368_3
                                replace p368 := eq_true p368
                                replace q368 := eq_true q368
                                have p16 : 0 ≤ (0 : Int) := (by omega)
                                have q16 : 0 < ((rd_T32 l0 x4_1).f1).size := (by have : (0 : Int) < (((rd_T32 l0 x4_1).f1).size : Int) := of_decide_eq_true (by first | (with_reducible assumption) | assumption); omega)
                                have hx16 : ∀ h : 0 < ((rd_T32 l0 x4_1).f1).size, ((((rd_T32 l0 x4_1).f1)[0]'h).toNat : Int) = bt ((rd_T32 l0 x4_1).f1) 0 := bt_at ((rd_T32 l0 x4_1).f1) 0
                                clear p16
                                have qi16 : (0 < (((rd_T32 l0 x4_1).f1).size : Int)) = True := eq_true (of_decide_eq_true (by first | (with_reducible assumption) | assumption))
                                replace q16 := eq_true q16
                                go_wp2_with (first | (go_at_call 38; (with_reducible refine (trickleref15_digit.calls (bt ((rd_T32 l0 x4_1).f1) 0) false _ A17.out).mono ?_); rintro e w' ⟨rfl, ⟨nd, rfl⟩⟩; have p374 : 0 ≤ (x4_1 : Int) := of_decide_eq_true (by first | (with_reducible assumption) | assumption); have q374 : x4_1 < (l0.length : Int) := of_decide_eq_true (by first | (with_reducible assumption) | assumption); obtain ⟨ad374, e374, hx374_0, hx374_1, hx374_2, hx374_3⟩ := at_T32 HR0.out x4_1 p374 q374; obtain rfl : ad363 = ad374 := (by injection e374); replace hx374_0 := (HB.out.cell (World.block_lt_of_cell? w _ hx374_0)).trans hx374_0; replace hx374_1 := (HB.out.cell (World.block_lt_of_cell? w _ hx374_1)).trans hx374_1; replace hx374_2 := (HB.out.cell (World.block_lt_of_cell? w _ hx374_2)).trans hx374_2; replace hx374_3 := (HB.out.cell (World.block_lt_of_cell? w _ hx374_3)).trans hx374_3; replace p374 := eq_true p374; replace q374 := eq_true q374) | ((with_reducible refine gate_builtin (b := .append) (xs := #[.tmp 50, .tmp 58]) rfl ?_); at_builtin; refine Kd.R_append k62 (w0 := w) w.heap.size rfl (.tmp 50) (.tmp 58) 44 62 (.agg #[(.int .i64 0), (.string ⟨#[]⟩)]) 24 rfl Tryd.underlying44 info62 rfl (by decide) (by omega) u3 x3_1 (⟨(rd_T32 l0 x4_1).f3, x5_9⟩ : S62) [.int .i64 ((rd_T32 l0 x4_1).f3), .string x5_9] (fun _ => True) (fun _ => False) rfl rfl ?aP (fun _ hk => hk.elim) ?aF ?aO ?aB ?aS ?aL ?_; (case aP => exact k62_mkM _ _ _ (⟨(rd_T32 l0 x4_1).f3, x5_9⟩ : S62)); (case aB => exact (by repeat (first | (with_reducible first | exact HB.out | apply below_alloc | apply pw_below_drewN | apply below_drew1) | exact HB.out))); (case aF => exact (fun _ _ => trivial)); (case aO => exact (by (with_reducible repeat (first | apply Kd.R_alloc | apply Kd.R_drewN | apply Kd.R_drew)); exact HO_3.out)); (case aS => exact (below_size (by repeat (first | (with_reducible first | exact HB.out | apply below_alloc | apply pw_below_drewN | apply below_drew1) | exact HB.out)))); (case aL => have := LMc21.out; omega); intro v376 w22 ho hb hg hat; rw [← Ny375.out] at ho; have n0_ := Aside0.mk (hb); have n1_ := Aside0.mk (ho); clear HB; clear HO_3; have HB := n0_; have HO377 := n1_; clear n0_ n1_; clear ho hb hg hat))
                                go_roundg kj9
                                case measure => have := HK1.out; have := HJ4.out; have := HJ9.out; omega
                                case rel => exact ⟨(y375), (wrap64 (x4_1 + 1)), (by first | rfl | (simp; done) | (simp [*]; done)), H', ⟨by have := HK1.out; have := HJ4.out; have := HJ9.out; omega⟩, ⟨by (with_reducible repeat (first | apply Kd.R_alloc | apply Kd.R_drewN | apply Kd.R_drew)); exact HO377.out⟩, ⟨by repeat (first | (with_reducible first | exact HB.out | apply below_alloc | apply pw_below_drewN | apply below_drew1) | exact HB.out)⟩⟩
                              · rw [if_neg c21] at H
                                exact absurd H (by simp)
                          · rw [if_neg c15] at H
                            exact absurd H (by simp)
                        · rw [if_neg c14] at H
                          have c14b0 : decide (0 < (((rd_T32 l0 x4_1).f1).size : Int)) = false := decide_eq_false c14
                          have c14b1 : decide (0 < ((rd_T32 l0 x4_1).f1).size) = false := decide_eq_false (by omega)
                          clear c14
                          by_cases c23 : x3_1.length < 5864062014805
                          · rw [if_pos c23] at H
                            have LMc23 := Aside0.mk c23
                            clear c23
                            obtain ⟨y379, hy379⟩ : ∃ y_ : List (S62), y_ = (x3_1 ++ [(⟨(rd_T32 l0 x4_1).f3, x5_9⟩ : S62)]) := ⟨_, rfl⟩
                            replace H : (trickleref15_Errors.l0 kj9 l0 y379 (wrap64 (x4_1 + 1))) = some r := by first | (rw [hy379]; with_reducible exact H) | (have H2_ := (Option.bind_some _ _).symm.trans H; rw [hy379]; with_reducible exact H2_) | (have H2_ := (Option.bind_some _ _).symm.trans H; with_reducible exact H2_) | with_reducible exact H | (rw [hy379]; exact H) | exact H
                            have Ny379 := Aside0.mk hy379
                            clear hy379
                            have H' := Aside0.mk H
                            clear H
                            have p367 : 0 ≤ (x4_1 : Int) := of_decide_eq_true (by first | (with_reducible assumption) | assumption)
                            have q367 : x4_1 < (l0.length : Int) := of_decide_eq_true (by first | (with_reducible assumption) | assumption)
                            obtain ⟨ad367, e367, hx367_0, hx367_1, hx367_2, hx367_3⟩ := at_T32 HR0.out x4_1 p367 q367
                            obtain rfl : ad363 = ad367 := (by injection e367)
                            replace hx367_0 := (HB.out.cell (World.block_lt_of_cell? w _ hx367_0)).trans hx367_0
                            replace hx367_1 := (HB.out.cell (World.block_lt_of_cell? w _ hx367_1)).trans hx367_1
                            replace hx367_2 := (HB.out.cell (World.block_lt_of_cell? w _ hx367_2)).trans hx367_2
                            replace hx367_3 := (HB.out.cell (World.block_lt_of_cell? w _ hx367_3)).trans hx367_3
                            replace p367 := eq_true p367
                            replace q367 := eq_true q367
                            have p378 : 0 ≤ (x4_1 : Int) := of_decide_eq_true (by first | (with_reducible assumption) | assumption)
                            have q378 : x4_1 < (l0.length : Int) := of_decide_eq_true (by first | (with_reducible assumption) | assumption)
                            obtain ⟨ad378, e378, hx378_0, hx378_1, hx378_2, hx378_3⟩ := at_T32 HR0.out x4_1 p378 q378
                            obtain rfl : ad363 = ad378 := (by injection e378)
                            replace hx378_0 := (HB.out.cell (World.block_lt_of_cell? w _ hx378_0)).trans hx378_0
                            replace hx378_1 := (HB.out.cell (World.block_lt_of_cell? w _ hx378_1)).trans hx378_1
                            replace hx378_2 := (HB.out.cell (World.block_lt_of_cell? w _ hx378_2)).trans hx378_2
                            replace hx378_3 := (HB.out.cell (World.block_lt_of_cell? w _ hx378_3)).trans hx378_3
                            replace p378 := eq_true p378
                            replace q378 := eq_true q378
                            go_wp2_with (first | ((with_reducible refine gate_builtin (b := .append) (xs := #[.tmp 50, .tmp 58]) rfl ?_); at_builtin; refine Kd.R_append k62 (w0 := w) w.heap.size rfl (.tmp 50) (.tmp 58) 44 62 (.agg #[(.int .i64 0), (.string ⟨#[]⟩)]) 24 rfl Tryd.underlying44 info62 rfl (by decide) (by omega) u3 x3_1 (⟨(rd_T32 l0 x4_1).f3, x5_9⟩ : S62) [.int .i64 ((rd_T32 l0 x4_1).f3), .string x5_9] (fun _ => True) (fun _ => False) rfl rfl ?aP (fun _ hk => hk.elim) ?aF ?aO ?aB ?aS ?aL ?_; (case aP => exact k62_mkM _ _ _ (⟨(rd_T32 l0 x4_1).f3, x5_9⟩ : S62)); (case aB => exact (by repeat (first | (with_reducible first | exact HB.out | apply below_alloc | apply pw_below_drewN | apply below_drew1) | exact HB.out))); (case aF => exact (fun _ _ => trivial)); (case aO => exact (by (with_reducible repeat (first | apply Kd.R_alloc | apply Kd.R_drewN | apply Kd.R_drew)); exact HO_3.out)); (case aS => exact (below_size (by repeat (first | (with_reducible first | exact HB.out | apply below_alloc | apply pw_below_drewN | apply below_drew1) | exact HB.out)))); (case aL => have := LMc23.out; omega); intro v380 w24 ho hb hg hat; rw [← Ny379.out] at ho; have n0_ := Aside0.mk (hb); have n1_ := Aside0.mk (ho); clear HB; clear HO_3; have HB := n0_; have HO381 := n1_; clear n0_ n1_; clear ho hb hg hat))
                            go_roundg kj9
                            case measure => have := HK1.out; have := HJ4.out; have := HJ9.out; omega
                            case rel => exact ⟨(y379), (wrap64 (x4_1 + 1)), (by first | rfl | (simp; done) | (simp [*]; done)), H', ⟨by have := HK1.out; have := HJ4.out; have := HJ9.out; omega⟩, ⟨by (with_reducible repeat (first | apply Kd.R_alloc | apply Kd.R_drewN | apply Kd.R_drew)); exact HO381.out⟩, ⟨by repeat (first | (with_reducible first | exact HB.out | apply below_alloc | apply pw_below_drewN | apply below_drew1) | exact HB.out)⟩⟩
                          · rw [if_neg c23] at H
                            exact absurd H (by simp)
                      · rw [if_neg c13] at H
                        exact absurd H (by simp)
                    · rw [if_neg c12] at H
                      exact absurd H (by simp)
          · rw [if_neg c4] at H
            have c4b0 : (((rd_T32 l0 x4_1).f0) == 5) = false := beq_eq_false_iff_ne.mpr c4
            have c4b1 : (((rd_T32 l0 x4_1).f0) != 5) = true := bne_iff_ne.mpr c4
            have H' := Aside0.mk H
            clear H
            have p363 : 0 ≤ (x4_1 : Int) := of_decide_eq_true (by first | (with_reducible assumption) | assumption)
            have q363 : x4_1 < (l0.length : Int) := of_decide_eq_true (by first | (with_reducible assumption) | assumption)
            obtain ⟨ad363, e363, hx363_0, hx363_1, hx363_2, hx363_3⟩ := at_T32 HR0.out x4_1 p363 q363
            cases e363
            replace hx363_0 := (HB.out.cell (World.block_lt_of_cell? w _ hx363_0)).trans hx363_0
            replace hx363_1 := (HB.out.cell (World.block_lt_of_cell? w _ hx363_1)).trans hx363_1
            replace hx363_2 := (HB.out.cell (World.block_lt_of_cell? w _ hx363_2)).trans hx363_2
            replace hx363_3 := (HB.out.cell (World.block_lt_of_cell? w _ hx363_3)).trans hx363_3
            replace p363 := eq_true p363
            replace q363 := eq_true q363
            go_wp2
            go_roundg k1
            case measure => have := HK1.out; omega
            case rel => exact ⟨(x3_1), (wrap64 (x4_1 + 1)), (by first | rfl | (simp; done) | (simp [*]; done)), H', ⟨by have := HK1.out; omega⟩, ⟨by (with_reducible repeat (first | apply Kd.R_alloc | apply Kd.R_drewN | apply Kd.R_drew)); exact HO_3.out⟩, ⟨by repeat (first | (with_reducible first | exact HB.out | apply below_alloc | apply pw_below_drewN | apply below_drew1) | exact HB.out)⟩⟩
        · rw [if_neg c3] at H
          exact absurd H (by simp)
      · rw [if_neg c2] at H
        have c2b0 : decide (x4_1 < (l0.length : Int)) = false := decide_eq_false c2
        clear c2
        obtain rfl := Option.some.inj H
        go_wp2
        go_ret
        exact ⟨_, by first | rfl | (simp [errW_none, errW_some] <;> rfl) | (simp [*, errW_none, errW_some] <;> rfl), by (with_reducible repeat (first | apply Kd.R_alloc | apply Kd.R_drewN | apply Kd.R_drew)); exact HO_3.out, by repeat (first | (with_reducible first | exact HB.out | apply below_alloc | apply pw_below_drewN | apply below_drew1) | exact HB.out)⟩

end Go.Proofs.YtmpbkemicfmbaaaDoor.PX
-- Written by a program of this session (wip/xprint.py, over the kit's print tool). Lean checks it.
namespace Go.Proofs.YtmpbkemicfmbaaaDoor.PX
open Go.RowKit Go.Proofs.YtmpbkemicfmbaaaDoorW.PrintWords Go.Proofs.YtmpbkemicfmbaaaDoorW.PrintLast Go.Proofs.YtmpbkemicfmbaaaDoorW.PrintMore
attribute [local go_sem] max2_int min2_int max_two min_two max_three min_three max_four min_four   -- for this text's walks alone
set_option linter.unusedVariables false
set_option linter.unusedSimpArgs false

/-! ### tricklelaw15_LexerErrors: function 9 -/
def tricklelaw15_LexerErrors.f (k : Nat) (l0 : List (S32)) : Option (Bool) := (tricklelaw15_wakes.f k).bind fun t382 => (if t382 = true then (if (l0.length : Int) > 100 then (some true) else ((tricklelaw15_own.f k l0).bind fun t383 => ((lexer_Errors.f k t383).bind fun t386 => ((trickleref15_Errors.f k l0).bind fun t389 => ((trickleref15_SameDiagnostics.f k t386 t389).bind fun t392 => (some t392)))))) else (some false))
set_option maxHeartbeats 8000000 in
set_option maxRecDepth 100000 in
theorem tricklelaw15_LexerErrors.calls (k : Nat) (A0 : Option Addr) (c0 : Nat) (l0 : List (S32)) (r : Bool) (w : World) (hr0 : Kd.C k32 w A0 l0.length l0) (hc0 : l0.length ≤ c0) (hG : GW w) (h : tricklelaw15_LexerErrors.f k l0 = some r) :
    Calls Tryd.prog 9 #[.slice A0 l0.length c0] w fun e w' => e = .returned (.bool r) ∧ Below w.heap.size w w' := by
  have HG := Aside0.mk hG
  clear hG
  have HR0 := Aside0.mk hr0
  have HC0 := Aside0.mk hc0
  clear hr0 hc0
  have HB := Aside0.mk (Below.refl w.heap.size w)
  have H : ((tricklelaw15_wakes.f k).bind fun t382 => (if t382 = true then (if (l0.length : Int) > 100 then (some true) else ((tricklelaw15_own.f k l0).bind fun t383 => ((lexer_Errors.f k t383).bind fun t386 => ((trickleref15_Errors.f k l0).bind fun t389 => ((trickleref15_SameDiagnostics.f k t386 t389).bind fun t392 => (some t392)))))) else (some false))) = some r := h
  clear h
  replace H := Option.bind_eq_some_iff.mp H
  obtain ⟨t382, A20, H⟩ := H
  replace H : (if t382 = true then (if (l0.length : Int) > 100 then (some true) else ((tricklelaw15_own.f k l0).bind fun t383 => ((lexer_Errors.f k t383).bind fun t386 => ((trickleref15_Errors.f k l0).bind fun t389 => ((trickleref15_SameDiagnostics.f k t386 t389).bind fun t392 => (some t392)))))) else (some false)) = some r := H
  have A2 := Aside0.mk A20
  clear A20
  by_cases c3 : t382 = true
  · subst c3
    have H1 : (if (l0.length : Int) > 100 then (some true) else ((tricklelaw15_own.f k l0).bind fun t383 => ((lexer_Errors.f k t383).bind fun t386 => ((trickleref15_Errors.f k l0).bind fun t389 => ((trickleref15_SameDiagnostics.f k t386 t389).bind fun t392 => (some t392)))))) = some r := by rw [if_pos rfl] at H; exact H
    clear H
    have H := H1
    clear H1
    by_cases c4 : (l0.length : Int) > 100
    · rw [if_pos c4] at H
      have c4b0 : decide (100 < (l0.length : Int)) = true := decide_eq_true c4
      have c4b1 : decide (100 < l0.length) = true := decide_eq_true (by omega)
      clear c4
      obtain rfl := Option.some.inj H
      go_enter Tryd.func9, Tryd.ntmps9
      go_wp2_with (first | ((with_reducible refine gate_callee (f := 10) rfl ?_); refine goesL_ (some 3) rfl rfl Tryd.func10 (by kernel_rfl) rfl #[] rfl (by (try simp only [List.map_toArray, List.map_cons, List.map_nil]); first | done | rfl | (simp only [List.length_drop, List.length_take]; rfl)) ?_; (with_reducible refine (tricklelaw15_wakes.calls k  true _ ?side1 A2.out).mono ?_); (case side1 => refine GW.below HG.out ?_; repeat (first | (with_reducible first | exact HB.out | apply below_alloc | apply pw_below_drewN | apply below_drew1) | exact HB.out)); rintro e w5 ⟨rfl, hb⟩; refine ⟨_, rfl, ?_⟩; have n0_ := Aside0.mk (below_step (by repeat (first | (with_reducible first | exact HB.out | apply below_alloc | apply pw_below_drewN | apply below_drew1) | exact HB.out)) hb); clear HB; have HB := n0_; clear n0_; (try clear hb); (try clear hb2); (try clear hk); (try clear hi)))
      go_ret
      exact ⟨by first | rfl | (simp [errW_none, errW_some] <;> rfl) | (simp [*, errW_none, errW_some] <;> rfl), by repeat (first | (with_reducible first | exact HB.out | apply below_alloc | apply pw_below_drewN | apply below_drew1) | exact HB.out)⟩
    · rw [if_neg c4] at H
      have c4b0 : decide (100 < (l0.length : Int)) = false := decide_eq_false c4
      have c4b1 : decide (100 < l0.length) = false := decide_eq_false (by omega)
      clear c4
      replace H := Option.bind_eq_some_iff.mp H
      obtain ⟨t383, A60, H⟩ := H
      replace H : ((lexer_Errors.f k t383).bind fun t386 => ((trickleref15_Errors.f k l0).bind fun t389 => ((trickleref15_SameDiagnostics.f k t386 t389).bind fun t392 => (some t392)))) = some r := H
      have A6 := Aside0.mk A60
      clear A60
      replace H := Option.bind_eq_some_iff.mp H
      obtain ⟨t386, A70, H⟩ := H
      replace H : ((trickleref15_Errors.f k l0).bind fun t389 => ((trickleref15_SameDiagnostics.f k t386 t389).bind fun t392 => (some t392))) = some r := H
      have A7 := Aside0.mk A70
      clear A70
      replace H := Option.bind_eq_some_iff.mp H
      obtain ⟨t389, A80, H⟩ := H
      replace H : ((trickleref15_SameDiagnostics.f k t386 t389).bind fun t392 => (some t392)) = some r := H
      have A8 := Aside0.mk A80
      clear A80
      replace H := Option.bind_eq_some_iff.mp H
      obtain ⟨t392, A90, H⟩ := H
      replace H : (some t392) = some r := H
      have A9 := Aside0.mk A90
      clear A90
      obtain rfl := Option.some.inj H
      go_enter Tryd.func9, Tryd.ntmps9
      go_wp2_with (first | ((with_reducible refine gate_callee (f := 10) rfl ?_); refine goesL_ (some 3) rfl rfl Tryd.func10 (by kernel_rfl) rfl #[] rfl (by (try simp only [List.map_toArray, List.map_cons, List.map_nil]); first | done | rfl | (simp only [List.length_drop, List.length_take]; rfl)) ?_; (with_reducible refine (tricklelaw15_wakes.calls k  true _ ?side1 A2.out).mono ?_); (case side1 => refine GW.below HG.out ?_; repeat (first | (with_reducible first | exact HB.out | apply below_alloc | apply pw_below_drewN | apply below_drew1) | exact HB.out)); rintro e w10 ⟨rfl, hb⟩; refine ⟨_, rfl, ?_⟩; have n0_ := Aside0.mk (below_step (by repeat (first | (with_reducible first | exact HB.out | apply below_alloc | apply pw_below_drewN | apply below_drew1) | exact HB.out)) hb); clear HB; have HB := n0_; clear n0_; (try clear hb); (try clear hb2); (try clear hk); (try clear hi)) | (go_at_call 16; (with_reducible refine (tricklelaw15_own.calls k _ _ l0 t383 _ ?side1 ?side2 A6.out).mono ?_); (case side1 => repeat (first | exact (Kd.C_below HR0.out HB.out) | (with_reducible refine Kd.C_alloc ?_ _) | (with_reducible refine Kd.C_drewN ?_ _) | (with_reducible refine Kd.C_drew ?_))); (case side2 => exact HC0.out); rintro e w11 ⟨v384, rfl, ho0, hb⟩; have n0_ := Aside0.mk (Kd.R_lower ho0 (below_size (by repeat (first | (with_reducible first | exact HB.out | apply below_alloc | apply pw_below_drewN | apply below_drew1) | exact HB.out)))); have n1_ := Aside0.mk (below_step (by repeat (first | (with_reducible first | exact HB.out | apply below_alloc | apply pw_below_drewN | apply below_drew1) | exact HB.out)) hb); clear HB; have HO385 := n0_; have HB := n1_; clear n0_ n1_; (try clear hb); (try clear hb2); (try clear hk); (try clear hi); (try clear ho0); obtain ⟨Ao12, co12, eo12⟩ := Kd.R_slice HO385.out; subst eo12) | (go_at_call 24; (with_reducible refine (lexer_Errors.calls k _ _ t383 t386 _ ?side1 ?side2 A7.out).mono ?_); (case side1 => repeat (first | exact (Kd.R_reads' HO385.out).2.2 | (with_reducible refine Kd.C_alloc ?_ _) | (with_reducible refine Kd.C_drewN ?_ _) | (with_reducible refine Kd.C_drew ?_))); (case side2 => exact (Kd.R_reads' HO385.out).2.1); rintro e w13 ⟨v387, rfl, ho0, hb⟩; have n0_ := Aside0.mk (Kd.R_below (by (with_reducible repeat (first | apply Kd.R_alloc | apply Kd.R_drewN | apply Kd.R_drew)); exact HO385.out) hb); have n1_ := Aside0.mk (Kd.R_lower ho0 (below_size (by repeat (first | (with_reducible first | exact HB.out | apply below_alloc | apply pw_below_drewN | apply below_drew1) | exact HB.out)))); have n2_ := Aside0.mk (below_step (by repeat (first | (with_reducible first | exact HB.out | apply below_alloc | apply pw_below_drewN | apply below_drew1) | exact HB.out)) hb); clear HO385; clear HB; have HO385 := n0_; have HO388 := n1_; have HB := n2_; clear n0_ n1_ n2_; (try clear hb); (try clear hb2); (try clear hk); (try clear hi); (try clear ho0)) | (go_at_call 25; (with_reducible refine (trickleref15_Errors.calls k _ _ l0 t389 _ ?side1 ?side2 A8.out).mono ?_); (case side1 => repeat (first | exact (Kd.C_below HR0.out HB.out) | (with_reducible refine Kd.C_alloc ?_ _) | (with_reducible refine Kd.C_drewN ?_ _) | (with_reducible refine Kd.C_drew ?_))); (case side2 => exact HC0.out); rintro e w14 ⟨v390, rfl, ho0, hb⟩; have n0_ := Aside0.mk (Kd.R_below (by (with_reducible repeat (first | apply Kd.R_alloc | apply Kd.R_drewN | apply Kd.R_drew)); exact HO385.out) hb); have n1_ := Aside0.mk (Kd.R_elder' (by (with_reducible repeat (first | apply Kd.R_alloc | apply Kd.R_drewN | apply Kd.R_drew)); exact HO388.out) (Kd.R_base ho0) hb); have n2_ := Aside0.mk (Kd.R_lower (Kd.R_new' ho0 (Kd.R_lt (by (with_reducible repeat (first | apply Kd.R_alloc | apply Kd.R_drewN | apply Kd.R_drew)); exact HO388.out))) (below_size (by repeat (first | (with_reducible first | exact HB.out | apply below_alloc | apply pw_below_drewN | apply below_drew1) | exact HB.out)))); have n3_ := Aside0.mk (below_step (by repeat (first | (with_reducible first | exact HB.out | apply below_alloc | apply pw_below_drewN | apply below_drew1) | exact HB.out)) hb); clear HO385; clear HO388; clear HB; have HO385 := n0_; have HO388 := n1_; have HO391 := n2_; have HB := n3_; clear n0_ n1_ n2_ n3_; (try clear hb); (try clear hb2); (try clear hk); (try clear hi); (try clear ho0); obtain ⟨Ao15, co15, eo15⟩ := Kd.R_slice HO388.out; subst eo15; obtain ⟨Ao16, co16, eo16⟩ := Kd.R_slice HO391.out; subst eo16) | (go_at_call 23; (with_reducible refine (trickleref15_SameDiagnostics.calls k _ _ t386 _ _ t389 t392 _ ?side1 ?side2 ?side3 ?side4 A9.out).mono ?_); (case side1 => repeat (first | exact (Kd.R_reads' HO388.out).2.2 | (with_reducible refine Kd.C_alloc ?_ _) | (with_reducible refine Kd.C_drewN ?_ _) | (with_reducible refine Kd.C_drew ?_))); (case side2 => exact (Kd.R_reads' HO388.out).2.1); (case side3 => repeat (first | exact (Kd.R_reads' HO391.out).2.2 | (with_reducible refine Kd.C_alloc ?_ _) | (with_reducible refine Kd.C_drewN ?_ _) | (with_reducible refine Kd.C_drew ?_))); (case side4 => exact (Kd.R_reads' HO391.out).2.1); rintro e w' ⟨rfl, ⟨nd, rfl⟩⟩))
      go_ret
      exact ⟨by first | rfl | (simp [errW_none, errW_some] <;> rfl) | (simp [*, errW_none, errW_some] <;> rfl), by repeat (first | (with_reducible first | exact HB.out | apply below_alloc | apply pw_below_drewN | apply below_drew1) | exact HB.out)⟩
  · replace c3 := Bool.eq_false_iff.mpr c3
    subst c3
    have H1 : (some false) = some r := by rw [if_neg (show ¬ (false = true) by decide)] at H; exact H
    clear H
    have H := H1
    clear H1
    obtain rfl := Option.some.inj H
    go_enter Tryd.func9, Tryd.ntmps9
    go_wp2_with (first | ((with_reducible refine gate_callee (f := 10) rfl ?_); refine goesL_ (some 3) rfl rfl Tryd.func10 (by kernel_rfl) rfl #[] rfl (by (try simp only [List.map_toArray, List.map_cons, List.map_nil]); first | done | rfl | (simp only [List.length_drop, List.length_take]; rfl)) ?_; (with_reducible refine (tricklelaw15_wakes.calls k  false _ ?side1 A2.out).mono ?_); (case side1 => refine GW.below HG.out ?_; repeat (first | (with_reducible first | exact HB.out | apply below_alloc | apply pw_below_drewN | apply below_drew1) | exact HB.out)); rintro e w17 ⟨rfl, hb⟩; refine ⟨_, rfl, ?_⟩; have n0_ := Aside0.mk (below_step (by repeat (first | (with_reducible first | exact HB.out | apply below_alloc | apply pw_below_drewN | apply below_drew1) | exact HB.out)) hb); clear HB; have HB := n0_; clear n0_; (try clear hb); (try clear hb2); (try clear hk); (try clear hi)))
    go_ret
    exact ⟨by first | rfl | (simp [errW_none, errW_some] <;> rfl) | (simp [*, errW_none, errW_some] <;> rfl), by repeat (first | (with_reducible first | exact HB.out | apply below_alloc | apply pw_below_drewN | apply below_drew1) | exact HB.out)⟩

end Go.Proofs.YtmpbkemicfmbaaaDoor.PX
/- LexerErrors in plain words: both give a diagnostic for each invalid token, with the same text. -/
namespace Go.Proofs.YtmpbkemicfmbaaaDoor.PX
open Go.RowKit Go.Proofs.YtmpbkemicfmbaaaDoorW.PrintWords Go.Proofs.YtmpbkemicfmbaaaDoorW.PrintLast Go.Proofs.YtmpbkemicfmbaaaDoorW.PrintMore
set_option linter.unusedVariables false
set_option linter.unusedSimpArgs false
def eC : ByteArray := ⟨#[105, 110, 118, 97, 108, 105, 100, 32, 99, 104, 97, 114, 97, 99, 116, 101, 114]⟩
def eW : ByteArray := ⟨#[105, 100, 101, 110, 116, 105, 102, 105, 101, 114, 32, 116, 111, 111, 32, 108, 111, 110, 103]⟩
def eN : ByteArray := ⟨#[105, 110, 118, 97, 108, 105, 100, 32, 105, 110, 116, 101, 103, 101, 114]⟩
def errT (s : ByteArray) : ByteArray := if (bs s).length = 0 then eC else if ltrI (bt s 0) = true then eW else if dgtI (bt s 0) = true then eN else eC
def errF : List S32 → List S62
  | [] => []
  | t :: r => if t.f0 = 5 then ⟨t.f3, errT t.f1⟩ :: errF r else errF r
theorem errF_le (l : List S32) : (errF l).length ≤ l.length := by
  induction l with
  | nil => simp [errF]
  | cons t r ih =>
    rw [errF]
    split <;> simp only [List.length_cons] <;> omega
theorem errs_impl (l : List S32) (hn : l.length ≤ 1000000) : ∀ (d j : Nat) (acc : List S62), j + d = l.length → acc.length ≤ j → Ev (fun k => lexer_Errors.l0 k acc (l.map to37) (l.length : Int) (j : Int)) (acc ++ errF (l.drop j))
  | 0, j, acc, hj, ha => by
    rw [List.drop_of_length_le (by omega), errF, List.append_nil]
    exact Ev.step (fun k => by rw [lexer_Errors.l0]) (Ev.neg (by omega) (Ev.now _))
  | d + 1, j, acc, hj, ha => by
    have hl : j < l.length := by omega
    have hm : j < (l.map to37).length := by rw [List.length_map]; exact hl
    refine Ev.step (fun k => by rw [lexer_Errors.l0]) (Ev.pos (by omega) (Ev.pos (by omega) (Ev.pos (by omega) ?_)))
    rw [rd_T37_nat _ j hm, List.getElem_map, wrap_nat (n := l.length) hl (by omega), drop_cons l j hl, errF]
    generalize l[j] = t
    show Ev (fun k => if t.f0 = 5 then _ else _) _
    by_cases h5 : t.f0 = 5
    · rw [if_pos h5]
      have put : ∀ x : ByteArray, errT t.f1 = x → Ev (fun k => if acc.length < 5864062014805 then (lexer_Errors.l0 k (acc ++ [(⟨t.f3, x⟩ : S62)]) (l.map to37) (l.length : Int) ((j + 1 : Nat) : Int)) else none) (acc ++ ⟨t.f3, errT t.f1⟩ :: errF (l.drop (j + 1))) := by
        intro x hx
        refine Ev.pos (by omega) (Ev.cast (errs_impl l hn d (j + 1) _ (by omega) (by simp; omega)) ?_)
        rw [hx, List.append_assoc]
        rfl
      refine Ev.pos h5 ?_
      have hs := bs_len t.f1
      by_cases he : (bs t.f1).length = 0
      · refine Ev.pos (show (to37 t).f1.toList = [] by rw [toList_bs]; exact List.length_eq_zero_iff.mp he) (put eC (if_pos he))
      · refine Ev.neg (show ¬ (to37 t).f1.toList = [] by rw [toList_bs]; exact fun e => he (by rw [show bs t.f1 = [] from e]; rfl)) (Ev.pos (show (0 : Int) < (t.f1.size : Int) by omega) (Ev.const (letter_impl _) ?_))
        by_cases h1 : ltrI (bt t.f1 0) = true
        · exact Ev.pos h1 (put eW ((if_neg he).trans (if_pos h1)))
        · refine Ev.neg h1 (Ev.const (digit_impl _) ?_)
          by_cases h2 : dgtI (bt t.f1 0) = true
          · exact Ev.pos h2 (put eN ((if_neg he).trans ((if_neg h1).trans (if_pos h2))))
          · exact Ev.neg h2 (put eC ((if_neg he).trans ((if_neg h1).trans (if_neg h2))))
    · rw [if_neg h5]
      exact Ev.neg h5 (errs_impl l hn d (j + 1) _ (by omega) (by omega))
theorem let_no_dig (c : Int) (h : ltrI c = true) : dgtI c = false := by
  unfold ltrI at h
  unfold dgtI
  simp only [Bool.or_eq_true, Bool.and_eq_true, decide_eq_true_eq, beq_iff_eq] at h
  rw [Bool.and_eq_false_iff, decide_eq_false_iff_not, decide_eq_false_iff_not]
  omega
theorem errs_ref (l : List S32) (hn : l.length ≤ 1000000) : ∀ (d j : Nat) (acc : List S62), j + d = l.length → acc.length ≤ j → Ev (fun k => trickleref15_Errors.l0 k l acc (j : Int)) (acc ++ errF (l.drop j))
  | 0, j, acc, hj, ha => by
    rw [List.drop_of_length_le (by omega), errF, List.append_nil]
    exact Ev.step (fun k => by rw [trickleref15_Errors.l0]) (Ev.neg (by omega) (Ev.now _))
  | d + 1, j, acc, hj, ha => by
    have hl : j < l.length := by omega
    have hrd := rd_T32_nat l j hl
    refine Ev.step (fun k => by rw [trickleref15_Errors.l0]) (Ev.pos (by omega) (Ev.pos (by omega) ?_))
    rw [drop_cons l j hl, errF, hrd, wrap_nat (n := l.length) hl (by omega)]
    by_cases h5 : l[j].f0 = 5
    · rw [if_pos h5]
      refine Ev.pos h5 ?_
      have hs := bs_len l[j].f1
      have put : ∀ x : ByteArray, errT l[j].f1 = x → Ev (fun k => if acc.length < 5864062014805 then (trickleref15_Errors.l0 k l (acc ++ [(⟨l[j].f3, x⟩ : S62)]) ((j + 1 : Nat) : Int)) else none) (acc ++ ⟨l[j].f3, errT l[j].f1⟩ :: errF (l.drop (j + 1))) := by
        intro x hx
        refine Ev.pos (by omega) (Ev.cast (errs_ref l hn d (j + 1) _ (by omega) (by simp; omega)) ?_)
        rw [hx, List.append_assoc]
        rfl
      have last : ∀ x : ByteArray, ((bs l[j].f1).length = 0 → errT l[j].f1 = x) → ((bs l[j].f1).length ≠ 0 → dgtI (bt l[j].f1 0) = true → errT l[j].f1 = eN) → ((bs l[j].f1).length ≠ 0 → dgtI (bt l[j].f1 0) ≠ true → errT l[j].f1 = x) → Ev (fun k => trickleref15_Errors.j2 k l acc (j : Int) x) (acc ++ ⟨l[j].f3, errT l[j].f1⟩ :: errF (l.drop (j + 1))) := by
        intro x a1 a2 a3
        refine Ev.step (fun k => by rw [trickleref15_Errors.j2]) (Ev.pos (by omega) (Ev.pos (by omega) ?_))
        rw [hrd, wrap_nat (n := l.length) hl (by omega)]
        by_cases he : (bs l[j].f1).length = 0
        · exact Ev.neg (by omega) (put x (a1 he))
        · refine Ev.pos (by omega) (Ev.pos (by omega) (Ev.const (digit_ref _) ?_))
          by_cases h2 : dgtI (bt l[j].f1 0) = true
          · exact Ev.pos h2 (put eN (a2 he h2))
          · exact Ev.neg h2 (put x (a3 he h2))
      by_cases he : (bs l[j].f1).length = 0
      · refine Ev.neg (by omega) (Ev.step (f := fun k => trickleref15_Errors.j2 k l acc (j : Int) eC) (fun k => by rw [trickleref15_Errors.j1, if_neg (by decide)]; rfl) (last eC (fun _ => if_pos he) (fun h => absurd he h) (fun h => absurd he h)))
      · refine Ev.pos (by omega) (Ev.pos (by omega) (Ev.const (letter_ref _) ?_))
        refine Ev.step (fun k => by rw [trickleref15_Errors.j1]) ?_
        by_cases h1 : ltrI (bt l[j].f1 0) = true
        · have h2 := let_no_dig _ h1
          exact Ev.pos h1 (last eW (fun h => absurd h he) (fun _ h => by rw [h2] at h; cases h) (fun _ _ => (if_neg he).trans (if_pos h1)))
        · exact Ev.neg h1 (last eC (fun h => absurd h he) (fun _ h => (if_neg he).trans ((if_neg h1).trans (if_pos h))) (fun _ h => (if_neg he).trans ((if_neg h1).trans (if_neg h))))
    · rw [if_neg h5]
      exact Ev.neg h5 (errs_ref l hn d (j + 1) _ (by omega) (by omega))
theorem sameD_loop (l : List S62) (hn : l.length ≤ 1000000) : ∀ (d j : Nat), j + d = l.length → Ev (fun k => trickleref15_SameDiagnostics.l0 k l l (j : Int)) true
  | 0, j, hj => Ev.step (fun k => by rw [trickleref15_SameDiagnostics.l0]) (Ev.neg (by omega) (Ev.now _))
  | d + 1, j, hj => by
    refine Ev.step (fun k => by rw [trickleref15_SameDiagnostics.l0]) (Ev.pos (by omega) (Ev.pos (by omega) (Ev.pos (by omega) (Ev.neg (by simp) ?_))))
    rw [wrap_nat (n := l.length) (by omega) (by omega)]
    exact sameD_loop l hn d (j + 1) (by omega)
theorem sameD_ev (l : List S62) (hn : l.length ≤ 1000000) : Ev (fun k => trickleref15_SameDiagnostics.f k l l) true :=
  Ev.congr (f := fun k => trickleref15_SameDiagnostics.l0 k l l ((0 : Nat) : Int)) (fun k => by rw [trickleref15_SameDiagnostics.f, if_pos rfl]; rfl) (sameD_loop l hn l.length 0 (by omega))
end Go.Proofs.YtmpbkemicfmbaaaDoor.PX
namespace Go.Proofs.YtmpbkemicfmbaaaDoor.Pure
open Go.RowKit Go.Proofs.YtmpbkemicfmbaaaDoor.PX Go.Proofs.YtmpbkemicfmbaaaDoorW.PrintWords Go.Proofs.YtmpbkemicfmbaaaDoorW.PrintLast
set_option linter.unusedVariables false
theorem LexerErrors (l0 : List S32) (hw : ∀ x ∈ l0, Wf32 x) : ∃ k, tricklelaw15_LexerErrors.f k l0 = some true := by
  refine Ev.rounds (Ev.congr (fun k => by rw [tricklelaw15_LexerErrors.f]) (Ev.bind wakes15 (Ev.pos rfl ?_)))
  by_cases h : (l0.length : Int) > 100
  · exact Ev.pos h (Ev.now _)
  have hle := errF_le l0
  have hi := errs_impl l0 (by omega) l0.length 0 [] (by omega) (by simp)
  have hr := errs_ref l0 (by omega) l0.length 0 [] (by omega) (by simp)
  rw [List.drop_zero, List.nil_append] at hi hr
  refine Ev.neg h (Ev.bind (own_ev l0 (by omega)) (Ev.bind (a := errF l0) (Ev.congr (f := fun k => lexer_Errors.l0 k [] (l0.map to37) (l0.length : Int) ((0 : Nat) : Int)) (fun k => by rw [lexer_Errors.f, List.length_map]; rfl) hi) (Ev.bind hr (Ev.bind (sameD_ev _ (by omega)) (Ev.now _)))))
end Go.Proofs.YtmpbkemicfmbaaaDoor.Pure
