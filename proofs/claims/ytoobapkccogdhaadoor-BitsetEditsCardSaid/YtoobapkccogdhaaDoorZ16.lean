/- Parts of the proof, merged in build order: MEdits. -/
import Derived.Test.YtoobapkccogdhaaDoorZ1
import Derived.Test.YtoobapkccogdhaaDoorZ4
import Derived.Test.YtoobapkccogdhaaDoorZ2
import Derived.Test.YtoobapkccogdhaaDoorZ3
import Derived.Test.YtoobapkccogdhaaDoorZ15
import Derived.Test.YtoobapkccogdhaaDoorZ8
-- Written by a program of this session (wip/xprint.py, over the kit's print tool). Lean checks it.
namespace Go.Proofs.YtoobapkccogdhaaDoor.PX
open Go.RowKit Go.Proofs.YtoobapkccogdhaaDoorW.PrintWords Go.Proofs.YtoobapkccogdhaaDoorW.PrintLast Go.Proofs.YtoobapkccogdhaaDoorW.PrintMore
attribute [local go_sem] max2_int min2_int max_two min_two max_three min_three max_four min_four   -- for this text's walks alone
set_option linter.unusedVariables false
set_option linter.unusedSimpArgs false

/-! ### tricklelaw04_BitsetEdits: function 8 -/
mutual
def tricklelaw04_BitsetEdits.l0 : Nat → List (S27) → List (List Int) → List Int → List (S49) → Int → Int → List Int → Option (Bool)
  | 0, _, _, _, _, _, _, _ => none
  | k + 1, x3, x4, x6, x16, x17, x18, x265000 => if x18 < x17 then (if 0 ≤ x18 then (if x18 < (x16.length : Int) then (if (rd_T49 x16 x18).f1 = true then ((bitset_Set_Without.f k x265000 ((rd_T49 x16 x18).f0)).bind fun t267 => ((trickleref04_MinusV.f k x6 (([(rd_T49 x16 x18).f0] : List Int))).bind fun t273 => (if x3.length < 5864062014805 then (if x4.length < 5864062014805 then (tricklelaw04_BitsetEdits.l0 k (x3 ++ [(⟨t267⟩ : S27)]) (x4 ++ [t273]) t273 x16 x17 (wrap64 (x18 + 1)) t267) else (none)) else (none)))) else ((bitset_Set_With.f k x265000 ((rd_T49 x16 x18).f0)).bind fun t282 => ((trickleref04_With.f k x6 ((rd_T49 x16 x18).f0)).bind fun t285 => (if x3.length < 5864062014805 then (if x4.length < 5864062014805 then (tricklelaw04_BitsetEdits.l0 k (x3 ++ [(⟨t282⟩ : S27)]) (x4 ++ [t285]) t285 x16 x17 (wrap64 (x18 + 1)) t282) else (none)) else (none))))) else (none)) else (none)) else (tricklelaw04_BitsetEdits.l1 k x3 x4 (x3.length : Int) 0)
def tricklelaw04_BitsetEdits.l1 : Nat → List (S27) → List (List Int) → Int → Int → Option (Bool)
  | 0, _, _, _, _ => none
  | k + 1, x3, x4, x51, x52 => if x52 < x51 then (if 0 ≤ x52 then (if x52 < (x3.length : Int) then (if x52 < (x4.length : Int) then ((tricklelaw04_same.f k ((rd_T27 x3 x52).f0) (rd_L6 x4 x52)).bind fun t296 => (if t296 = true then (tricklelaw04_BitsetEdits.l1 k x3 x4 x51 (wrap64 (x52 + 1))) else (some false))) else (none)) else (none)) else (none)) else (some true)
end
def tricklelaw04_BitsetEdits.f (k : Nat) (l0 : List (S49)) : Option (Bool) := (tricklelaw04_awake.f k).bind fun t260 => (if t260 = true then (if (l0.length : Int) > 40 then (some true) else ((bitset_Of.f k ([] : List Int)).bind fun t261 => (tricklelaw04_BitsetEdits.l0 k ([] : List (S27)) ([] : List (List Int)) ([] : List Int) l0 (l0.length : Int) 0 t261))) else (some false))
def tricklelaw04_BitsetEdits.T12 : Bool × List (List Nat × List Nat) := (true, [([], []), ([], []), ([1], [1]), ([0, 2], [0, 2]), ([], []), ([], []), ([5], [5]), ([6], [6]), ([4, 7, 3], [4, 7]), ([3, 8, 0, 1, 2, 3], [3]), ([8, 9, 0, 1, 2, 3, 4, 5, 6, 7, 8, 9], [4, 8])])
def tricklelaw04_BitsetEdits.B12 : List Nat := [0, 0, 2, 7, 0, 0, 32, 96, 255, 511, 1023]
theorem tricklelaw04_BitsetEdits.tab12 : rtab .any (opsOf Tryd.f8 12) = tricklelaw04_BitsetEdits.T12 := by kernel_rfl
theorem tricklelaw04_BitsetEdits.bits12 : waitsOk tricklelaw04_BitsetEdits.T12.2 tricklelaw04_BitsetEdits.B12 = true := by kernel_rfl
def tricklelaw04_BitsetEdits.T13 : Bool × List (List Nat × List Nat) := (true, [([], []), ([], []), ([1], [1]), ([0, 2], [0, 2]), ([], []), ([], []), ([5], [5]), ([4, 6, 3], [4, 6]), ([3, 7, 0, 1, 2, 3], [3]), ([7, 8, 0, 1, 2, 3, 4, 5, 6, 7, 8], [4, 7])])
def tricklelaw04_BitsetEdits.B13 : List Nat := [0, 0, 2, 7, 0, 0, 32, 127, 255, 511]
theorem tricklelaw04_BitsetEdits.tab13 : rtab .any (opsOf Tryd.f8 13) = tricklelaw04_BitsetEdits.T13 := by kernel_rfl
theorem tricklelaw04_BitsetEdits.bits13 : waitsOk tricklelaw04_BitsetEdits.T13.2 tricklelaw04_BitsetEdits.B13 = true := by kernel_rfl
def tricklelaw04_BitsetEdits.T19 : Bool × List (List Nat × List Nat) := (true, [([], []), ([], []), ([0, 1], [0, 1]), ([2], [2]), ([], []), ([], []), ([4, 5], [4, 5]), ([6], [6]), ([3, 7], [3, 7]), ([8], [8])])
def tricklelaw04_BitsetEdits.B19 : List Nat := [0, 0, 3, 7, 0, 0, 48, 112, 255, 511]
theorem tricklelaw04_BitsetEdits.tab19 : rtab .any (opsOf Tryd.f8 19) = tricklelaw04_BitsetEdits.T19 := by kernel_rfl
theorem tricklelaw04_BitsetEdits.bits19 : waitsOk tricklelaw04_BitsetEdits.T19.2 tricklelaw04_BitsetEdits.B19 = true := by kernel_rfl
set_option maxHeartbeats 8000000 in
set_option maxRecDepth 100000 in
theorem tricklelaw04_BitsetEdits.calls (k : Nat) (A0 : Option Addr) (c0 : Nat) (l0 : List (S49)) (r : Bool) (w : World) (hr0 : Kd.C k49 w A0 l0.length l0) (hc0 : l0.length ≤ c0) (hG : GW w) (h : tricklelaw04_BitsetEdits.f k l0 = some r) :
    Calls Tryd.prog 8 #[.slice A0 l0.length c0] w fun e w' => e = .returned (.bool r) ∧ Below w.heap.size w w' := by
  have hu27 := Tryd.underlying27
  have hu49 := Tryd.underlying49
  have HG := Aside0.mk hG
  clear hG
  have HR0 := Aside0.mk hr0
  have HC0 := Aside0.mk hc0
  clear hr0 hc0
  have HB := Aside0.mk (Below.refl w.heap.size w)
  have H : ((tricklelaw04_awake.f k).bind fun t260 => (if t260 = true then (if (l0.length : Int) > 40 then (some true) else ((bitset_Of.f k ([] : List Int)).bind fun t261 => (tricklelaw04_BitsetEdits.l0 k ([] : List (S27)) ([] : List (List Int)) ([] : List Int) l0 (l0.length : Int) 0 t261))) else (some false))) = some r := h
  clear h
  replace H := Option.bind_eq_some_iff.mp H
  obtain ⟨t260, A20, H⟩ := H
  replace H : (if t260 = true then (if (l0.length : Int) > 40 then (some true) else ((bitset_Of.f k ([] : List Int)).bind fun t261 => (tricklelaw04_BitsetEdits.l0 k ([] : List (S27)) ([] : List (List Int)) ([] : List Int) l0 (l0.length : Int) 0 t261))) else (some false)) = some r := H
  have A2 := Aside0.mk A20
  clear A20
  by_cases c3 : t260 = true
  · subst c3
    have H1 : (if (l0.length : Int) > 40 then (some true) else ((bitset_Of.f k ([] : List Int)).bind fun t261 => (tricklelaw04_BitsetEdits.l0 k ([] : List (S27)) ([] : List (List Int)) ([] : List Int) l0 (l0.length : Int) 0 t261))) = some r := by rw [if_pos rfl] at H; exact H
    clear H
    have H := H1
    clear H1
    by_cases c4 : (l0.length : Int) > 40
    · rw [if_pos c4] at H
      have c4b0 : decide (40 < (l0.length : Int)) = true := decide_eq_true c4
      have c4b1 : decide (40 < l0.length) = true := decide_eq_true (by omega)
      clear c4
      obtain rfl := Option.some.inj H
      go_enter Tryd.func8, Tryd.ntmps8
      go_wp2_with (first | ((with_reducible refine gate_callee (f := 11) rfl ?_); refine goesL_ (some 10) rfl rfl Tryd.func11 (by kernel_rfl) rfl #[] rfl (by (try simp only [List.map_toArray, List.map_cons, List.map_nil]); first | done | rfl | (simp only [List.length_drop, List.length_take]; rfl)) ?_; (with_reducible refine (tricklelaw04_awake.calls k  true _ ?side1 A2.out).mono ?_); (case side1 => refine GW.below HG.out ?_; repeat (first | (with_reducible first | exact HB.out | apply below_alloc | apply pw_below_drewN | apply below_drew1) | exact HB.out)); rintro e w5 ⟨rfl, hb⟩; refine ⟨_, rfl, ?_⟩; have n0_ := Aside0.mk (below_step (by repeat (first | (with_reducible first | exact HB.out | apply below_alloc | apply pw_below_drewN | apply below_drew1) | exact HB.out)) hb); clear HB; have HB := n0_; clear n0_; (try clear hb); (try clear hb2); (try clear hk); (try clear hi)))
      go_ret
      exact ⟨by first | rfl | (simp [errW_none, errW_some] <;> rfl) | (simp [*, errW_none, errW_some] <;> rfl), by repeat (first | (with_reducible first | exact HB.out | apply below_alloc | apply pw_below_drewN | apply below_drew1) | exact HB.out)⟩
    · rw [if_neg c4] at H
      have c4b0 : decide (40 < (l0.length : Int)) = false := decide_eq_false c4
      have c4b1 : decide (40 < l0.length) = false := decide_eq_false (by omega)
      clear c4
      replace H := Option.bind_eq_some_iff.mp H
      obtain ⟨t261, A60, H⟩ := H
      replace H : (tricklelaw04_BitsetEdits.l0 k ([] : List (S27)) ([] : List (List Int)) ([] : List Int) l0 (l0.length : Int) 0 t261) = some r := H
      have A6 := Aside0.mk A60
      clear A60
      have H' := Aside0.mk H
      clear H
      go_enter Tryd.func8, Tryd.ntmps8
      go_wp2_with (first | ((with_reducible refine gate_callee (f := 11) rfl ?_); refine goesL_ (some 10) rfl rfl Tryd.func11 (by kernel_rfl) rfl #[] rfl (by (try simp only [List.map_toArray, List.map_cons, List.map_nil]); first | done | rfl | (simp only [List.length_drop, List.length_take]; rfl)) ?_; (with_reducible refine (tricklelaw04_awake.calls k  true _ ?side1 A2.out).mono ?_); (case side1 => refine GW.below HG.out ?_; repeat (first | (with_reducible first | exact HB.out | apply below_alloc | apply pw_below_drewN | apply below_drew1) | exact HB.out)); rintro e w7 ⟨rfl, hb⟩; refine ⟨_, rfl, ?_⟩; have n0_ := Aside0.mk (below_step (by repeat (first | (with_reducible first | exact HB.out | apply below_alloc | apply pw_below_drewN | apply below_drew1) | exact HB.out)) hb); clear HB; have HB := n0_; clear n0_; (try clear hb); (try clear hb2); (try clear hk); (try clear hi)) | ((with_reducible refine gate_callee (f := 13) rfl ?_); refine goesL_ (some 15) rfl rfl Tryd.func13 (by kernel_rfl) rfl #[.slice none 0 0] rfl (by (try simp only [List.map_toArray, List.map_cons, List.map_nil]); first | done | rfl | (simp only [List.length_drop, List.length_take]; rfl)) ?_; (refine (bitset_Of.calls k _ _ ([] : List Int) t261 _ ?side1 ?side2 A6.out).mono ?_); (case side1 => exact Kd.C_nil _ _); (case side2 => exact Nat.le_refl _); rintro e w8 ⟨v262, rfl, ho0, hb⟩; refine ⟨_, rfl, ?_⟩; have n0_ := Aside0.mk (Kd.V_lower (Kd.V_mono (ok' := fun k_ => True) ho0 (fun k_ hk_ => trivial)) (below_size (by repeat (first | (with_reducible first | exact HB.out | apply below_alloc | apply pw_below_drewN | apply below_drew1) | exact HB.out)))); have n1_ := Aside0.mk (below_step (by repeat (first | (with_reducible first | exact HB.out | apply below_alloc | apply pw_below_drewN | apply below_drew1) | exact HB.out)) hb); clear HB; have HO263 := n0_; have HB := n1_; clear n0_ n1_; (try clear hb); (try clear hb2); (try clear hk); (try clear hi); (try clear ho0)) | ((with_reducible refine gate_dst (N := 5) rfl ?_); refine box_event ?hg (N := 5) ?hd (cs := #[.slice none 0 0]) (t := 27) ?hr ?_; (case hd => rfl); (case hg => rfl); (case hr => first | (go_simp; done) | (go_simp; rfl)); intro gb264 hg w9 hbox hb; have n0_ := Aside0.mk (Kd.V_below (Kd.V_elderB (by (with_reducible repeat (first | apply Kd.V_alloc | apply Kd.V_drewN | apply Kd.V_drew)); exact HO263.out) gb264 (Nat.le_of_eq hg.symm)) hb); have n1_ := Aside0.mk (below_step (by repeat (first | (with_reducible first | exact HB.out | apply below_alloc | apply pw_below_drewN | apply below_drew1) | exact HB.out)) hb); have n2_ := Aside0.mk (hbox); have n3_ := Aside0.mk ((by rw [hg]; exact (below_size (by repeat (first | (with_reducible first | exact HB.out | apply below_alloc | apply pw_below_drewN | apply below_drew1) | exact HB.out))) : w.heap.size ≤ gb264)); have n4_ := Aside0.mk ((by rw [hg]; exact (below_size (by repeat (first | (with_reducible first | exact HB.out | apply below_alloc | apply pw_below_drewN | apply below_drew1) | exact HB.out))) : w.heap.size ≤ gb264)); clear HO263; clear HB; have HO263 := n0_; have HB := n1_; have BK264 := n2_; have GW264 := n3_; have GE264 := n4_; clear n0_ n1_ n2_ n3_ n4_; clear hb hbox hg; obtain ⟨Ao10, co10, eo10⟩ := Kd.V_slice HO263.out; subst eo10; have hcz11_0 : w9.cell? ⟨gb264, 0, none⟩ = some (.slice none 0 0) := (blk_cell BK264.out 0).trans rfl; have hfz11_0 := blk_frozen BK264.out 0))
      go_loopg [3, 4, 6, 18] k (fun kq v3 v4 v6 v18 w' => ∃ (x3_1 : List (S27)) (x4_1 : List (List Int)) (x6_1 : List Int) (x18_1 : Int) (x265000_1 : List Int) (u265000 : Value), v18 = .int .i64 x18_1 ∧ Aside0 (tricklelaw04_BitsetEdits.l0 kq x3_1 x4_1 x6_1 l0 (l0.length : Int) x18_1 x265000_1 = some r) ∧ Aside0 (kq ≤ k) ∧ Aside0 (Kd.N k27 27 w' w.heap.size (fun k_ => some k_ ≠ (v4 : Value).ownBlock ∧ k_ ≠ gb264) v3 x3_1) ∧ Aside0 (Kd.N (Kd.slice 3 (Kd.int .i64)) 22 w' w.heap.size (fun k_ => some k_ ≠ (v3 : Value).ownBlock ∧ k_ ≠ gb264) v4 x4_1) ∧ Aside0 (Kd.V (Kd.int .i64) 3 w' w.heap.size (fun k_ => some k_ ≠ (v3 : Value).ownBlock ∧ some k_ ≠ (v4 : Value).ownBlock ∧ k_ ≠ gb264) v6 x6_1) ∧ Aside0 (Kd.V (Kd.int .u64) 56 w' w.heap.size (fun k_ => some k_ ≠ (v3 : Value).ownBlock ∧ some k_ ≠ (v4 : Value).ownBlock ∧ k_ ≠ gb264) u265000 x265000_1) ∧ Aside0 (w'.heap[gb264]? = some (.cells #[u265000] 27 (0, 0))) ∧ Aside0 (Below w.heap.size w w'))
      case atStart => exact ⟨(([] : List (S27))), (([] : List (List Int))), (([] : List Int)), (0), (t261), (.slice Ao10 t261.length co10), (by first | rfl | (simp; done) | (simp [*]; done)), H', ⟨Nat.le_refl _⟩, ⟨by first | exact Kd.S_nil _ _ _ _ _ | exact Kd.N_nil _ _ _ _ _ | exact Kd.V_nil _ _ _ _ _ | exact Kd.Q_nil _ _ _ _ _ | exact Kd.R_nil _ _ _ _ _⟩, ⟨by first | exact Kd.S_nil _ _ _ _ _ | exact Kd.N_nil _ _ _ _ _ | exact Kd.V_nil _ _ _ _ _ | exact Kd.Q_nil _ _ _ _ _ | exact Kd.R_nil _ _ _ _ _⟩, ⟨Kd.R_V (base := w.heap.size) (by first | exact Kd.R_nil _ _ _ _ _ | exact Kd.N_nil _ _ _ _ _ | exact Kd.V_nil _ _ _ _ _ | exact Kd.Q_nil _ _ _ _ _ | exact Kd.S_nil _ _ _ _ _)⟩, ⟨by (with_reducible repeat (first | apply Kd.V_alloc | apply Kd.V_drewN | apply Kd.V_drew)); exact Kd.V_mono (Kd.V_far (p := ⟨gb264, 0, none⟩) (Kd.V_mono HO263.out (fun k_ hk => (⟨hk, hk.2⟩ : _ ∧ k_ ≠ gb264))) (fun _ hk => hk.2) (.slice Ao10 t261.length co10)) (fun _ hk => ⟨(by simp [Value.ownBlock]), ⟨(by simp [Value.ownBlock]), hk.1.2⟩⟩)⟩, ⟨by (with_reducible repeat (first | refine blk_drewN ?_ _ | refine blk_drew ?_ | refine blk_alloc ?_ _)); refine blk_put (cs := #[.slice none 0 0]) ?_ 0 _ rfl; (with_reducible repeat (first | refine blk_drewN ?_ _ | refine blk_drew ?_ | refine blk_alloc ?_ _)); exact BK264.out⟩, ⟨by repeat (first | (with_reducible first | exact HB.out | apply below_alloc | apply pw_below_drewN | apply below_drew1 | refine below_set ?_ GE264.out) | exact HB.out)⟩⟩
      case round =>
        clear H'
        try clear c1
        try clear p2
        try clear c3
        try clear c4
        try clear c4b0
        try clear c4b1
        try clear c8
        try clear c11
        try clear hcz11_0
        try clear hfz11_0
        obtain ⟨x3_1, x4_1, x6_1, x18_1, x265000_1, u265000, rfl, HA, HK1, HO_3, HO_4, HO_6, HO_265000, BK264, HB⟩ := hrel
        cases gk with
        | zero => exact absurd HA.out (by simp [tricklelaw04_BitsetEdits.l0])
        | succ k1 =>
          have H := HA.out
          clear HA
          simp only [tricklelaw04_BitsetEdits.l0] at H
          by_cases c12 : x18_1 < (l0.length : Int)
          · rw [if_pos c12] at H
            have c12b0 : decide (x18_1 < (l0.length : Int)) = true := decide_eq_true c12
            clear c12
            by_cases c13 : 0 ≤ x18_1
            · rw [if_pos c13] at H
              have c13b0 : decide (0 ≤ x18_1) = true := decide_eq_true c13
              clear c13
              by_cases c14 : x18_1 < (l0.length : Int)
              · rw [if_pos c14] at H
                have c14b0 : decide (x18_1 < (l0.length : Int)) = true := decide_eq_true c14
                clear c14
                obtain ⟨bq15, hbq15⟩ : ∃ b_ : Bool, b_ = ((rd_T49 l0 x18_1).f1) := ⟨_, rfl⟩
                replace H : (if bq15 = true then ((bitset_Set_Without.f k1 x265000_1 ((rd_T49 l0 x18_1).f0)).bind fun t267 => ((trickleref04_MinusV.f k1 x6_1 (([(rd_T49 l0 x18_1).f0] : List Int))).bind fun t273 => (if x3_1.length < 5864062014805 then (if x4_1.length < 5864062014805 then (tricklelaw04_BitsetEdits.l0 k1 (x3_1 ++ [(⟨t267⟩ : S27)]) (x4_1 ++ [t273]) t273 l0 (l0.length : Int) (wrap64 (x18_1 + 1)) t267) else (none)) else (none)))) else ((bitset_Set_With.f k1 x265000_1 ((rd_T49 l0 x18_1).f0)).bind fun t282 => ((trickleref04_With.f k1 x6_1 ((rd_T49 l0 x18_1).f0)).bind fun t285 => (if x3_1.length < 5864062014805 then (if x4_1.length < 5864062014805 then (tricklelaw04_BitsetEdits.l0 k1 (x3_1 ++ [(⟨t282⟩ : S27)]) (x4_1 ++ [t285]) t285 l0 (l0.length : Int) (wrap64 (x18_1 + 1)) t282) else (none)) else (none))))) = some r := by rw [← hbq15] at H; exact H
                have Nbq15 := Aside0.mk hbq15
                clear hbq15
                by_cases c16 : bq15 = true
                · subst c16
                  have H1 : ((bitset_Set_Without.f k1 x265000_1 ((rd_T49 l0 x18_1).f0)).bind fun t267 => ((trickleref04_MinusV.f k1 x6_1 (([(rd_T49 l0 x18_1).f0] : List Int))).bind fun t273 => (if x3_1.length < 5864062014805 then (if x4_1.length < 5864062014805 then (tricklelaw04_BitsetEdits.l0 k1 (x3_1 ++ [(⟨t267⟩ : S27)]) (x4_1 ++ [t273]) t273 l0 (l0.length : Int) (wrap64 (x18_1 + 1)) t267) else (none)) else (none)))) = some r := by rw [if_pos rfl] at H; exact H
                  clear H
                  have H := H1
                  clear H1
                  replace H := Option.bind_eq_some_iff.mp H
                  obtain ⟨t267, A170, H⟩ := H
                  replace H : ((trickleref04_MinusV.f k1 x6_1 (([(rd_T49 l0 x18_1).f0] : List Int))).bind fun t273 => (if x3_1.length < 5864062014805 then (if x4_1.length < 5864062014805 then (tricklelaw04_BitsetEdits.l0 k1 (x3_1 ++ [(⟨t267⟩ : S27)]) (x4_1 ++ [t273]) t273 l0 (l0.length : Int) (wrap64 (x18_1 + 1)) t267) else (none)) else (none))) = some r := H
                  have A17 := Aside0.mk A170
                  clear A170
                  obtain ⟨y270, hy270⟩ : ∃ y_ : List Int, y_ = (([(rd_T49 l0 x18_1).f0] : List Int)) := ⟨_, rfl⟩
                  replace H : ((trickleref04_MinusV.f k1 x6_1 y270).bind fun t273 => (if x3_1.length < 5864062014805 then (if x4_1.length < 5864062014805 then (tricklelaw04_BitsetEdits.l0 k1 (x3_1 ++ [(⟨t267⟩ : S27)]) (x4_1 ++ [t273]) t273 l0 (l0.length : Int) (wrap64 (x18_1 + 1)) t267) else (none)) else (none))) = some r := by first | (rw [hy270]; with_reducible exact H) | (have H2_ := (Option.bind_some _ _).symm.trans H; rw [hy270]; with_reducible exact H2_) | (have H2_ := (Option.bind_some _ _).symm.trans H; with_reducible exact H2_) | with_reducible exact H | (rw [hy270]; exact H) | exact H
                  have Ny270 := Aside0.mk hy270
                  clear hy270
                  replace H := Option.bind_eq_some_iff.mp H
                  obtain ⟨t273, A180, H⟩ := H
                  replace H : (if x3_1.length < 5864062014805 then (if x4_1.length < 5864062014805 then (tricklelaw04_BitsetEdits.l0 k1 (x3_1 ++ [(⟨t267⟩ : S27)]) (x4_1 ++ [t273]) t273 l0 (l0.length : Int) (wrap64 (x18_1 + 1)) t267) else (none)) else (none)) = some r := H
                  have A18 := Aside0.mk A180
                  clear A180
                  by_cases c19 : x3_1.length < 5864062014805
                  · rw [if_pos c19] at H
                    have LMc19 := Aside0.mk c19
                    clear c19
                    obtain ⟨y276, hy276⟩ : ∃ y_ : List (S27), y_ = (x3_1 ++ [(⟨t267⟩ : S27)]) := ⟨_, rfl⟩
                    replace H : (if x4_1.length < 5864062014805 then (tricklelaw04_BitsetEdits.l0 k1 y276 (x4_1 ++ [t273]) t273 l0 (l0.length : Int) (wrap64 (x18_1 + 1)) t267) else (none)) = some r := by first | (rw [hy276]; with_reducible exact H) | (have H2_ := (Option.bind_some _ _).symm.trans H; rw [hy276]; with_reducible exact H2_) | (have H2_ := (Option.bind_some _ _).symm.trans H; with_reducible exact H2_) | with_reducible exact H | (rw [hy276]; exact H) | exact H
                    have Ny276 := Aside0.mk hy276
                    clear hy276
                    by_cases c20 : x4_1.length < 5864062014805
                    · rw [if_pos c20] at H
                      have LMc20 := Aside0.mk c20
                      clear c20
                      obtain ⟨y279, hy279⟩ : ∃ y_ : List (List Int), y_ = (x4_1 ++ [t273]) := ⟨_, rfl⟩
                      replace H : (tricklelaw04_BitsetEdits.l0 k1 y276 y279 t273 l0 (l0.length : Int) (wrap64 (x18_1 + 1)) t267) = some r := by first | (rw [hy279]; with_reducible exact H) | (have H2_ := (Option.bind_some _ _).symm.trans H; rw [hy279]; with_reducible exact H2_) | (have H2_ := (Option.bind_some _ _).symm.trans H; with_reducible exact H2_) | with_reducible exact H | (rw [hy279]; exact H) | exact H
                      have Ny279 := Aside0.mk hy279
                      clear hy279
                      have H' := Aside0.mk H
                      clear H
                      have p265 : 0 ≤ (x18_1 : Int) := of_decide_eq_true (by first | (with_reducible assumption) | assumption)
                      have q265 : x18_1 < (l0.length : Int) := of_decide_eq_true (by first | (with_reducible assumption) | assumption)
                      obtain ⟨ad265, e265, hx265_0, hx265_1⟩ := at_T49 HR0.out x18_1 p265 q265
                      (try rw [← Nbq15.out] at hx265_1)
                      cases e265
                      replace hx265_0 := (HB.out.cell (World.block_lt_of_cell? w _ hx265_0)).trans hx265_0
                      replace hx265_1 := (HB.out.cell (World.block_lt_of_cell? w _ hx265_1)).trans hx265_1
                      replace p265 := eq_true p265
                      replace q265 := eq_true q265
                      try go_wp2_with (first | ((with_reducible refine gate_dst (N := 8) rfl ?_); refine box_event ?hg (N := 8) ?hd (cs := #[.int .i64 0, .bool false]) (t := 49) ?hr ?_; (case hd => rfl); (case hg => rfl); (case hr => first | (go_simp; done) | (go_simp; rfl)); intro gb266 hg w21 hbox hb; have n0_ := Aside0.mk (Kd.N_below (Kd.N_elderB (by (with_reducible repeat (first | apply Kd.N_alloc | apply Kd.N_drewN | apply Kd.N_drew)); exact HO_3.out) gb266 (Nat.le_of_eq hg.symm)) hb); have n1_ := Aside0.mk (Kd.N_below (Kd.N_elderB (by (with_reducible repeat (first | apply Kd.N_alloc | apply Kd.N_drewN | apply Kd.N_drew)); exact HO_4.out) gb266 (Nat.le_of_eq hg.symm)) hb); have n2_ := Aside0.mk (Kd.V_below (Kd.V_elderB (by (with_reducible repeat (first | apply Kd.V_alloc | apply Kd.V_drewN | apply Kd.V_drew)); exact HO_6.out) gb266 (Nat.le_of_eq hg.symm)) hb); have n3_ := Aside0.mk (Kd.V_below (Kd.V_elderB (by (with_reducible repeat (first | apply Kd.V_alloc | apply Kd.V_drewN | apply Kd.V_drew)); exact HO_265000.out) gb266 (Nat.le_of_eq hg.symm)) hb); have n4_ := Aside0.mk (blk_below (g := gb264) (o := .cells #[u265000] 27 (0, 0)) (by (with_reducible repeat (first | refine blk_drewN ?_ _ | refine blk_drew ?_ | refine blk_alloc ?_ _)); exact BK264.out) hb); have n5_ := Aside0.mk (below_step (by repeat (first | (with_reducible first | exact HB.out | apply below_alloc | apply pw_below_drewN | apply below_drew1 | refine below_set ?_ GE264.out) | exact HB.out)) hb); have n6_ := Aside0.mk (hbox); have n7_ := Aside0.mk ((by rw [hg]; exact (below_size (by repeat (first | (with_reducible first | exact HB.out | apply below_alloc | apply pw_below_drewN | apply below_drew1 | refine below_set ?_ GE264.out) | exact HB.out))) : w.heap.size ≤ gb266)); have n8_ := Aside0.mk ((by rw [hg]; exact (below_size (by repeat (first | (with_reducible first | exact HB.out | apply below_alloc | apply pw_below_drewN | apply below_drew1 | refine below_set ?_ GE264.out) | exact HB.out))) : w.heap.size ≤ gb266)); have n9_ := Aside0.mk ((by rw [hg]; exact Nat.ne_of_lt (blk_lt (g := gb264) (o := .cells #[u265000] 27 (0, 0)) (by (with_reducible repeat (first | refine blk_drewN ?_ _ | refine blk_drew ?_ | refine blk_alloc ?_ _)); exact BK264.out)) : gb264 ≠ gb266)); have n10_ := Aside0.mk ((by rw [hg]; exact Nat.ne_of_gt (blk_lt (g := gb264) (o := .cells #[u265000] 27 (0, 0)) (by (with_reducible repeat (first | refine blk_drewN ?_ _ | refine blk_drew ?_ | refine blk_alloc ?_ _)); exact BK264.out)) : gb266 ≠ gb264)); clear HO_3; clear HO_4; clear HO_6; clear HO_265000; clear BK264; clear HB; have HO_3 := n0_; have HO_4 := n1_; have HO_6 := n2_; have HO_265000 := n3_; have BK264 := n4_; have HB := n5_; have BK266 := n6_; have GW266 := n7_; have GE266 := n8_; have NB264_266 := n9_; have NB266_264 := n10_; clear n0_ n1_ n2_ n3_ n4_ n5_ n6_ n7_ n8_ n9_ n10_; clear hb hbox hg; have hnb22 := NB266_264.out; have hnc22 := NB264_266.out; have hcz23_0 : w21.cell? ⟨gb266, 0, none⟩ = some (.int .i64 0) := (blk_cell BK266.out 0).trans rfl; have hcz23_1 : w21.cell? ⟨gb266, 1, none⟩ = some (.bool false) := (blk_cell BK266.out 1).trans rfl; have hfz23_0 := blk_frozen BK266.out 0; have hfz23_1 := blk_frozen BK266.out 1; obtain ⟨Ao24, co24, eo24⟩ := Kd.V_slice HO_265000.out; subst eo24; obtain ⟨Ao25, co25, eo25⟩ := Kd.V_slice HO_6.out; subst eo25))
                      have n0_ : Aside0 (Kd.N k27 27 ((w21.setCell ⟨gb266, 0, none⟩ (.int .i64 ((rd_T49 l0 x18_1).f0))).setCell ⟨gb266, 1, none⟩ (.bool true)) w.heap.size (fun k_ => some k_ ≠ (u4 : Value).ownBlock ∧ k_ ≠ gb264 ∧ k_ ≠ gb266) u3 x3_1) := ⟨by (with_reducible repeat (first | apply Kd.N_alloc | apply Kd.N_drewN | apply Kd.N_drew)); exact Kd.N_mono (Kd.N_far (p := ⟨gb266, 1, none⟩) (Kd.N_far (p := ⟨gb266, 0, none⟩) (Kd.N_mono HO_3.out (fun k_ hk => (⟨hk, hk.2⟩ : _ ∧ k_ ≠ gb266))) (fun _ hk => hk.2) (.int .i64 ((rd_T49 l0 x18_1).f0))) (fun _ hk => hk.2) (.bool true)) (fun _ hk => ⟨hk.1.1.1, ⟨hk.1.1.2, hk.1.2⟩⟩)⟩
                      have n1_ : Aside0 (Kd.N (Kd.slice 3 (Kd.int .i64)) 22 ((w21.setCell ⟨gb266, 0, none⟩ (.int .i64 ((rd_T49 l0 x18_1).f0))).setCell ⟨gb266, 1, none⟩ (.bool true)) w.heap.size (fun k_ => some k_ ≠ (u3 : Value).ownBlock ∧ k_ ≠ gb264 ∧ k_ ≠ gb266) u4 x4_1) := ⟨by (with_reducible repeat (first | apply Kd.N_alloc | apply Kd.N_drewN | apply Kd.N_drew)); exact Kd.N_mono (Kd.N_far (p := ⟨gb266, 1, none⟩) (Kd.N_far (p := ⟨gb266, 0, none⟩) (Kd.N_mono HO_4.out (fun k_ hk => (⟨hk, hk.2⟩ : _ ∧ k_ ≠ gb266))) (fun _ hk => hk.2) (.int .i64 ((rd_T49 l0 x18_1).f0))) (fun _ hk => hk.2) (.bool true)) (fun _ hk => ⟨hk.1.1.1, ⟨hk.1.1.2, hk.1.2⟩⟩)⟩
                      have n2_ : Aside0 (Kd.V (Kd.int .i64) 3 ((w21.setCell ⟨gb266, 0, none⟩ (.int .i64 ((rd_T49 l0 x18_1).f0))).setCell ⟨gb266, 1, none⟩ (.bool true)) w.heap.size (fun k_ => some k_ ≠ (u3 : Value).ownBlock ∧ some k_ ≠ (u4 : Value).ownBlock ∧ k_ ≠ gb264 ∧ k_ ≠ gb266) (.slice Ao25 x6_1.length co25) x6_1) := ⟨by (with_reducible repeat (first | apply Kd.V_alloc | apply Kd.V_drewN | apply Kd.V_drew)); exact Kd.V_mono (Kd.V_far (p := ⟨gb266, 1, none⟩) (Kd.V_far (p := ⟨gb266, 0, none⟩) (Kd.V_mono HO_6.out (fun k_ hk => (⟨hk, hk.2⟩ : _ ∧ k_ ≠ gb266))) (fun _ hk => hk.2) (.int .i64 ((rd_T49 l0 x18_1).f0))) (fun _ hk => hk.2) (.bool true)) (fun _ hk => ⟨hk.1.1.1, ⟨hk.1.1.2.1, ⟨hk.1.1.2.2, hk.1.2⟩⟩⟩)⟩
                      have n3_ : Aside0 (Kd.V (Kd.int .u64) 56 ((w21.setCell ⟨gb266, 0, none⟩ (.int .i64 ((rd_T49 l0 x18_1).f0))).setCell ⟨gb266, 1, none⟩ (.bool true)) w.heap.size (fun k_ => some k_ ≠ (u3 : Value).ownBlock ∧ some k_ ≠ (u4 : Value).ownBlock ∧ k_ ≠ gb264 ∧ k_ ≠ gb266) (.slice Ao24 x265000_1.length co24) x265000_1) := ⟨by (with_reducible repeat (first | apply Kd.V_alloc | apply Kd.V_drewN | apply Kd.V_drew)); exact Kd.V_mono (Kd.V_far (p := ⟨gb266, 1, none⟩) (Kd.V_far (p := ⟨gb266, 0, none⟩) (Kd.V_mono HO_265000.out (fun k_ hk => (⟨hk, hk.2⟩ : _ ∧ k_ ≠ gb266))) (fun _ hk => hk.2) (.int .i64 ((rd_T49 l0 x18_1).f0))) (fun _ hk => hk.2) (.bool true)) (fun _ hk => ⟨hk.1.1.1, ⟨hk.1.1.2.1, ⟨hk.1.1.2.2, hk.1.2⟩⟩⟩)⟩
                      have n4_ : Aside0 (((w21.setCell ⟨gb266, 0, none⟩ (.int .i64 ((rd_T49 l0 x18_1).f0))).setCell ⟨gb266, 1, none⟩ (.bool true)).heap[gb264]? = some (.cells #[.slice Ao24 x265000_1.length co24] 27 (0, 0))) := ⟨by (with_reducible repeat (first | refine blk_drewN ?_ _ | refine blk_drew ?_ | refine blk_alloc ?_ _)); refine blk_far ?_ NB264_266.out _; (with_reducible repeat (first | refine blk_drewN ?_ _ | refine blk_drew ?_ | refine blk_alloc ?_ _)); refine blk_far ?_ NB264_266.out _; (with_reducible repeat (first | refine blk_drewN ?_ _ | refine blk_drew ?_ | refine blk_alloc ?_ _)); exact BK264.out⟩
                      have n5_ : Aside0 (((w21.setCell ⟨gb266, 0, none⟩ (.int .i64 ((rd_T49 l0 x18_1).f0))).setCell ⟨gb266, 1, none⟩ (.bool true)).heap[gb266]? = some (.cells #[.int .i64 ((rd_T49 l0 x18_1).f0), .bool true] 49 (0, 0))) := ⟨by (with_reducible repeat (first | refine blk_drewN ?_ _ | refine blk_drew ?_ | refine blk_alloc ?_ _)); refine blk_put (cs := #[.int .i64 ((rd_T49 l0 x18_1).f0), .bool false]) ?_ 1 _ rfl; (with_reducible repeat (first | refine blk_drewN ?_ _ | refine blk_drew ?_ | refine blk_alloc ?_ _)); refine blk_put (cs := #[.int .i64 0, .bool false]) ?_ 0 _ rfl; (with_reducible repeat (first | refine blk_drewN ?_ _ | refine blk_drew ?_ | refine blk_alloc ?_ _)); exact BK266.out⟩
                      have n6_ : Aside0 (Below w.heap.size w ((w21.setCell ⟨gb266, 0, none⟩ (.int .i64 ((rd_T49 l0 x18_1).f0))).setCell ⟨gb266, 1, none⟩ (.bool true))) := ⟨by repeat (first | (with_reducible first | exact HB.out | apply below_alloc | apply pw_below_drewN | apply below_drew1 | refine below_set ?_ GE264.out | refine below_set ?_ GE266.out) | exact HB.out)⟩
                      (try clear HO_3)
                      (try clear HO_4)
                      (try clear HO_6)
                      (try clear HO_265000)
                      (try clear BK264)
                      (try clear BK266)
                      (try clear HB)
                      generalize ((w21.setCell ⟨gb266, 0, none⟩ (.int .i64 ((rd_T49 l0 x18_1).f0))).setCell ⟨gb266, 1, none⟩ (.bool true)) = w26 at n0_ n1_ n2_ n3_ n4_ n5_ n6_ ⊢
                      have HO_3 := n0_
                      have HO_4 := n1_
                      have HO_6 := n2_
                      have HO_265000 := n3_
                      have BK264 := n4_
                      have BK266 := n5_
                      have HB := n6_
                      clear n0_ n1_ n2_ n3_ n4_ n5_ n6_
                      have n0_ := Aside0.mk (Kd.N_drew HO_3.out)
                      have n1_ := Aside0.mk (Kd.N_drew HO_4.out)
                      have n2_ := Aside0.mk (Kd.V_drew HO_6.out)
                      have n3_ := Aside0.mk (Kd.V_drew HO_265000.out)
                      have n4_ := Aside0.mk (blk_drew BK264.out)
                      have n5_ := Aside0.mk (blk_drew BK266.out)
                      have n6_ := Aside0.mk (below_drew1 HB.out)
                      clear HO_3
                      clear HO_4
                      clear HO_6
                      clear HO_265000
                      clear BK264
                      clear BK266
                      clear HB
                      have HO_3 := n0_
                      have HO_4 := n1_
                      have HO_6 := n2_
                      have HO_265000 := n3_
                      have BK264 := n4_
                      have BK266 := n5_
                      have HB := n6_
                      clear n0_ n1_ n2_ n3_ n4_ n5_ n6_
                      refine start_ (n := 11) (S := fun w' => w'.cell? ⟨gb264, 0, none⟩ = some (.slice Ao24 x265000_1.length co24) ∧ w'.cell? ⟨gb266, 0, none⟩ = some (.int .i64 ((rd_T49 l0 x18_1).f0)) ∧ w'.cell? ⟨gb266, 1, none⟩ = some (.bool true)) (ds := [9]) #[false, false, false, false, false, false, false, false, false, false, false] (by kernel_rfl) rfl rfl ⟨(blk_cell BK264.out 0).trans rfl, (blk_cell BK266.out 0).trans rfl, (blk_cell BK266.out 1).trans rfl⟩ (fun hHeld => ?_); refine with_tabW tricklelaw04_BitsetEdits.tab12 tricklelaw04_BitsetEdits.bits12 (fun HT_ HW_ => ?_)
                      generalize w26.drew = w27 at HO_3 HO_4 HO_6 HO_265000 BK264 BK266 HB hHeld ⊢
                      refine pure_ (i := 1) (N := some 25) (v := ?_) (a' := ?_) #[false, true, false, false, false, false, false, false, false, false, false] rfl rfl (any_of HT_.out (by kernel_rfl)) (fun _ _ _ h => h) (Or.inl ⟨by rfl, ?_⟩) ?_ ?_
                      rotate_left
                      · intro w'
                        go_simp
                        with_reducible rfl
                      rotate_left
                      · simp only [Act.put, List.setIfInBounds_toArray, List.set_cons_zero, List.set_cons_succ, i64_w, i32_w]
                        rfl
                      refine pure_ (i := 4) (N := some 28) (v := ?_) (a' := ?_) #[false, true, false, false, true, false, false, false, false, false, false] rfl rfl (any_of HT_.out (by kernel_rfl)) (fun _ _ _ h => h) (Or.inl ⟨by rfl, ?_⟩) ?_ ?_
                      rotate_left
                      · intro w'
                        go_simp
                        with_reducible rfl
                      rotate_left
                      · simp only [Act.put, List.setIfInBounds_toArray, List.set_cons_zero, List.set_cons_succ, i64_w, i32_w]
                        rfl
                      refine pure_ (i := 5) (N := some 29) (v := ?_) (a' := ?_) #[false, true, false, false, true, true, false, false, false, false, false] rfl rfl (any_of HT_.out (by kernel_rfl)) (fun _ _ _ h => h) (Or.inl ⟨by rfl, ?_⟩) ?_ ?_
                      rotate_left
                      · intro w'
                        go_simp
                        with_reducible rfl
                      rotate_left
                      · simp only [Act.put, List.setIfInBounds_toArray, List.set_cons_zero, List.set_cons_succ, i64_w, i32_w]
                        rfl
                      refine take_ (i := 0) (N := some 24) (v := ?_) (a' := ?_) #[true, true, false, false, true, true, false, false, false, false, false] rfl rfl (take_ofW HT_.out HW_.out (by kernel_rfl)) (fun _ _ _ h => h) (Or.inl ⟨by rfl, ?_⟩) hHeld ?_ ?_
                      rotate_left
                      · rintro w' ⟨s0, s1, s2⟩
                        go_simp
                        with_reducible rfl
                      rotate_left
                      · simp only [Act.put, List.setIfInBounds_toArray, List.set_cons_zero, List.set_cons_succ, i64_w, i32_w]
                        rfl
                      refine take_ (i := 2) (N := some 26) (v := ?_) (a' := ?_) #[true, true, true, false, true, true, false, false, false, false, false] rfl rfl (take_ofW HT_.out HW_.out (by kernel_rfl)) (fun _ _ _ h => h) (Or.inl ⟨by rfl, ?_⟩) hHeld ?_ ?_
                      rotate_left
                      · rintro w' ⟨s0, s1, s2⟩
                        go_simp
                        with_reducible rfl
                      rotate_left
                      · simp only [Act.put, List.setIfInBounds_toArray, List.set_cons_zero, List.set_cons_succ, i64_w, i32_w]
                        rfl
                      refine take_ (i := 6) (N := some 30) (v := ?_) (a' := ?_) #[true, true, true, false, true, true, true, false, false, false, false] rfl rfl (take_ofW HT_.out HW_.out (by kernel_rfl)) (fun _ _ _ h => h) (Or.inl ⟨by rfl, ?_⟩) hHeld ?_ ?_
                      rotate_left
                      · rintro w' ⟨s0, s1, s2⟩
                        go_simp
                        with_reducible rfl
                      rotate_left
                      · simp only [Act.put, List.setIfInBounds_toArray, List.set_cons_zero, List.set_cons_succ, i64_w, i32_w]
                        rfl
                      refine join_ (σ := Value × Value) 3 #[true, true, true, true, true, true, true, true, false, false, false] (fun s_ => [(27, .agg #[s_.1]), (31, s_.2)]) (fun s_ w' => (w'.cell? ⟨gb264, 0, none⟩ = some (.slice Ao24 x265000_1.length co24) ∧ w'.cell? ⟨gb266, 0, none⟩ = some (.int .i64 ((rd_T49 l0 x18_1).f0)) ∧ w'.cell? ⟨gb266, 1, none⟩ = some (.bool true)) ∧ (Kd.V (Kd.int .u64) 56 w' w.heap.size (fun k_ => some k_ ≠ (s_.2 : Value).ownBlock ∧ some k_ ≠ (u3 : Value).ownBlock ∧ some k_ ≠ (u4 : Value).ownBlock ∧ k_ ≠ gb264 ∧ k_ ≠ gb266) s_.1 t267) ∧ (Kd.R (Kd.int .i64) 3 w' w.heap.size (fun _ => True) s_.2 y270) ∧ (Kd.V (Kd.int .u64) 56 w' w.heap.size (fun k_ => some k_ ≠ (s_.2 : Value).ownBlock ∧ some k_ ≠ (u3 : Value).ownBlock ∧ some k_ ≠ (u4 : Value).ownBlock ∧ k_ ≠ gb264 ∧ k_ ≠ gb266) (.slice Ao24 x265000_1.length co24) x265000_1) ∧ (Kd.N k27 27 w' w.heap.size (fun k_ => some k_ ≠ (s_.2 : Value).ownBlock ∧ some k_ ≠ (u4 : Value).ownBlock ∧ k_ ≠ gb264 ∧ k_ ≠ gb266) u3 x3_1) ∧ (Kd.N (Kd.slice 3 (Kd.int .i64)) 22 w' w.heap.size (fun k_ => some k_ ≠ (s_.2 : Value).ownBlock ∧ some k_ ≠ (u3 : Value).ownBlock ∧ k_ ≠ gb264 ∧ k_ ≠ gb266) u4 x4_1) ∧ (Kd.V (Kd.int .i64) 3 w' w.heap.size (fun k_ => some k_ ≠ (s_.2 : Value).ownBlock ∧ some k_ ≠ (u3 : Value).ownBlock ∧ some k_ ≠ (u4 : Value).ownBlock ∧ k_ ≠ gb264 ∧ k_ ≠ gb266) (.slice Ao25 x6_1.length co25) x6_1) ∧ (w'.heap[gb264]? = some (.cells #[.slice Ao24 x265000_1.length co24] 27 (0, 0))) ∧ (w'.heap[gb266]? = some (.cells #[.int .i64 ((rd_T49 l0 x18_1).f0), .bool true] 49 (0, 0))) ∧ (Below w.heap.size w w')) ?_ ?_
                      rotate_left
                      · intro hCont
                        refine two_ (i := 3) (j := 7) (Ni := some 27) (Nj := some 31) #[true, true, true, true, true, true, true, false, false, false, false] #[true, true, true, false, true, true, true, true, false, false, false] rfl rfl rfl rfl (two_of HT_.out (by kernel_rfl)) (by decide) (by decide) (fun K hK => ?_) (fun K hK => ?_)
                        · skip
                          refine goes_ Tryd.func31 (by kernel_rfl) rfl #[.agg #[.slice Ao24 x265000_1.length co24], .int .i64 ((rd_T49 l0 x18_1).f0)] (by rfl) rfl rfl (by (try simp only [List.map_toArray, List.map_cons, List.map_nil]); first | done | rfl | (simp only [List.length_drop, List.length_take]; rfl)) ?_
                          with_reducible refine (bitset_Set_Without.calls k1 _ _ x265000_1 ((rd_T49 l0 x18_1).f0) t267 _ ?side1 ?side2 A17.out).mono ?_
                          (case side1 => repeat (first | exact (Kd.V_reads' HO_265000.out).2.2 | (with_reducible refine Kd.C_alloc ?_ _) | (with_reducible refine Kd.C_drewN ?_ _) | (with_reducible refine Kd.C_drew ?_)))
                          (case side2 => exact (Kd.V_reads' HO_265000.out).2.1)
                          rintro e w28 ⟨v268, rfl, ho0, hb⟩
                          refine ⟨_, rfl, ?_⟩
                          have n0_ := Aside0.mk (Kd.N_below (by (with_reducible repeat (first | apply Kd.N_alloc | apply Kd.N_drewN | apply Kd.N_drew)); exact HO_3.out) hb)
                          have n1_ := Aside0.mk (Kd.N_below (by (with_reducible repeat (first | apply Kd.N_alloc | apply Kd.N_drewN | apply Kd.N_drew)); exact HO_4.out) hb)
                          have n2_ := Aside0.mk (Kd.V_below (by (with_reducible repeat (first | apply Kd.V_alloc | apply Kd.V_drewN | apply Kd.V_drew)); exact HO_6.out) hb)
                          have n3_ := Aside0.mk (Kd.V_below (by (with_reducible repeat (first | apply Kd.V_alloc | apply Kd.V_drewN | apply Kd.V_drew)); exact HO_265000.out) hb)
                          have n4_ := Aside0.mk (Kd.V_lower (Kd.V_mono (ok' := fun k_ => some k_ ≠ (u3 : Value).ownBlock ∧ some k_ ≠ (u4 : Value).ownBlock ∧ k_ ≠ gb264 ∧ k_ ≠ gb266) ho0 (fun k_ hk_ => ⟨(Kd.fresh' (Kd.N_lt (by (with_reducible repeat (first | apply Kd.N_alloc | apply Kd.N_drewN | apply Kd.N_drew)); exact HO_3.out)) k_ hk_), (Kd.fresh' (Kd.N_lt (by (with_reducible repeat (first | apply Kd.N_alloc | apply Kd.N_drewN | apply Kd.N_drew)); exact HO_4.out)) k_ hk_), (Kd.freshB (g := gb264) (o := .cells #[.slice Ao24 x265000_1.length co24] 27 (0, 0)) (by (with_reducible repeat (first | refine blk_drewN ?_ _ | refine blk_drew ?_ | refine blk_alloc ?_ _)); exact BK264.out) k_ hk_), (Kd.freshB (g := gb266) (o := .cells #[.int .i64 ((rd_T49 l0 x18_1).f0), .bool true] 49 (0, 0)) (by (with_reducible repeat (first | refine blk_drewN ?_ _ | refine blk_drew ?_ | refine blk_alloc ?_ _)); exact BK266.out) k_ hk_)⟩)) (below_size (by repeat (first | (with_reducible first | exact HB.out | apply below_alloc | apply pw_below_drewN | apply below_drew1 | refine below_set ?_ GE264.out | refine below_set ?_ GE266.out) | exact HB.out))))
                          have n5_ := Aside0.mk (blk_below (g := gb264) (o := .cells #[.slice Ao24 x265000_1.length co24] 27 (0, 0)) (by (with_reducible repeat (first | refine blk_drewN ?_ _ | refine blk_drew ?_ | refine blk_alloc ?_ _)); exact BK264.out) hb)
                          have n6_ := Aside0.mk (blk_below (g := gb266) (o := .cells #[.int .i64 ((rd_T49 l0 x18_1).f0), .bool true] 49 (0, 0)) (by (with_reducible repeat (first | refine blk_drewN ?_ _ | refine blk_drew ?_ | refine blk_alloc ?_ _)); exact BK266.out) hb)
                          have n7_ := Aside0.mk (below_step (by repeat (first | (with_reducible first | exact HB.out | apply below_alloc | apply pw_below_drewN | apply below_drew1 | refine below_set ?_ GE264.out | refine below_set ?_ GE266.out) | exact HB.out)) hb)
                          clear HO_3
                          clear HO_4
                          clear HO_6
                          clear HO_265000
                          clear BK264
                          clear BK266
                          clear HB
                          have HO_3 := n0_
                          have HO_4 := n1_
                          have HO_6 := n2_
                          have HO_265000 := n3_
                          have HO269 := n4_
                          have BK264 := n5_
                          have BK266 := n6_
                          have HB := n7_
                          clear n0_ n1_ n2_ n3_ n4_ n5_ n6_ n7_
                          (try clear hb)
                          (try clear hb2)
                          (try clear hk)
                          (try clear hi)
                          (try clear ho0)
                          refine hK.out _ _ ⟨(blk_cell BK264.out 0).trans rfl, (blk_cell BK266.out 0).trans rfl, (blk_cell BK266.out 1).trans rfl⟩ (fun hHeld => ?_)
                          clear hK K
                          refine norm_ (a' := ?_) ?_ ?_
                          rotate_left
                          · show Act.put _ (some 27) _ = _
                            simp only [Act.put, List.setIfInBounds_toArray, List.set_cons_zero, List.set_cons_succ, i64_w, i32_w]
                            rfl
                          refine one_ (i := 7) (N := some 31) #[true, true, true, true, true, true, true, true, false, false, false] rfl rfl (one_of HT_.out (by kernel_rfl)) (by decide) (fun K hK => ?_)
                          refine Kd.R_lit_step (Kd.int .i64) _ 3 ?hg (N := 31) ?hd (xs := ([(rd_T49 l0 x18_1).f0] : List Int)) (inner := [.int .i64 ((rd_T49 l0 x18_1).f0)]) (ok := fun _ => True) (okp := fun _ => True) ?hr ?hp (fun _ hk => hk) trivial (Below.refl _ _) (Nat.le_refl _) (by simp) ?_; (case hd => rfl); (case hg => rfl); (case hr => first | (go_simp; done) | (go_simp; rfl)); (case hp => exact (Reps.one (show Kd.M (Kd.int .i64) _ _ _ ((rd_T49 l0 x18_1).f0) [.int .i64 ((rd_T49 l0 x18_1).f0)] from rfl) (Reps.none _ _)))
                          intro v271 w29 ho30 hb hg_ hnew_
                          clear hg_ hnew_
                          (first | rw [← Ny270.out] at ho30 | (simp only [Int.reduceToNat] at ho30; rw [← Ny270.out] at ho30))
                          have n0_ := Aside0.mk (Kd.N_elder' (by (with_reducible repeat (first | apply Kd.N_alloc | apply Kd.N_drewN | apply Kd.N_drew)); exact HO_3.out) (Kd.R_base ho30) hb)
                          have n1_ := Aside0.mk (Kd.N_elder' (by (with_reducible repeat (first | apply Kd.N_alloc | apply Kd.N_drewN | apply Kd.N_drew)); exact HO_4.out) (Kd.R_base ho30) hb)
                          have n2_ := Aside0.mk (Kd.V_elder' (by (with_reducible repeat (first | apply Kd.V_alloc | apply Kd.V_drewN | apply Kd.V_drew)); exact HO_6.out) (Kd.R_base ho30) hb)
                          have n3_ := Aside0.mk (Kd.V_elder' (by (with_reducible repeat (first | apply Kd.V_alloc | apply Kd.V_drewN | apply Kd.V_drew)); exact HO_265000.out) (Kd.R_base ho30) hb)
                          have n4_ := Aside0.mk (Kd.V_elder' (by (with_reducible repeat (first | apply Kd.V_alloc | apply Kd.V_drewN | apply Kd.V_drew)); exact HO269.out) (Kd.R_base ho30) hb)
                          have n5_ := Aside0.mk (Kd.R_lower ho30 (below_size (by repeat (first | (with_reducible first | exact HB.out | apply below_alloc | apply pw_below_drewN | apply below_drew1 | refine below_set ?_ GE264.out | refine below_set ?_ GE266.out) | exact HB.out))))
                          have n6_ := Aside0.mk (blk_below (g := gb264) (o := .cells #[.slice Ao24 x265000_1.length co24] 27 (0, 0)) (by (with_reducible repeat (first | refine blk_drewN ?_ _ | refine blk_drew ?_ | refine blk_alloc ?_ _)); exact BK264.out) hb)
                          have n7_ := Aside0.mk (blk_below (g := gb266) (o := .cells #[.int .i64 ((rd_T49 l0 x18_1).f0), .bool true] 49 (0, 0)) (by (with_reducible repeat (first | refine blk_drewN ?_ _ | refine blk_drew ?_ | refine blk_alloc ?_ _)); exact BK266.out) hb)
                          have n8_ := Aside0.mk (below_step (by repeat (first | (with_reducible first | exact HB.out | apply below_alloc | apply pw_below_drewN | apply below_drew1 | refine below_set ?_ GE264.out | refine below_set ?_ GE266.out) | exact HB.out)) hb)
                          clear HO_3
                          clear HO_4
                          clear HO_6
                          clear HO_265000
                          clear HO269
                          clear BK264
                          clear BK266
                          clear HB
                          have HO_3 := n0_
                          have HO_4 := n1_
                          have HO_6 := n2_
                          have HO_265000 := n3_
                          have HO269 := n4_
                          have HO272 := n5_
                          have BK264 := n6_
                          have BK266 := n7_
                          have HB := n8_
                          clear n0_ n1_ n2_ n3_ n4_ n5_ n6_ n7_ n8_
                          clear hb ho30
                          refine hK.out _ _ ⟨(blk_cell BK264.out 0).trans rfl, (blk_cell BK266.out 0).trans rfl, (blk_cell BK266.out 1).trans rfl⟩ (fun hHeld => ?_)
                          clear hK K
                          refine norm_ (a' := ?_) ?_ ?_
                          rotate_left
                          · show Act.put _ (some 31) _ = _
                            simp only [Act.put, List.setIfInBounds_toArray, List.set_cons_zero, List.set_cons_succ, i64_w, i32_w]
                            rfl
                          exact norm_ (by simp only [putAll, Act.put, List.setIfInBounds_toArray, List.set_cons_zero, List.set_cons_succ]) (hCont (v268, v271) _ ⟨hHeld, (by (with_reducible repeat (first | apply Kd.V_alloc | apply Kd.V_drewN | apply Kd.V_drew)); exact Kd.V_mono HO269.out (fun _ hk => ⟨hk.2, ⟨hk.1.1, ⟨hk.1.2.1, ⟨hk.1.2.2.1, hk.1.2.2.2⟩⟩⟩⟩)), (by (with_reducible repeat (first | apply Kd.R_alloc | apply Kd.R_drewN | apply Kd.R_drew)); exact HO272.out), (by (with_reducible repeat (first | apply Kd.V_alloc | apply Kd.V_drewN | apply Kd.V_drew)); exact Kd.V_mono HO_265000.out (fun _ hk => ⟨hk.2, ⟨hk.1.1, ⟨hk.1.2.1, ⟨hk.1.2.2.1, hk.1.2.2.2⟩⟩⟩⟩)), (by (with_reducible repeat (first | apply Kd.N_alloc | apply Kd.N_drewN | apply Kd.N_drew)); exact Kd.N_mono HO_3.out (fun _ hk => ⟨hk.2, ⟨hk.1.1, ⟨hk.1.2.1, hk.1.2.2⟩⟩⟩)), (by (with_reducible repeat (first | apply Kd.N_alloc | apply Kd.N_drewN | apply Kd.N_drew)); exact Kd.N_mono HO_4.out (fun _ hk => ⟨hk.2, ⟨hk.1.1, ⟨hk.1.2.1, hk.1.2.2⟩⟩⟩)), (by (with_reducible repeat (first | apply Kd.V_alloc | apply Kd.V_drewN | apply Kd.V_drew)); exact Kd.V_mono HO_6.out (fun _ hk => ⟨hk.2, ⟨hk.1.1, ⟨hk.1.2.1, ⟨hk.1.2.2.1, hk.1.2.2.2⟩⟩⟩⟩)), (by (with_reducible repeat (first | refine blk_drewN ?_ _ | refine blk_drew ?_ | refine blk_alloc ?_ _)); exact BK264.out), (by (with_reducible repeat (first | refine blk_drewN ?_ _ | refine blk_drew ?_ | refine blk_alloc ?_ _)); exact BK266.out), (by repeat (first | (with_reducible first | exact HB.out | apply below_alloc | apply pw_below_drewN | apply below_drew1 | refine below_set ?_ GE264.out | refine below_set ?_ GE266.out) | exact HB.out))⟩)
                        · skip
                          refine Kd.R_lit_step (Kd.int .i64) _ 3 ?hg (N := 31) ?hd (xs := ([(rd_T49 l0 x18_1).f0] : List Int)) (inner := [.int .i64 ((rd_T49 l0 x18_1).f0)]) (ok := fun _ => True) (okp := fun _ => True) ?hr ?hp (fun _ hk => hk) trivial (Below.refl _ _) (Nat.le_refl _) (by simp) ?_; (case hd => rfl); (case hg => rfl); (case hr => first | (go_simp; done) | (go_simp; rfl)); (case hp => exact (Reps.one (show Kd.M (Kd.int .i64) _ _ _ ((rd_T49 l0 x18_1).f0) [.int .i64 ((rd_T49 l0 x18_1).f0)] from rfl) (Reps.none _ _)))
                          intro v271 w28 ho29 hb hg_ hnew_
                          clear hg_ hnew_
                          (first | rw [← Ny270.out] at ho29 | (simp only [Int.reduceToNat] at ho29; rw [← Ny270.out] at ho29))
                          have n0_ := Aside0.mk (Kd.N_elder' (by (with_reducible repeat (first | apply Kd.N_alloc | apply Kd.N_drewN | apply Kd.N_drew)); exact HO_3.out) (Kd.R_base ho29) hb)
                          have n1_ := Aside0.mk (Kd.N_elder' (by (with_reducible repeat (first | apply Kd.N_alloc | apply Kd.N_drewN | apply Kd.N_drew)); exact HO_4.out) (Kd.R_base ho29) hb)
                          have n2_ := Aside0.mk (Kd.V_elder' (by (with_reducible repeat (first | apply Kd.V_alloc | apply Kd.V_drewN | apply Kd.V_drew)); exact HO_6.out) (Kd.R_base ho29) hb)
                          have n3_ := Aside0.mk (Kd.V_elder' (by (with_reducible repeat (first | apply Kd.V_alloc | apply Kd.V_drewN | apply Kd.V_drew)); exact HO_265000.out) (Kd.R_base ho29) hb)
                          have n4_ := Aside0.mk (Kd.R_lower ho29 (below_size (by repeat (first | (with_reducible first | exact HB.out | apply below_alloc | apply pw_below_drewN | apply below_drew1 | refine below_set ?_ GE264.out | refine below_set ?_ GE266.out) | exact HB.out))))
                          have n5_ := Aside0.mk (blk_below (g := gb264) (o := .cells #[.slice Ao24 x265000_1.length co24] 27 (0, 0)) (by (with_reducible repeat (first | refine blk_drewN ?_ _ | refine blk_drew ?_ | refine blk_alloc ?_ _)); exact BK264.out) hb)
                          have n6_ := Aside0.mk (blk_below (g := gb266) (o := .cells #[.int .i64 ((rd_T49 l0 x18_1).f0), .bool true] 49 (0, 0)) (by (with_reducible repeat (first | refine blk_drewN ?_ _ | refine blk_drew ?_ | refine blk_alloc ?_ _)); exact BK266.out) hb)
                          have n7_ := Aside0.mk (below_step (by repeat (first | (with_reducible first | exact HB.out | apply below_alloc | apply pw_below_drewN | apply below_drew1 | refine below_set ?_ GE264.out | refine below_set ?_ GE266.out) | exact HB.out)) hb)
                          clear HO_3
                          clear HO_4
                          clear HO_6
                          clear HO_265000
                          clear BK264
                          clear BK266
                          clear HB
                          have HO_3 := n0_
                          have HO_4 := n1_
                          have HO_6 := n2_
                          have HO_265000 := n3_
                          have HO272 := n4_
                          have BK264 := n5_
                          have BK266 := n6_
                          have HB := n7_
                          clear n0_ n1_ n2_ n3_ n4_ n5_ n6_ n7_
                          clear hb ho29
                          refine hK.out _ _ ⟨(blk_cell BK264.out 0).trans rfl, (blk_cell BK266.out 0).trans rfl, (blk_cell BK266.out 1).trans rfl⟩ (fun hHeld => ?_)
                          clear hK K
                          refine norm_ (a' := ?_) ?_ ?_
                          rotate_left
                          · show Act.put _ (some 31) _ = _
                            simp only [Act.put, List.setIfInBounds_toArray, List.set_cons_zero, List.set_cons_succ, i64_w, i32_w]
                            rfl
                          refine one_ (i := 3) (N := some 27) #[true, true, true, true, true, true, true, true, false, false, false] rfl rfl (one_of HT_.out (by kernel_rfl)) (by decide) (fun K hK => ?_)
                          refine goes_ Tryd.func31 (by kernel_rfl) rfl #[.agg #[.slice Ao24 x265000_1.length co24], .int .i64 ((rd_T49 l0 x18_1).f0)] (by rfl) rfl rfl (by (try simp only [List.map_toArray, List.map_cons, List.map_nil]); first | done | rfl | (simp only [List.length_drop, List.length_take]; rfl)) ?_
                          with_reducible refine (bitset_Set_Without.calls k1 _ _ x265000_1 ((rd_T49 l0 x18_1).f0) t267 _ ?side1 ?side2 A17.out).mono ?_
                          (case side1 => repeat (first | exact (Kd.V_reads' HO_265000.out).2.2 | (with_reducible refine Kd.C_alloc ?_ _) | (with_reducible refine Kd.C_drewN ?_ _) | (with_reducible refine Kd.C_drew ?_)))
                          (case side2 => exact (Kd.V_reads' HO_265000.out).2.1)
                          rintro e w30 ⟨v268, rfl, ho0, hb⟩
                          refine ⟨_, rfl, ?_⟩
                          have n0_ := Aside0.mk (Kd.N_below (by (with_reducible repeat (first | apply Kd.N_alloc | apply Kd.N_drewN | apply Kd.N_drew)); exact HO_3.out) hb)
                          have n1_ := Aside0.mk (Kd.N_below (by (with_reducible repeat (first | apply Kd.N_alloc | apply Kd.N_drewN | apply Kd.N_drew)); exact HO_4.out) hb)
                          have n2_ := Aside0.mk (Kd.V_below (by (with_reducible repeat (first | apply Kd.V_alloc | apply Kd.V_drewN | apply Kd.V_drew)); exact HO_6.out) hb)
                          have n3_ := Aside0.mk (Kd.V_below (by (with_reducible repeat (first | apply Kd.V_alloc | apply Kd.V_drewN | apply Kd.V_drew)); exact HO_265000.out) hb)
                          have n4_ := Aside0.mk (Kd.R_below (by (with_reducible repeat (first | apply Kd.R_alloc | apply Kd.R_drewN | apply Kd.R_drew)); exact HO272.out) hb)
                          have n5_ := Aside0.mk (Kd.V_lower (Kd.V_mono (ok' := fun k_ => some k_ ≠ (u3 : Value).ownBlock ∧ some k_ ≠ (u4 : Value).ownBlock ∧ some k_ ≠ (v271 : Value).ownBlock ∧ k_ ≠ gb264 ∧ k_ ≠ gb266) ho0 (fun k_ hk_ => ⟨(Kd.fresh' (Kd.N_lt (by (with_reducible repeat (first | apply Kd.N_alloc | apply Kd.N_drewN | apply Kd.N_drew)); exact HO_3.out)) k_ hk_), (Kd.fresh' (Kd.N_lt (by (with_reducible repeat (first | apply Kd.N_alloc | apply Kd.N_drewN | apply Kd.N_drew)); exact HO_4.out)) k_ hk_), (Kd.fresh' (Kd.R_lt (by (with_reducible repeat (first | apply Kd.R_alloc | apply Kd.R_drewN | apply Kd.R_drew)); exact HO272.out)) k_ hk_), (Kd.freshB (g := gb264) (o := .cells #[.slice Ao24 x265000_1.length co24] 27 (0, 0)) (by (with_reducible repeat (first | refine blk_drewN ?_ _ | refine blk_drew ?_ | refine blk_alloc ?_ _)); exact BK264.out) k_ hk_), (Kd.freshB (g := gb266) (o := .cells #[.int .i64 ((rd_T49 l0 x18_1).f0), .bool true] 49 (0, 0)) (by (with_reducible repeat (first | refine blk_drewN ?_ _ | refine blk_drew ?_ | refine blk_alloc ?_ _)); exact BK266.out) k_ hk_)⟩)) (below_size (by repeat (first | (with_reducible first | exact HB.out | apply below_alloc | apply pw_below_drewN | apply below_drew1 | refine below_set ?_ GE264.out | refine below_set ?_ GE266.out) | exact HB.out))))
                          have n6_ := Aside0.mk (blk_below (g := gb264) (o := .cells #[.slice Ao24 x265000_1.length co24] 27 (0, 0)) (by (with_reducible repeat (first | refine blk_drewN ?_ _ | refine blk_drew ?_ | refine blk_alloc ?_ _)); exact BK264.out) hb)
                          have n7_ := Aside0.mk (blk_below (g := gb266) (o := .cells #[.int .i64 ((rd_T49 l0 x18_1).f0), .bool true] 49 (0, 0)) (by (with_reducible repeat (first | refine blk_drewN ?_ _ | refine blk_drew ?_ | refine blk_alloc ?_ _)); exact BK266.out) hb)
                          have n8_ := Aside0.mk (below_step (by repeat (first | (with_reducible first | exact HB.out | apply below_alloc | apply pw_below_drewN | apply below_drew1 | refine below_set ?_ GE264.out | refine below_set ?_ GE266.out) | exact HB.out)) hb)
                          clear HO_3
                          clear HO_4
                          clear HO_6
                          clear HO_265000
                          clear HO272
                          clear BK264
                          clear BK266
                          clear HB
                          have HO_3 := n0_
                          have HO_4 := n1_
                          have HO_6 := n2_
                          have HO_265000 := n3_
                          have HO272 := n4_
                          have HO269 := n5_
                          have BK264 := n6_
                          have BK266 := n7_
                          have HB := n8_
                          clear n0_ n1_ n2_ n3_ n4_ n5_ n6_ n7_ n8_
                          (try clear hb)
                          (try clear hb2)
                          (try clear hk)
                          (try clear hi)
                          (try clear ho0)
                          refine hK.out _ _ ⟨(blk_cell BK264.out 0).trans rfl, (blk_cell BK266.out 0).trans rfl, (blk_cell BK266.out 1).trans rfl⟩ (fun hHeld => ?_)
                          clear hK K
                          refine norm_ (a' := ?_) ?_ ?_
                          rotate_left
                          · show Act.put _ (some 27) _ = _
                            simp only [Act.put, List.setIfInBounds_toArray, List.set_cons_zero, List.set_cons_succ, i64_w, i32_w]
                            rfl
                          exact norm_ (by simp only [putAll, Act.put, List.setIfInBounds_toArray, List.set_cons_zero, List.set_cons_succ]) (hCont (v268, v271) _ ⟨hHeld, (by (with_reducible repeat (first | apply Kd.V_alloc | apply Kd.V_drewN | apply Kd.V_drew)); exact Kd.V_mono HO269.out (fun _ hk => ⟨hk.2.2.1, ⟨hk.1, ⟨hk.2.1, ⟨hk.2.2.2.1, hk.2.2.2.2⟩⟩⟩⟩)), (by (with_reducible repeat (first | apply Kd.R_alloc | apply Kd.R_drewN | apply Kd.R_drew)); exact HO272.out), (by (with_reducible repeat (first | apply Kd.V_alloc | apply Kd.V_drewN | apply Kd.V_drew)); exact Kd.V_mono HO_265000.out (fun _ hk => ⟨hk.2, ⟨hk.1.1, ⟨hk.1.2.1, ⟨hk.1.2.2.1, hk.1.2.2.2⟩⟩⟩⟩)), (by (with_reducible repeat (first | apply Kd.N_alloc | apply Kd.N_drewN | apply Kd.N_drew)); exact Kd.N_mono HO_3.out (fun _ hk => ⟨hk.2, ⟨hk.1.1, ⟨hk.1.2.1, hk.1.2.2⟩⟩⟩)), (by (with_reducible repeat (first | apply Kd.N_alloc | apply Kd.N_drewN | apply Kd.N_drew)); exact Kd.N_mono HO_4.out (fun _ hk => ⟨hk.2, ⟨hk.1.1, ⟨hk.1.2.1, hk.1.2.2⟩⟩⟩)), (by (with_reducible repeat (first | apply Kd.V_alloc | apply Kd.V_drewN | apply Kd.V_drew)); exact Kd.V_mono HO_6.out (fun _ hk => ⟨hk.2, ⟨hk.1.1, ⟨hk.1.2.1, ⟨hk.1.2.2.1, hk.1.2.2.2⟩⟩⟩⟩)), (by (with_reducible repeat (first | refine blk_drewN ?_ _ | refine blk_drew ?_ | refine blk_alloc ?_ _)); exact BK264.out), (by (with_reducible repeat (first | refine blk_drewN ?_ _ | refine blk_drew ?_ | refine blk_alloc ?_ _)); exact BK266.out), (by repeat (first | (with_reducible first | exact HB.out | apply below_alloc | apply pw_below_drewN | apply below_drew1 | refine below_set ?_ GE264.out | refine below_set ?_ GE266.out) | exact HB.out))⟩)
                      rintro ⟨v268, v271⟩ w31 ⟨hS_, h0_, h1_, h2_, h3_, h4_, h5_, h6_, h7_, h8_⟩
                      have n0_ : Aside0 (Kd.V (Kd.int .u64) 56 w31 w.heap.size (fun k_ => some k_ ≠ (v271 : Value).ownBlock ∧ some k_ ≠ (u3 : Value).ownBlock ∧ some k_ ≠ (u4 : Value).ownBlock ∧ k_ ≠ gb264 ∧ k_ ≠ gb266) v268 t267) := ⟨h0_⟩
                      have n1_ : Aside0 (Kd.R (Kd.int .i64) 3 w31 w.heap.size (fun _ => True) v271 y270) := ⟨h1_⟩
                      have n2_ : Aside0 (Kd.V (Kd.int .u64) 56 w31 w.heap.size (fun k_ => some k_ ≠ (v271 : Value).ownBlock ∧ some k_ ≠ (u3 : Value).ownBlock ∧ some k_ ≠ (u4 : Value).ownBlock ∧ k_ ≠ gb264 ∧ k_ ≠ gb266) (.slice Ao24 x265000_1.length co24) x265000_1) := ⟨h2_⟩
                      have n3_ : Aside0 (Kd.N k27 27 w31 w.heap.size (fun k_ => some k_ ≠ (v271 : Value).ownBlock ∧ some k_ ≠ (u4 : Value).ownBlock ∧ k_ ≠ gb264 ∧ k_ ≠ gb266) u3 x3_1) := ⟨h3_⟩
                      have n4_ : Aside0 (Kd.N (Kd.slice 3 (Kd.int .i64)) 22 w31 w.heap.size (fun k_ => some k_ ≠ (v271 : Value).ownBlock ∧ some k_ ≠ (u3 : Value).ownBlock ∧ k_ ≠ gb264 ∧ k_ ≠ gb266) u4 x4_1) := ⟨h4_⟩
                      have n5_ : Aside0 (Kd.V (Kd.int .i64) 3 w31 w.heap.size (fun k_ => some k_ ≠ (v271 : Value).ownBlock ∧ some k_ ≠ (u3 : Value).ownBlock ∧ some k_ ≠ (u4 : Value).ownBlock ∧ k_ ≠ gb264 ∧ k_ ≠ gb266) (.slice Ao25 x6_1.length co25) x6_1) := ⟨h5_⟩
                      have n6_ : Aside0 (w31.heap[gb264]? = some (.cells #[.slice Ao24 x265000_1.length co24] 27 (0, 0))) := ⟨h6_⟩
                      have n7_ : Aside0 (w31.heap[gb266]? = some (.cells #[.int .i64 ((rd_T49 l0 x18_1).f0), .bool true] 49 (0, 0))) := ⟨h7_⟩
                      have n8_ : Aside0 (Below w.heap.size w w31) := ⟨h8_⟩
                      clear HO_3
                      clear HO_4
                      clear HO_6
                      clear HO_265000
                      clear BK264
                      clear BK266
                      clear HB
                      clear h0_ h1_ h2_ h3_ h4_ h5_ h6_ h7_ h8_
                      have HO269 := n0_
                      have HO272 := n1_
                      have HO_265000 := n2_
                      have HO_3 := n3_
                      have HO_4 := n4_
                      have HO_6 := n5_
                      have BK264 := n6_
                      have BK266 := n7_
                      have HB := n8_
                      clear n0_ n1_ n2_ n3_ n4_ n5_ n6_ n7_ n8_
                      have hHeld : w31.cell? ⟨gb264, 0, none⟩ = some (.slice Ao24 x265000_1.length co24) ∧ w31.cell? ⟨gb266, 0, none⟩ = some (.int .i64 ((rd_T49 l0 x18_1).f0)) ∧ w31.cell? ⟨gb266, 1, none⟩ = some (.bool true) := hS_
                      obtain ⟨Ao32, co32, eo32⟩ := Kd.R_slice HO272.out
                      (first | subst eo32 | (injection eo32 with f1_ f2_ f3_; have f4_ := f1_.symm; have f5_ := f3_.symm; clear f1_ f2_ f3_; subst f4_; subst f5_))
                      refine norm_ (a' := ?_) ?_ ?_
                      rotate_left
                      · simp only [putAll, Act.put, List.setIfInBounds_toArray, List.set_cons_zero, List.set_cons_succ]
                        rfl
                      refine one_ (i := 8) (N := some 32) #[true, true, true, true, true, true, true, true, true, false, false] rfl rfl (one_of HT_.out (by kernel_rfl)) (by decide) (fun K hK => ?_)
                      refine goes_ Tryd.func30 (by kernel_rfl) rfl #[.slice Ao25 x6_1.length co25, .slice Ao32 y270.length co32] (by rfl) rfl rfl (by (try simp only [List.map_toArray, List.map_cons, List.map_nil]); first | done | rfl | (simp only [List.length_drop, List.length_take]; rfl)) ?_
                      with_reducible refine (trickleref04_MinusV.calls k1 _ _ x6_1 _ _ y270 t273 _ ?side1 ?side2 ?side3 ?side4 A18.out).mono ?_
                      (case side1 => repeat (first | exact (Kd.V_reads' HO_6.out).2.2 | (with_reducible refine Kd.C_alloc ?_ _) | (with_reducible refine Kd.C_drewN ?_ _) | (with_reducible refine Kd.C_drew ?_)))
                      (case side2 => exact (Kd.V_reads' HO_6.out).2.1)
                      (case side3 => repeat (first | exact (Kd.R_reads' HO272.out).2.2 | (with_reducible refine Kd.C_alloc ?_ _) | (with_reducible refine Kd.C_drewN ?_ _) | (with_reducible refine Kd.C_drew ?_)))
                      (case side4 => exact (Kd.R_reads' HO272.out).2.1)
                      rintro e w33 ⟨v274, rfl, ho0, hb⟩
                      refine ⟨_, rfl, ?_⟩
                      have n0_ := Aside0.mk (Kd.N_below (by (with_reducible repeat (first | apply Kd.N_alloc | apply Kd.N_drewN | apply Kd.N_drew)); exact HO_3.out) hb)
                      have n1_ := Aside0.mk (Kd.N_below (by (with_reducible repeat (first | apply Kd.N_alloc | apply Kd.N_drewN | apply Kd.N_drew)); exact HO_4.out) hb)
                      have n2_ := Aside0.mk (Kd.V_below (by (with_reducible repeat (first | apply Kd.V_alloc | apply Kd.V_drewN | apply Kd.V_drew)); exact HO_6.out) hb)
                      have n3_ := Aside0.mk (Kd.V_below (by (with_reducible repeat (first | apply Kd.V_alloc | apply Kd.V_drewN | apply Kd.V_drew)); exact HO_265000.out) hb)
                      have n4_ := Aside0.mk (Kd.V_below (by (with_reducible repeat (first | apply Kd.V_alloc | apply Kd.V_drewN | apply Kd.V_drew)); exact HO269.out) hb)
                      have n5_ := Aside0.mk (Kd.R_below (by (with_reducible repeat (first | apply Kd.R_alloc | apply Kd.R_drewN | apply Kd.R_drew)); exact HO272.out) hb)
                      have n6_ := Aside0.mk (Kd.V_lower (Kd.V_mono (ok' := fun k_ => some k_ ≠ (u3 : Value).ownBlock ∧ some k_ ≠ (u4 : Value).ownBlock ∧ some k_ ≠ (.slice Ao32 y270.length co32 : Value).ownBlock ∧ k_ ≠ gb264 ∧ k_ ≠ gb266) ho0 (fun k_ hk_ => ⟨(Kd.fresh' (Kd.N_lt (by (with_reducible repeat (first | apply Kd.N_alloc | apply Kd.N_drewN | apply Kd.N_drew)); exact HO_3.out)) k_ hk_), (Kd.fresh' (Kd.N_lt (by (with_reducible repeat (first | apply Kd.N_alloc | apply Kd.N_drewN | apply Kd.N_drew)); exact HO_4.out)) k_ hk_), (Kd.fresh' (Kd.R_lt (by (with_reducible repeat (first | apply Kd.R_alloc | apply Kd.R_drewN | apply Kd.R_drew)); exact HO272.out)) k_ hk_), (Kd.freshB (g := gb264) (o := .cells #[.slice Ao24 x265000_1.length co24] 27 (0, 0)) (by (with_reducible repeat (first | refine blk_drewN ?_ _ | refine blk_drew ?_ | refine blk_alloc ?_ _)); exact BK264.out) k_ hk_), (Kd.freshB (g := gb266) (o := .cells #[.int .i64 ((rd_T49 l0 x18_1).f0), .bool true] 49 (0, 0)) (by (with_reducible repeat (first | refine blk_drewN ?_ _ | refine blk_drew ?_ | refine blk_alloc ?_ _)); exact BK266.out) k_ hk_)⟩)) (below_size (by repeat (first | (with_reducible first | exact HB.out | apply below_alloc | apply pw_below_drewN | apply below_drew1 | refine below_set ?_ GE264.out | refine below_set ?_ GE266.out) | exact HB.out))))
                      have n7_ := Aside0.mk (blk_below (g := gb264) (o := .cells #[.slice Ao24 x265000_1.length co24] 27 (0, 0)) (by (with_reducible repeat (first | refine blk_drewN ?_ _ | refine blk_drew ?_ | refine blk_alloc ?_ _)); exact BK264.out) hb)
                      have n8_ := Aside0.mk (blk_below (g := gb266) (o := .cells #[.int .i64 ((rd_T49 l0 x18_1).f0), .bool true] 49 (0, 0)) (by (with_reducible repeat (first | refine blk_drewN ?_ _ | refine blk_drew ?_ | refine blk_alloc ?_ _)); exact BK266.out) hb)
                      have n9_ := Aside0.mk (below_step (by repeat (first | (with_reducible first | exact HB.out | apply below_alloc | apply pw_below_drewN | apply below_drew1 | refine below_set ?_ GE264.out | refine below_set ?_ GE266.out) | exact HB.out)) hb)
                      clear HO_3
                      clear HO_4
                      clear HO_6
                      clear HO_265000
                      clear HO269
                      clear HO272
                      clear BK264
                      clear BK266
                      clear HB
                      have HO_3 := n0_
                      have HO_4 := n1_
                      have HO_6 := n2_
                      have HO_265000 := n3_
                      have HO269 := n4_
                      have HO272 := n5_
                      have HO275 := n6_
                      have BK264 := n7_
                      have BK266 := n8_
                      have HB := n9_
                      clear n0_ n1_ n2_ n3_ n4_ n5_ n6_ n7_ n8_ n9_
                      (try clear hb)
                      (try clear hb2)
                      (try clear hk)
                      (try clear hi)
                      (try clear ho0)
                      obtain ⟨Ao34, co34, eo34⟩ := Kd.V_slice HO269.out
                      (first | subst eo34 | (injection eo34 with f1_ f2_ f3_; have f4_ := f1_.symm; have f5_ := f3_.symm; clear f1_ f2_ f3_; subst f4_; subst f5_))
                      refine hK.out _ _ ⟨(blk_cell BK264.out 0).trans rfl, (blk_cell BK266.out 0).trans rfl, (blk_cell BK266.out 1).trans rfl⟩ (fun hHeld => ?_)
                      clear hK K
                      refine norm_ (a' := ?_) ?_ ?_
                      rotate_left
                      · show Act.put _ (some 32) _ = _
                        simp only [Act.put, List.setIfInBounds_toArray, List.set_cons_zero, List.set_cons_succ, i64_w, i32_w]
                        rfl
                      refine last_ (i := 9) (N := none) #[true, true, true, true, true, true, true, true, true, true, false] rfl rfl (one_of HT_.out (by kernel_rfl)) (by decide) (fun K hK => ?_)
                      have hs35 : w33.cell? ⟨gb264, 0, none⟩ = some (.slice Ao24 x265000_1.length co24) := (blk_cell BK264.out 0).trans rfl
                      have hfs35 := blk_frozen BK264.out 0
                      have hns35_1 := NB266_264.out
                      have hms35_1 := NB264_266.out
                      refine skip_ (w1 := ?_) (by rfl) rfl ?_ ?_
                      rotate_left
                      · go_simp
                        rfl
                      refine hK.out _ _ ?_
                      clear hK K
                      refine pure_ (i := 10) (N := some 6) (v := ?_) (a' := ?_) #[true, true, true, true, true, true, true, true, true, true, true] rfl rfl (any_of HT_.out (by kernel_rfl)) (fun _ _ _ h => h) (Or.inl ⟨by rfl, ?_⟩) ?_ ?_
                      rotate_left
                      · intro w'
                        go_simp
                        with_reducible rfl
                      rotate_left
                      · simp only [Act.put, List.setIfInBounds_toArray, List.set_cons_zero, List.set_cons_succ, i64_w, i32_w]
                        rfl
                      refine done_ (done_of HT_.out (by kernel_rfl)) ?_
                      have n0_ : Aside0 (Kd.N k27 27 (w33.setCell ⟨gb264, 0, none⟩ (.slice Ao34 t267.length co34)) w.heap.size (fun k_ => some k_ ≠ (u4 : Value).ownBlock ∧ some k_ ≠ (.slice Ao32 y270.length co32 : Value).ownBlock ∧ k_ ≠ gb264 ∧ k_ ≠ gb266) u3 x3_1) := ⟨by (with_reducible repeat (first | apply Kd.N_alloc | apply Kd.N_drewN | apply Kd.N_drew)); exact Kd.N_mono (Kd.N_far (p := ⟨gb264, 0, none⟩) (Kd.N_mono HO_3.out (fun k_ hk => (⟨hk, hk.2.2.1⟩ : _ ∧ k_ ≠ gb264))) (fun _ hk => hk.2) (.slice Ao34 t267.length co34)) (fun _ hk => ⟨hk.1.2.1, ⟨hk.1.1, ⟨hk.1.2.2.1, hk.1.2.2.2⟩⟩⟩)⟩
                      have n1_ : Aside0 (Kd.N (Kd.slice 3 (Kd.int .i64)) 22 (w33.setCell ⟨gb264, 0, none⟩ (.slice Ao34 t267.length co34)) w.heap.size (fun k_ => some k_ ≠ (u3 : Value).ownBlock ∧ some k_ ≠ (.slice Ao32 y270.length co32 : Value).ownBlock ∧ k_ ≠ gb264 ∧ k_ ≠ gb266) u4 x4_1) := ⟨by (with_reducible repeat (first | apply Kd.N_alloc | apply Kd.N_drewN | apply Kd.N_drew)); exact Kd.N_mono (Kd.N_far (p := ⟨gb264, 0, none⟩) (Kd.N_mono HO_4.out (fun k_ hk => (⟨hk, hk.2.2.1⟩ : _ ∧ k_ ≠ gb264))) (fun _ hk => hk.2) (.slice Ao34 t267.length co34)) (fun _ hk => ⟨hk.1.2.1, ⟨hk.1.1, ⟨hk.1.2.2.1, hk.1.2.2.2⟩⟩⟩)⟩
                      have n2_ : Aside0 (Kd.V (Kd.int .i64) 3 (w33.setCell ⟨gb264, 0, none⟩ (.slice Ao34 t267.length co34)) w.heap.size (fun k_ => some k_ ≠ (u3 : Value).ownBlock ∧ some k_ ≠ (u4 : Value).ownBlock ∧ some k_ ≠ (.slice Ao32 y270.length co32 : Value).ownBlock ∧ k_ ≠ gb264 ∧ k_ ≠ gb266) (.slice Ao25 x6_1.length co25) x6_1) := ⟨by (with_reducible repeat (first | apply Kd.V_alloc | apply Kd.V_drewN | apply Kd.V_drew)); exact Kd.V_mono (Kd.V_far (p := ⟨gb264, 0, none⟩) (Kd.V_mono HO_6.out (fun k_ hk => (⟨hk, hk.2.2.2.1⟩ : _ ∧ k_ ≠ gb264))) (fun _ hk => hk.2) (.slice Ao34 t267.length co34)) (fun _ hk => ⟨hk.1.2.1, ⟨hk.1.2.2.1, ⟨hk.1.1, ⟨hk.1.2.2.2.1, hk.1.2.2.2.2⟩⟩⟩⟩)⟩
                      have n3_ : Aside0 (Kd.V (Kd.int .u64) 56 (w33.setCell ⟨gb264, 0, none⟩ (.slice Ao34 t267.length co34)) w.heap.size (fun k_ => some k_ ≠ (u3 : Value).ownBlock ∧ some k_ ≠ (u4 : Value).ownBlock ∧ some k_ ≠ (.slice Ao32 y270.length co32 : Value).ownBlock ∧ k_ ≠ gb264 ∧ k_ ≠ gb266) (.slice Ao24 x265000_1.length co24) x265000_1) := ⟨by (with_reducible repeat (first | apply Kd.V_alloc | apply Kd.V_drewN | apply Kd.V_drew)); exact Kd.V_mono (Kd.V_far (p := ⟨gb264, 0, none⟩) (Kd.V_mono HO_265000.out (fun k_ hk => (⟨hk, hk.2.2.2.1⟩ : _ ∧ k_ ≠ gb264))) (fun _ hk => hk.2) (.slice Ao34 t267.length co34)) (fun _ hk => ⟨hk.1.2.1, ⟨hk.1.2.2.1, ⟨hk.1.1, ⟨hk.1.2.2.2.1, hk.1.2.2.2.2⟩⟩⟩⟩)⟩
                      have n4_ : Aside0 (Kd.V (Kd.int .u64) 56 (w33.setCell ⟨gb264, 0, none⟩ (.slice Ao34 t267.length co34)) w.heap.size (fun k_ => some k_ ≠ (u3 : Value).ownBlock ∧ some k_ ≠ (u4 : Value).ownBlock ∧ some k_ ≠ (.slice Ao32 y270.length co32 : Value).ownBlock ∧ k_ ≠ gb264 ∧ k_ ≠ gb266) (.slice Ao34 t267.length co34) t267) := ⟨by (with_reducible repeat (first | apply Kd.V_alloc | apply Kd.V_drewN | apply Kd.V_drew)); exact Kd.V_mono (Kd.V_far (p := ⟨gb264, 0, none⟩) (Kd.V_mono HO269.out (fun k_ hk => (⟨hk, hk.2.2.2.1⟩ : _ ∧ k_ ≠ gb264))) (fun _ hk => hk.2) (.slice Ao34 t267.length co34)) (fun _ hk => ⟨hk.1.2.1, ⟨hk.1.2.2.1, ⟨hk.1.1, ⟨hk.1.2.2.2.1, hk.1.2.2.2.2⟩⟩⟩⟩)⟩
                      have n5_ : Aside0 (Kd.R (Kd.int .i64) 3 (w33.setCell ⟨gb264, 0, none⟩ (.slice Ao34 t267.length co34)) w.heap.size (fun _ => True) (.slice Ao32 y270.length co32) y270) := ⟨by (with_reducible repeat (first | apply Kd.R_alloc | apply Kd.R_drewN | apply Kd.R_drew)); exact Kd.R_mono (Kd.R_far (p := ⟨gb264, 0, none⟩) (Kd.R_types HO272.out BK264.out (by decide)) (fun _ hk => hk.2) (.slice Ao34 t267.length co34)) (fun _ hk => trivial)⟩
                      have n6_ : Aside0 (Kd.V (Kd.int .i64) 3 (w33.setCell ⟨gb264, 0, none⟩ (.slice Ao34 t267.length co34)) w.heap.size (fun k_ => some k_ ≠ (u3 : Value).ownBlock ∧ some k_ ≠ (u4 : Value).ownBlock ∧ some k_ ≠ (.slice Ao32 y270.length co32 : Value).ownBlock ∧ k_ ≠ gb264 ∧ k_ ≠ gb266) v274 t273) := ⟨by (with_reducible repeat (first | apply Kd.V_alloc | apply Kd.V_drewN | apply Kd.V_drew)); exact Kd.V_mono (Kd.V_far (p := ⟨gb264, 0, none⟩) (Kd.V_mono HO275.out (fun k_ hk => (⟨hk, hk.2.2.2.1⟩ : _ ∧ k_ ≠ gb264))) (fun _ hk => hk.2) (.slice Ao34 t267.length co34)) (fun _ hk => ⟨hk.1.1, ⟨hk.1.2.1, ⟨hk.1.2.2.1, ⟨hk.1.2.2.2.1, hk.1.2.2.2.2⟩⟩⟩⟩)⟩
                      have n7_ : Aside0 ((w33.setCell ⟨gb264, 0, none⟩ (.slice Ao34 t267.length co34)).heap[gb264]? = some (.cells #[.slice Ao34 t267.length co34] 27 (0, 0))) := ⟨by (with_reducible repeat (first | refine blk_drewN ?_ _ | refine blk_drew ?_ | refine blk_alloc ?_ _)); refine blk_put (cs := #[.slice Ao24 x265000_1.length co24]) ?_ 0 _ rfl; (with_reducible repeat (first | refine blk_drewN ?_ _ | refine blk_drew ?_ | refine blk_alloc ?_ _)); exact BK264.out⟩
                      have n8_ : Aside0 ((w33.setCell ⟨gb264, 0, none⟩ (.slice Ao34 t267.length co34)).heap[gb266]? = some (.cells #[.int .i64 ((rd_T49 l0 x18_1).f0), .bool true] 49 (0, 0))) := ⟨by (with_reducible repeat (first | refine blk_drewN ?_ _ | refine blk_drew ?_ | refine blk_alloc ?_ _)); refine blk_far ?_ NB266_264.out _; (with_reducible repeat (first | refine blk_drewN ?_ _ | refine blk_drew ?_ | refine blk_alloc ?_ _)); exact BK266.out⟩
                      have n9_ : Aside0 (Below w.heap.size w (w33.setCell ⟨gb264, 0, none⟩ (.slice Ao34 t267.length co34))) := ⟨by repeat (first | (with_reducible first | exact HB.out | apply below_alloc | apply pw_below_drewN | apply below_drew1 | refine below_set ?_ GE264.out | refine below_set ?_ GE266.out) | exact HB.out)⟩
                      (try clear HO_3)
                      (try clear HO_4)
                      (try clear HO_6)
                      (try clear HO_265000)
                      (try clear HO269)
                      (try clear HO272)
                      (try clear HO275)
                      (try clear BK264)
                      (try clear BK266)
                      (try clear HB)
                      generalize (w33.setCell ⟨gb264, 0, none⟩ (.slice Ao34 t267.length co34)) = w36 at n0_ n1_ n2_ n3_ n4_ n5_ n6_ n7_ n8_ n9_ ⊢
                      have HO_3 := n0_
                      have HO_4 := n1_
                      have HO_6 := n2_
                      have HO_265000 := n3_
                      have HO269 := n4_
                      have HO272 := n5_
                      have HO275 := n6_
                      have BK264 := n7_
                      have BK266 := n8_
                      have HB := n9_
                      clear n0_ n1_ n2_ n3_ n4_ n5_ n6_ n7_ n8_ n9_
                      have hcz37_0 : w36.cell? ⟨gb264, 0, none⟩ = some (.slice Ao34 t267.length co34) := (blk_cell BK264.out 0).trans rfl
                      have hfz37_0 := blk_frozen BK264.out 0
                      try go_wp2_with (first | ((with_reducible refine gate_builtin (b := .append) (xs := #[.tmp 41, .tmp 43]) rfl ?_); at_builtin; refine Kd.N_append k27 (w0 := w) w.heap.size rfl (.tmp 41) (.tmp 43) 46 27 (.agg #[(.slice none 0 0)]) 24 rfl Tryd.underlying46 info27 rfl (by decide) (by omega) u3 x3_1 (⟨t267⟩ : S27) [.slice Ao34 t267.length co34] (fun k_ => some k_ ≠ (u4 : Value).ownBlock ∧ some k_ ≠ (.slice Ao32 y270.length co32 : Value).ownBlock ∧ k_ ≠ gb264 ∧ k_ ≠ gb266) (fun k_ => ((fun k_ => some k_ ≠ (u4 : Value).ownBlock ∧ some k_ ≠ (.slice Ao32 y270.length co32 : Value).ownBlock ∧ k_ ≠ gb264 ∧ k_ ≠ gb266)) k_ ∧ some k_ ≠ (u3 : Value).ownBlock) rfl rfl ?aP (fun _ hk => hk) ?aF ?aO ?aB ?aS ?aL ?_; (case aP => exact (k27_mkF _ _ (⟨t267⟩ : S27) (Kd.V_reads' (Kd.V_mono (ok' := (fun k_ => ((fun k_ => some k_ ≠ (u4 : Value).ownBlock ∧ some k_ ≠ (.slice Ao32 y270.length co32 : Value).ownBlock ∧ k_ ≠ gb264 ∧ k_ ≠ gb266)) k_ ∧ some k_ ≠ (u3 : Value).ownBlock)) (HO269.out) (fun k_ hk => ⟨⟨hk.2.1, ⟨hk.2.2.1, ⟨hk.2.2.2.1, hk.2.2.2.2⟩⟩⟩, hk.1⟩))).2.1 (Kd.V_F (Kd.V_mono (ok' := (fun k_ => ((fun k_ => some k_ ≠ (u4 : Value).ownBlock ∧ some k_ ≠ (.slice Ao32 y270.length co32 : Value).ownBlock ∧ k_ ≠ gb264 ∧ k_ ≠ gb266)) k_ ∧ some k_ ≠ (u3 : Value).ownBlock)) (HO269.out) (fun k_ hk => ⟨⟨hk.2.1, ⟨hk.2.2.1, ⟨hk.2.2.2.1, hk.2.2.2.2⟩⟩⟩, hk.1⟩))))); (case aB => exact (by repeat (first | (with_reducible first | exact HB.out | apply below_alloc | apply pw_below_drewN | apply below_drew1 | refine below_set ?_ GE264.out | refine below_set ?_ GE266.out) | exact HB.out))); (case aF => exact (fun k_ hk => ⟨Kd.fresh' (Kd.N_lt (by (with_reducible repeat (first | apply Kd.N_alloc | apply Kd.N_drewN | apply Kd.N_drew)); exact HO_4.out)) k_ hk, Kd.fresh' (Kd.R_lt (by (with_reducible repeat (first | apply Kd.R_alloc | apply Kd.R_drewN | apply Kd.R_drew)); exact HO272.out)) k_ hk, Kd.freshB (g := gb264) (o := .cells #[.slice Ao34 t267.length co34] 27 (0, 0)) (by (with_reducible repeat (first | refine blk_drewN ?_ _ | refine blk_drew ?_ | refine blk_alloc ?_ _)); exact BK264.out) k_ hk, Kd.freshB (g := gb266) (o := .cells #[.int .i64 ((rd_T49 l0 x18_1).f0), .bool true] 49 (0, 0)) (by (with_reducible repeat (first | refine blk_drewN ?_ _ | refine blk_drew ?_ | refine blk_alloc ?_ _)); exact BK266.out) k_ hk⟩)); (case aO => exact (by (with_reducible repeat (first | apply Kd.N_alloc | apply Kd.N_drewN | apply Kd.N_drew)); exact HO_3.out)); (case aS => exact (below_size (by repeat (first | (with_reducible first | exact HB.out | apply below_alloc | apply pw_below_drewN | apply below_drew1 | refine below_set ?_ GE264.out | refine below_set ?_ GE266.out) | exact HB.out)))); (case aL => have := LMc19.out; omega); intro v277 w38 ho hb hg hat; rw [← Ny276.out] at ho; have n0_ := Aside0.mk (Kd.N_afterv (ok := (fun k_ => some k_ ≠ (.slice Ao32 y270.length co32 : Value).ownBlock ∧ k_ ≠ gb264 ∧ k_ ≠ gb266)) (by (with_reducible repeat (first | apply Kd.N_alloc | apply Kd.N_drewN | apply Kd.N_drew)); exact Kd.N_mono HO_4.out (fun _ hk => ⟨⟨hk.2.1, ⟨hk.2.2.1, hk.2.2.2⟩⟩, hk.1⟩)) hg hat); have n1_ := Aside0.mk (Kd.V_afterv (ok := (fun k_ => some k_ ≠ (u4 : Value).ownBlock ∧ some k_ ≠ (.slice Ao32 y270.length co32 : Value).ownBlock ∧ k_ ≠ gb264 ∧ k_ ≠ gb266)) (by (with_reducible repeat (first | apply Kd.V_alloc | apply Kd.V_drewN | apply Kd.V_drew)); exact Kd.V_mono HO_6.out (fun _ hk => ⟨⟨hk.2.1, ⟨hk.2.2.1, ⟨hk.2.2.2.1, hk.2.2.2.2⟩⟩⟩, hk.1⟩)) hg hat); have n2_ := Aside0.mk (Kd.V_afterv (ok := (fun k_ => some k_ ≠ (u4 : Value).ownBlock ∧ some k_ ≠ (.slice Ao32 y270.length co32 : Value).ownBlock ∧ k_ ≠ gb264 ∧ k_ ≠ gb266)) (by (with_reducible repeat (first | apply Kd.V_alloc | apply Kd.V_drewN | apply Kd.V_drew)); exact Kd.V_mono HO_265000.out (fun _ hk => ⟨⟨hk.2.1, ⟨hk.2.2.1, ⟨hk.2.2.2.1, hk.2.2.2.2⟩⟩⟩, hk.1⟩)) hg hat); have n3_ := Aside0.mk (blk_grown (g := gb264) (o := .cells #[.slice Ao34 t267.length co34] 27 (0, 0)) (by (with_reducible repeat (first | refine blk_drewN ?_ _ | refine blk_drew ?_ | refine blk_alloc ?_ _)); exact BK264.out) hg (Kd.N_away HO_3.out (fun _ hk => hk.2.2.1))); have n4_ := Aside0.mk (blk_grown (g := gb266) (o := .cells #[.int .i64 ((rd_T49 l0 x18_1).f0), .bool true] 49 (0, 0)) (by (with_reducible repeat (first | refine blk_drewN ?_ _ | refine blk_drew ?_ | refine blk_alloc ?_ _)); exact BK266.out) hg (Kd.N_ne HO_3.out BK266.out (by decide))); have n5_ := Aside0.mk (Kd.V_afterv (ok := (fun k_ => some k_ ≠ (u4 : Value).ownBlock ∧ some k_ ≠ (.slice Ao32 y270.length co32 : Value).ownBlock ∧ k_ ≠ gb264 ∧ k_ ≠ gb266)) (by (with_reducible repeat (first | apply Kd.V_alloc | apply Kd.V_drewN | apply Kd.V_drew)); exact Kd.V_mono HO269.out (fun _ hk => ⟨⟨hk.2.1, ⟨hk.2.2.1, ⟨hk.2.2.2.1, hk.2.2.2.2⟩⟩⟩, hk.1⟩)) hg hat); have n6_ := Aside0.mk (Kd.R_over' (by (with_reducible repeat (first | apply Kd.R_alloc | apply Kd.R_drewN | apply Kd.R_drew)); exact HO272.out) (Kd.N_typed (by (with_reducible repeat (first | apply Kd.N_alloc | apply Kd.N_drewN | apply Kd.N_drew)); exact HO_3.out)) (by decide) hg); have n7_ := Aside0.mk (Kd.V_afterv (ok := (fun k_ => some k_ ≠ (u4 : Value).ownBlock ∧ some k_ ≠ (.slice Ao32 y270.length co32 : Value).ownBlock ∧ k_ ≠ gb264 ∧ k_ ≠ gb266)) (by (with_reducible repeat (first | apply Kd.V_alloc | apply Kd.V_drewN | apply Kd.V_drew)); exact Kd.V_mono HO275.out (fun _ hk => ⟨⟨hk.2.1, ⟨hk.2.2.1, ⟨hk.2.2.2.1, hk.2.2.2.2⟩⟩⟩, hk.1⟩)) hg hat); have n8_ := Aside0.mk (hb); have n9_ := Aside0.mk (ho); clear HO_4; clear HO_6; clear HO_265000; clear BK264; clear BK266; clear HO269; clear HO272; clear HO275; clear HB; clear HO_3; have HO_4 := n0_; have HO_6 := n1_; have HO_265000 := n2_; have BK264 := n3_; have BK266 := n4_; have HO269 := n5_; have HO272 := n6_; have HO275 := n7_; have HB := n8_; have HO278 := n9_; clear n0_ n1_ n2_ n3_ n4_ n5_ n6_ n7_ n8_ n9_; clear ho hb hg hat; obtain ⟨Ao40, co40, eo40⟩ := Kd.V_slice HO275.out; subst eo40) | ((with_reducible refine gate_builtin (b := .append) (xs := #[.tmp 45, .tmp 47]) rfl ?_); at_builtin; refine Kd.N_append (Kd.slice 3 (Kd.int .i64)) (w0 := w) w.heap.size rfl (.tmp 45) (.tmp 47) 47 22 (.slice none 0 0) 24 rfl Tryd.underlying47 info22 rfl (by decide) (by omega) u4 x4_1 t273 [.slice Ao40 t273.length co40] (fun k_ => some k_ ≠ (.slice Ao32 y270.length co32 : Value).ownBlock ∧ some k_ ≠ (v277 : Value).ownBlock ∧ k_ ≠ gb264 ∧ k_ ≠ gb266) (fun k_ => ((fun k_ => some k_ ≠ (.slice Ao32 y270.length co32 : Value).ownBlock ∧ some k_ ≠ (v277 : Value).ownBlock ∧ k_ ≠ gb264 ∧ k_ ≠ gb266)) k_ ∧ some k_ ≠ (u4 : Value).ownBlock) rfl rfl ?aP (fun _ hk => hk) ?aF ?aO ?aB ?aS ?aL ?_; (case aP => exact (Kd.FK_slice_mk (Kd.V_reads' (Kd.V_mono (ok' := (fun k_ => ((fun k_ => some k_ ≠ (.slice Ao32 y270.length co32 : Value).ownBlock ∧ some k_ ≠ (v277 : Value).ownBlock ∧ k_ ≠ gb264 ∧ k_ ≠ gb266)) k_ ∧ some k_ ≠ (u4 : Value).ownBlock)) (HO275.out) (fun k_ hk => ⟨⟨hk.1.2.1, ⟨hk.2, ⟨hk.1.2.2.1, hk.1.2.2.2⟩⟩⟩, hk.1.1⟩))).2.1 (Kd.V_F (Kd.V_mono (ok' := (fun k_ => ((fun k_ => some k_ ≠ (.slice Ao32 y270.length co32 : Value).ownBlock ∧ some k_ ≠ (v277 : Value).ownBlock ∧ k_ ≠ gb264 ∧ k_ ≠ gb266)) k_ ∧ some k_ ≠ (u4 : Value).ownBlock)) (HO275.out) (fun k_ hk => ⟨⟨hk.1.2.1, ⟨hk.2, ⟨hk.1.2.2.1, hk.1.2.2.2⟩⟩⟩, hk.1.1⟩))))); (case aB => exact (by repeat (first | (with_reducible first | exact HB.out | apply below_alloc | apply pw_below_drewN | apply below_drew1 | refine below_set ?_ GE264.out | refine below_set ?_ GE266.out) | exact HB.out))); (case aF => exact (fun k_ hk => ⟨Kd.fresh' (Kd.R_lt (by (with_reducible repeat (first | apply Kd.R_alloc | apply Kd.R_drewN | apply Kd.R_drew)); exact HO272.out)) k_ hk, Kd.fresh' (Kd.N_lt (by (with_reducible repeat (first | apply Kd.N_alloc | apply Kd.N_drewN | apply Kd.N_drew)); exact HO278.out)) k_ hk, Kd.freshB (g := gb264) (o := .cells #[.slice Ao34 t267.length co34] 27 (0, 0)) (by (with_reducible repeat (first | refine blk_drewN ?_ _ | refine blk_drew ?_ | refine blk_alloc ?_ _)); exact BK264.out) k_ hk, Kd.freshB (g := gb266) (o := .cells #[.int .i64 ((rd_T49 l0 x18_1).f0), .bool true] 49 (0, 0)) (by (with_reducible repeat (first | refine blk_drewN ?_ _ | refine blk_drew ?_ | refine blk_alloc ?_ _)); exact BK266.out) k_ hk⟩)); (case aO => exact (by (with_reducible repeat (first | apply Kd.N_alloc | apply Kd.N_drewN | apply Kd.N_drew)); exact Kd.N_mono HO_4.out (fun _ hk => ⟨hk.1.1, ⟨hk.2, ⟨hk.1.2.1, hk.1.2.2⟩⟩⟩))); (case aS => exact (below_size (by repeat (first | (with_reducible first | exact HB.out | apply below_alloc | apply pw_below_drewN | apply below_drew1 | refine below_set ?_ GE264.out | refine below_set ?_ GE266.out) | exact HB.out)))); (case aL => have := LMc20.out; omega); intro v280 w39 ho hb hg hat; rw [← Ny279.out] at ho; have n0_ := Aside0.mk (Kd.V_afterv (ok := (fun k_ => some k_ ≠ (.slice Ao32 y270.length co32 : Value).ownBlock ∧ some k_ ≠ (v277 : Value).ownBlock ∧ k_ ≠ gb264 ∧ k_ ≠ gb266)) (by (with_reducible repeat (first | apply Kd.V_alloc | apply Kd.V_drewN | apply Kd.V_drew)); exact Kd.V_mono HO_6.out (fun _ hk => ⟨⟨hk.1.2.1, ⟨hk.2, ⟨hk.1.2.2.1, hk.1.2.2.2⟩⟩⟩, hk.1.1⟩)) hg hat); have n1_ := Aside0.mk (Kd.V_afterv (ok := (fun k_ => some k_ ≠ (.slice Ao32 y270.length co32 : Value).ownBlock ∧ some k_ ≠ (v277 : Value).ownBlock ∧ k_ ≠ gb264 ∧ k_ ≠ gb266)) (by (with_reducible repeat (first | apply Kd.V_alloc | apply Kd.V_drewN | apply Kd.V_drew)); exact Kd.V_mono HO_265000.out (fun _ hk => ⟨⟨hk.1.2.1, ⟨hk.2, ⟨hk.1.2.2.1, hk.1.2.2.2⟩⟩⟩, hk.1.1⟩)) hg hat); have n2_ := Aside0.mk (blk_grown (g := gb264) (o := .cells #[.slice Ao34 t267.length co34] 27 (0, 0)) (by (with_reducible repeat (first | refine blk_drewN ?_ _ | refine blk_drew ?_ | refine blk_alloc ?_ _)); exact BK264.out) hg (Kd.N_ne HO_4.out BK264.out (by decide))); have n3_ := Aside0.mk (blk_grown (g := gb266) (o := .cells #[.int .i64 ((rd_T49 l0 x18_1).f0), .bool true] 49 (0, 0)) (by (with_reducible repeat (first | refine blk_drewN ?_ _ | refine blk_drew ?_ | refine blk_alloc ?_ _)); exact BK266.out) hg (Kd.N_ne HO_4.out BK266.out (by decide))); have n4_ := Aside0.mk (Kd.V_afterv (ok := (fun k_ => some k_ ≠ (.slice Ao32 y270.length co32 : Value).ownBlock ∧ some k_ ≠ (v277 : Value).ownBlock ∧ k_ ≠ gb264 ∧ k_ ≠ gb266)) (by (with_reducible repeat (first | apply Kd.V_alloc | apply Kd.V_drewN | apply Kd.V_drew)); exact Kd.V_mono HO269.out (fun _ hk => ⟨⟨hk.1.2.1, ⟨hk.2, ⟨hk.1.2.2.1, hk.1.2.2.2⟩⟩⟩, hk.1.1⟩)) hg hat); have n5_ := Aside0.mk (Kd.R_over' (by (with_reducible repeat (first | apply Kd.R_alloc | apply Kd.R_drewN | apply Kd.R_drew)); exact HO272.out) (Kd.N_typed (by (with_reducible repeat (first | apply Kd.N_alloc | apply Kd.N_drewN | apply Kd.N_drew)); exact HO_4.out)) (by decide) hg); have n6_ := Aside0.mk (Kd.V_afterv (ok := (fun k_ => some k_ ≠ (.slice Ao32 y270.length co32 : Value).ownBlock ∧ some k_ ≠ (v277 : Value).ownBlock ∧ k_ ≠ gb264 ∧ k_ ≠ gb266)) (by (with_reducible repeat (first | apply Kd.V_alloc | apply Kd.V_drewN | apply Kd.V_drew)); exact Kd.V_mono HO275.out (fun _ hk => ⟨⟨hk.1.2.1, ⟨hk.2, ⟨hk.1.2.2.1, hk.1.2.2.2⟩⟩⟩, hk.1.1⟩)) hg hat); have n7_ := Aside0.mk (Kd.N_afterv (ok := (fun k_ => some k_ ≠ (.slice Ao32 y270.length co32 : Value).ownBlock ∧ k_ ≠ gb264 ∧ k_ ≠ gb266)) (by (with_reducible repeat (first | apply Kd.N_alloc | apply Kd.N_drewN | apply Kd.N_drew)); exact Kd.N_mono HO278.out (fun _ hk => ⟨⟨hk.2.1, ⟨hk.2.2.1, hk.2.2.2⟩⟩, hk.1⟩)) hg hat); have n8_ := Aside0.mk (hb); have n9_ := Aside0.mk (ho); clear HO_6; clear HO_265000; clear BK264; clear BK266; clear HO269; clear HO272; clear HO275; clear HO278; clear HB; clear HO_4; have HO_6 := n0_; have HO_265000 := n1_; have BK264 := n2_; have BK266 := n3_; have HO269 := n4_; have HO272 := n5_; have HO275 := n6_; have HO278 := n7_; have HB := n8_; have HO281 := n9_; clear n0_ n1_ n2_ n3_ n4_ n5_ n6_ n7_ n8_ n9_; clear ho hb hg hat))
                      go_roundg k1
                      case measure => have := HK1.out; omega
                      case rel => exact ⟨(y276), (y279), (t273), (wrap64 (x18_1 + 1)), (t267), (.slice Ao34 t267.length co34), (by first | rfl | (simp; done) | (simp [*]; done)), H', ⟨by have := HK1.out; omega⟩, ⟨by (with_reducible repeat (first | apply Kd.N_alloc | apply Kd.N_drewN | apply Kd.N_drew)); exact Kd.N_mono HO278.out (fun _ hk => ⟨hk.2, hk.1.2.1⟩)⟩, ⟨by (with_reducible repeat (first | apply Kd.N_alloc | apply Kd.N_drewN | apply Kd.N_drew)); exact Kd.N_mono HO281.out (fun _ hk => ⟨hk.2.1, hk.2.2.1⟩)⟩, ⟨by (with_reducible repeat (first | apply Kd.V_alloc | apply Kd.V_drewN | apply Kd.V_drew)); exact Kd.V_mono HO275.out (fun _ hk => ⟨hk.1.2.1, ⟨hk.2, hk.1.2.2.1⟩⟩)⟩, ⟨by (with_reducible repeat (first | apply Kd.V_alloc | apply Kd.V_drewN | apply Kd.V_drew)); exact Kd.V_mono HO269.out (fun _ hk => ⟨hk.1.2.1, ⟨hk.2, hk.1.2.2.1⟩⟩)⟩, ⟨by (with_reducible repeat (first | refine blk_drewN ?_ _ | refine blk_drew ?_ | refine blk_alloc ?_ _)); exact BK264.out⟩, ⟨by repeat (first | (with_reducible first | exact HB.out | apply below_alloc | apply pw_below_drewN | apply below_drew1 | refine below_set ?_ GE264.out | refine below_set ?_ GE266.out) | exact HB.out)⟩⟩
                    · rw [if_neg c20] at H
                      exact absurd H (by simp)
                  · rw [if_neg c19] at H
                    exact absurd H (by simp)
                · replace c16 := Bool.eq_false_iff.mpr c16
                  subst c16
                  have H1 : ((bitset_Set_With.f k1 x265000_1 ((rd_T49 l0 x18_1).f0)).bind fun t282 => ((trickleref04_With.f k1 x6_1 ((rd_T49 l0 x18_1).f0)).bind fun t285 => (if x3_1.length < 5864062014805 then (if x4_1.length < 5864062014805 then (tricklelaw04_BitsetEdits.l0 k1 (x3_1 ++ [(⟨t282⟩ : S27)]) (x4_1 ++ [t285]) t285 l0 (l0.length : Int) (wrap64 (x18_1 + 1)) t282) else (none)) else (none)))) = some r := by rw [if_neg (show ¬ (false = true) by decide)] at H; exact H
                  clear H
                  have H := H1
                  clear H1
                  replace H := Option.bind_eq_some_iff.mp H
                  obtain ⟨t282, A410, H⟩ := H
                  replace H : ((trickleref04_With.f k1 x6_1 ((rd_T49 l0 x18_1).f0)).bind fun t285 => (if x3_1.length < 5864062014805 then (if x4_1.length < 5864062014805 then (tricklelaw04_BitsetEdits.l0 k1 (x3_1 ++ [(⟨t282⟩ : S27)]) (x4_1 ++ [t285]) t285 l0 (l0.length : Int) (wrap64 (x18_1 + 1)) t282) else (none)) else (none))) = some r := H
                  have A41 := Aside0.mk A410
                  clear A410
                  replace H := Option.bind_eq_some_iff.mp H
                  obtain ⟨t285, A420, H⟩ := H
                  replace H : (if x3_1.length < 5864062014805 then (if x4_1.length < 5864062014805 then (tricklelaw04_BitsetEdits.l0 k1 (x3_1 ++ [(⟨t282⟩ : S27)]) (x4_1 ++ [t285]) t285 l0 (l0.length : Int) (wrap64 (x18_1 + 1)) t282) else (none)) else (none)) = some r := H
                  have A42 := Aside0.mk A420
                  clear A420
                  by_cases c43 : x3_1.length < 5864062014805
                  · rw [if_pos c43] at H
                    have LMc43 := Aside0.mk c43
                    clear c43
                    obtain ⟨y288, hy288⟩ : ∃ y_ : List (S27), y_ = (x3_1 ++ [(⟨t282⟩ : S27)]) := ⟨_, rfl⟩
                    replace H : (if x4_1.length < 5864062014805 then (tricklelaw04_BitsetEdits.l0 k1 y288 (x4_1 ++ [t285]) t285 l0 (l0.length : Int) (wrap64 (x18_1 + 1)) t282) else (none)) = some r := by first | (rw [hy288]; with_reducible exact H) | (have H2_ := (Option.bind_some _ _).symm.trans H; rw [hy288]; with_reducible exact H2_) | (have H2_ := (Option.bind_some _ _).symm.trans H; with_reducible exact H2_) | with_reducible exact H | (rw [hy288]; exact H) | exact H
                    have Ny288 := Aside0.mk hy288
                    clear hy288
                    by_cases c44 : x4_1.length < 5864062014805
                    · rw [if_pos c44] at H
                      have LMc44 := Aside0.mk c44
                      clear c44
                      obtain ⟨y291, hy291⟩ : ∃ y_ : List (List Int), y_ = (x4_1 ++ [t285]) := ⟨_, rfl⟩
                      replace H : (tricklelaw04_BitsetEdits.l0 k1 y288 y291 t285 l0 (l0.length : Int) (wrap64 (x18_1 + 1)) t282) = some r := by first | (rw [hy291]; with_reducible exact H) | (have H2_ := (Option.bind_some _ _).symm.trans H; rw [hy291]; with_reducible exact H2_) | (have H2_ := (Option.bind_some _ _).symm.trans H; with_reducible exact H2_) | with_reducible exact H | (rw [hy291]; exact H) | exact H
                      have Ny291 := Aside0.mk hy291
                      clear hy291
                      have H' := Aside0.mk H
                      clear H
                      have p265 : 0 ≤ (x18_1 : Int) := of_decide_eq_true (by first | (with_reducible assumption) | assumption)
                      have q265 : x18_1 < (l0.length : Int) := of_decide_eq_true (by first | (with_reducible assumption) | assumption)
                      obtain ⟨ad265, e265, hx265_0, hx265_1⟩ := at_T49 HR0.out x18_1 p265 q265
                      (try rw [← Nbq15.out] at hx265_1)
                      cases e265
                      replace hx265_0 := (HB.out.cell (World.block_lt_of_cell? w _ hx265_0)).trans hx265_0
                      replace hx265_1 := (HB.out.cell (World.block_lt_of_cell? w _ hx265_1)).trans hx265_1
                      replace p265 := eq_true p265
                      replace q265 := eq_true q265
                      try go_wp2_with (first | ((with_reducible refine gate_dst (N := 8) rfl ?_); refine box_event ?hg (N := 8) ?hd (cs := #[.int .i64 0, .bool false]) (t := 49) ?hr ?_; (case hd => rfl); (case hg => rfl); (case hr => first | (go_simp; done) | (go_simp; rfl)); intro gb266 hg w45 hbox hb; have n0_ := Aside0.mk (Kd.N_below (Kd.N_elderB (by (with_reducible repeat (first | apply Kd.N_alloc | apply Kd.N_drewN | apply Kd.N_drew)); exact HO_3.out) gb266 (Nat.le_of_eq hg.symm)) hb); have n1_ := Aside0.mk (Kd.N_below (Kd.N_elderB (by (with_reducible repeat (first | apply Kd.N_alloc | apply Kd.N_drewN | apply Kd.N_drew)); exact HO_4.out) gb266 (Nat.le_of_eq hg.symm)) hb); have n2_ := Aside0.mk (Kd.V_below (Kd.V_elderB (by (with_reducible repeat (first | apply Kd.V_alloc | apply Kd.V_drewN | apply Kd.V_drew)); exact HO_6.out) gb266 (Nat.le_of_eq hg.symm)) hb); have n3_ := Aside0.mk (Kd.V_below (Kd.V_elderB (by (with_reducible repeat (first | apply Kd.V_alloc | apply Kd.V_drewN | apply Kd.V_drew)); exact HO_265000.out) gb266 (Nat.le_of_eq hg.symm)) hb); have n4_ := Aside0.mk (blk_below (g := gb264) (o := .cells #[u265000] 27 (0, 0)) (by (with_reducible repeat (first | refine blk_drewN ?_ _ | refine blk_drew ?_ | refine blk_alloc ?_ _)); exact BK264.out) hb); have n5_ := Aside0.mk (below_step (by repeat (first | (with_reducible first | exact HB.out | apply below_alloc | apply pw_below_drewN | apply below_drew1 | refine below_set ?_ GE264.out) | exact HB.out)) hb); have n6_ := Aside0.mk (hbox); have n7_ := Aside0.mk ((by rw [hg]; exact (below_size (by repeat (first | (with_reducible first | exact HB.out | apply below_alloc | apply pw_below_drewN | apply below_drew1 | refine below_set ?_ GE264.out) | exact HB.out))) : w.heap.size ≤ gb266)); have n8_ := Aside0.mk ((by rw [hg]; exact (below_size (by repeat (first | (with_reducible first | exact HB.out | apply below_alloc | apply pw_below_drewN | apply below_drew1 | refine below_set ?_ GE264.out) | exact HB.out))) : w.heap.size ≤ gb266)); have n9_ := Aside0.mk ((by rw [hg]; exact Nat.ne_of_lt (blk_lt (g := gb264) (o := .cells #[u265000] 27 (0, 0)) (by (with_reducible repeat (first | refine blk_drewN ?_ _ | refine blk_drew ?_ | refine blk_alloc ?_ _)); exact BK264.out)) : gb264 ≠ gb266)); have n10_ := Aside0.mk ((by rw [hg]; exact Nat.ne_of_gt (blk_lt (g := gb264) (o := .cells #[u265000] 27 (0, 0)) (by (with_reducible repeat (first | refine blk_drewN ?_ _ | refine blk_drew ?_ | refine blk_alloc ?_ _)); exact BK264.out)) : gb266 ≠ gb264)); clear HO_3; clear HO_4; clear HO_6; clear HO_265000; clear BK264; clear HB; have HO_3 := n0_; have HO_4 := n1_; have HO_6 := n2_; have HO_265000 := n3_; have BK264 := n4_; have HB := n5_; have BK266 := n6_; have GW266 := n7_; have GE266 := n8_; have NB264_266 := n9_; have NB266_264 := n10_; clear n0_ n1_ n2_ n3_ n4_ n5_ n6_ n7_ n8_ n9_ n10_; clear hb hbox hg; have hnb46 := NB266_264.out; have hnc46 := NB264_266.out; have hcz47_0 : w45.cell? ⟨gb266, 0, none⟩ = some (.int .i64 0) := (blk_cell BK266.out 0).trans rfl; have hcz47_1 : w45.cell? ⟨gb266, 1, none⟩ = some (.bool false) := (blk_cell BK266.out 1).trans rfl; have hfz47_0 := blk_frozen BK266.out 0; have hfz47_1 := blk_frozen BK266.out 1))
                      have n0_ : Aside0 (Kd.N k27 27 ((w45.setCell ⟨gb266, 0, none⟩ (.int .i64 ((rd_T49 l0 x18_1).f0))).setCell ⟨gb266, 1, none⟩ (.bool false)) w.heap.size (fun k_ => some k_ ≠ (u4 : Value).ownBlock ∧ k_ ≠ gb264 ∧ k_ ≠ gb266) u3 x3_1) := ⟨by (with_reducible repeat (first | apply Kd.N_alloc | apply Kd.N_drewN | apply Kd.N_drew)); exact Kd.N_mono (Kd.N_far (p := ⟨gb266, 1, none⟩) (Kd.N_far (p := ⟨gb266, 0, none⟩) (Kd.N_mono HO_3.out (fun k_ hk => (⟨hk, hk.2⟩ : _ ∧ k_ ≠ gb266))) (fun _ hk => hk.2) (.int .i64 ((rd_T49 l0 x18_1).f0))) (fun _ hk => hk.2) (.bool false)) (fun _ hk => ⟨hk.1.1.1, ⟨hk.1.1.2, hk.1.2⟩⟩)⟩
                      have n1_ : Aside0 (Kd.N (Kd.slice 3 (Kd.int .i64)) 22 ((w45.setCell ⟨gb266, 0, none⟩ (.int .i64 ((rd_T49 l0 x18_1).f0))).setCell ⟨gb266, 1, none⟩ (.bool false)) w.heap.size (fun k_ => some k_ ≠ (u3 : Value).ownBlock ∧ k_ ≠ gb264 ∧ k_ ≠ gb266) u4 x4_1) := ⟨by (with_reducible repeat (first | apply Kd.N_alloc | apply Kd.N_drewN | apply Kd.N_drew)); exact Kd.N_mono (Kd.N_far (p := ⟨gb266, 1, none⟩) (Kd.N_far (p := ⟨gb266, 0, none⟩) (Kd.N_mono HO_4.out (fun k_ hk => (⟨hk, hk.2⟩ : _ ∧ k_ ≠ gb266))) (fun _ hk => hk.2) (.int .i64 ((rd_T49 l0 x18_1).f0))) (fun _ hk => hk.2) (.bool false)) (fun _ hk => ⟨hk.1.1.1, ⟨hk.1.1.2, hk.1.2⟩⟩)⟩
                      have n2_ : Aside0 (Kd.V (Kd.int .i64) 3 ((w45.setCell ⟨gb266, 0, none⟩ (.int .i64 ((rd_T49 l0 x18_1).f0))).setCell ⟨gb266, 1, none⟩ (.bool false)) w.heap.size (fun k_ => some k_ ≠ (u3 : Value).ownBlock ∧ some k_ ≠ (u4 : Value).ownBlock ∧ k_ ≠ gb264 ∧ k_ ≠ gb266) u6 x6_1) := ⟨by (with_reducible repeat (first | apply Kd.V_alloc | apply Kd.V_drewN | apply Kd.V_drew)); exact Kd.V_mono (Kd.V_far (p := ⟨gb266, 1, none⟩) (Kd.V_far (p := ⟨gb266, 0, none⟩) (Kd.V_mono HO_6.out (fun k_ hk => (⟨hk, hk.2⟩ : _ ∧ k_ ≠ gb266))) (fun _ hk => hk.2) (.int .i64 ((rd_T49 l0 x18_1).f0))) (fun _ hk => hk.2) (.bool false)) (fun _ hk => ⟨hk.1.1.1, ⟨hk.1.1.2.1, ⟨hk.1.1.2.2, hk.1.2⟩⟩⟩)⟩
                      have n3_ : Aside0 (Kd.V (Kd.int .u64) 56 ((w45.setCell ⟨gb266, 0, none⟩ (.int .i64 ((rd_T49 l0 x18_1).f0))).setCell ⟨gb266, 1, none⟩ (.bool false)) w.heap.size (fun k_ => some k_ ≠ (u3 : Value).ownBlock ∧ some k_ ≠ (u4 : Value).ownBlock ∧ k_ ≠ gb264 ∧ k_ ≠ gb266) u265000 x265000_1) := ⟨by (with_reducible repeat (first | apply Kd.V_alloc | apply Kd.V_drewN | apply Kd.V_drew)); exact Kd.V_mono (Kd.V_far (p := ⟨gb266, 1, none⟩) (Kd.V_far (p := ⟨gb266, 0, none⟩) (Kd.V_mono HO_265000.out (fun k_ hk => (⟨hk, hk.2⟩ : _ ∧ k_ ≠ gb266))) (fun _ hk => hk.2) (.int .i64 ((rd_T49 l0 x18_1).f0))) (fun _ hk => hk.2) (.bool false)) (fun _ hk => ⟨hk.1.1.1, ⟨hk.1.1.2.1, ⟨hk.1.1.2.2, hk.1.2⟩⟩⟩)⟩
                      have n4_ : Aside0 (((w45.setCell ⟨gb266, 0, none⟩ (.int .i64 ((rd_T49 l0 x18_1).f0))).setCell ⟨gb266, 1, none⟩ (.bool false)).heap[gb264]? = some (.cells #[u265000] 27 (0, 0))) := ⟨by (with_reducible repeat (first | refine blk_drewN ?_ _ | refine blk_drew ?_ | refine blk_alloc ?_ _)); refine blk_far ?_ NB264_266.out _; (with_reducible repeat (first | refine blk_drewN ?_ _ | refine blk_drew ?_ | refine blk_alloc ?_ _)); refine blk_far ?_ NB264_266.out _; (with_reducible repeat (first | refine blk_drewN ?_ _ | refine blk_drew ?_ | refine blk_alloc ?_ _)); exact BK264.out⟩
                      have n5_ : Aside0 (((w45.setCell ⟨gb266, 0, none⟩ (.int .i64 ((rd_T49 l0 x18_1).f0))).setCell ⟨gb266, 1, none⟩ (.bool false)).heap[gb266]? = some (.cells #[.int .i64 ((rd_T49 l0 x18_1).f0), .bool false] 49 (0, 0))) := ⟨by (with_reducible repeat (first | refine blk_drewN ?_ _ | refine blk_drew ?_ | refine blk_alloc ?_ _)); refine blk_put (cs := #[.int .i64 ((rd_T49 l0 x18_1).f0), .bool false]) ?_ 1 _ rfl; (with_reducible repeat (first | refine blk_drewN ?_ _ | refine blk_drew ?_ | refine blk_alloc ?_ _)); refine blk_put (cs := #[.int .i64 0, .bool false]) ?_ 0 _ rfl; (with_reducible repeat (first | refine blk_drewN ?_ _ | refine blk_drew ?_ | refine blk_alloc ?_ _)); exact BK266.out⟩
                      have n6_ : Aside0 (Below w.heap.size w ((w45.setCell ⟨gb266, 0, none⟩ (.int .i64 ((rd_T49 l0 x18_1).f0))).setCell ⟨gb266, 1, none⟩ (.bool false))) := ⟨by repeat (first | (with_reducible first | exact HB.out | apply below_alloc | apply pw_below_drewN | apply below_drew1 | refine below_set ?_ GE264.out | refine below_set ?_ GE266.out) | exact HB.out)⟩
                      (try clear HO_3)
                      (try clear HO_4)
                      (try clear HO_6)
                      (try clear HO_265000)
                      (try clear BK264)
                      (try clear BK266)
                      (try clear HB)
                      generalize ((w45.setCell ⟨gb266, 0, none⟩ (.int .i64 ((rd_T49 l0 x18_1).f0))).setCell ⟨gb266, 1, none⟩ (.bool false)) = w48 at n0_ n1_ n2_ n3_ n4_ n5_ n6_ ⊢
                      have HO_3 := n0_
                      have HO_4 := n1_
                      have HO_6 := n2_
                      have HO_265000 := n3_
                      have BK264 := n4_
                      have BK266 := n5_
                      have HB := n6_
                      clear n0_ n1_ n2_ n3_ n4_ n5_ n6_
                      have n0_ := Aside0.mk (Kd.N_drew HO_3.out)
                      have n1_ := Aside0.mk (Kd.N_drew HO_4.out)
                      have n2_ := Aside0.mk (Kd.V_drew HO_6.out)
                      have n3_ := Aside0.mk (Kd.V_drew HO_265000.out)
                      have n4_ := Aside0.mk (blk_drew BK264.out)
                      have n5_ := Aside0.mk (blk_drew BK266.out)
                      have n6_ := Aside0.mk (below_drew1 HB.out)
                      clear HO_3
                      clear HO_4
                      clear HO_6
                      clear HO_265000
                      clear BK264
                      clear BK266
                      clear HB
                      have HO_3 := n0_
                      have HO_4 := n1_
                      have HO_6 := n2_
                      have HO_265000 := n3_
                      have BK264 := n4_
                      have BK266 := n5_
                      have HB := n6_
                      clear n0_ n1_ n2_ n3_ n4_ n5_ n6_
                      obtain ⟨Ao50, co50, eo50⟩ := Kd.V_slice HO_265000.out
                      (first | subst eo50 | (injection eo50 with f1_ f2_ f3_; have f4_ := f1_.symm; have f5_ := f3_.symm; clear f1_ f2_ f3_; subst f4_; subst f5_))
                      refine start_ (n := 10) (S := fun w' => w'.cell? ⟨gb264, 0, none⟩ = some (.slice Ao50 x265000_1.length co50) ∧ w'.cell? ⟨gb266, 0, none⟩ = some (.int .i64 ((rd_T49 l0 x18_1).f0)) ∧ w'.cell? ⟨gb266, 1, none⟩ = some (.bool false)) (ds := [8]) #[false, false, false, false, false, false, false, false, false, false] (by kernel_rfl) rfl rfl ⟨(blk_cell BK264.out 0).trans rfl, (blk_cell BK266.out 0).trans rfl, (blk_cell BK266.out 1).trans rfl⟩ (fun hHeld => ?_); refine with_tabW tricklelaw04_BitsetEdits.tab13 tricklelaw04_BitsetEdits.bits13 (fun HT_ HW_ => ?_)
                      generalize w48.drew = w49 at HO_3 HO_4 HO_6 HO_265000 BK264 BK266 HB hHeld ⊢
                      refine pure_ (i := 1) (N := some 34) (v := ?_) (a' := ?_) #[false, true, false, false, false, false, false, false, false, false] rfl rfl (any_of HT_.out (by kernel_rfl)) (fun _ _ _ h => h) (Or.inl ⟨by rfl, ?_⟩) ?_ ?_
                      rotate_left
                      · intro w'
                        go_simp
                        with_reducible rfl
                      rotate_left
                      · simp only [Act.put, List.setIfInBounds_toArray, List.set_cons_zero, List.set_cons_succ, i64_w, i32_w]
                        rfl
                      refine pure_ (i := 4) (N := some 37) (v := ?_) (a' := ?_) #[false, true, false, false, true, false, false, false, false, false] rfl rfl (any_of HT_.out (by kernel_rfl)) (fun _ _ _ h => h) (Or.inl ⟨by rfl, ?_⟩) ?_ ?_
                      rotate_left
                      · intro w'
                        go_simp
                        with_reducible rfl
                      rotate_left
                      · simp only [Act.put, List.setIfInBounds_toArray, List.set_cons_zero, List.set_cons_succ, i64_w, i32_w]
                        rfl
                      refine pure_ (i := 5) (N := some 38) (v := ?_) (a' := ?_) #[false, true, false, false, true, true, false, false, false, false] rfl rfl (any_of HT_.out (by kernel_rfl)) (fun _ _ _ h => h) (Or.inl ⟨by rfl, ?_⟩) ?_ ?_
                      rotate_left
                      · intro w'
                        go_simp
                        with_reducible rfl
                      rotate_left
                      · simp only [Act.put, List.setIfInBounds_toArray, List.set_cons_zero, List.set_cons_succ, i64_w, i32_w]
                        rfl
                      refine take_ (i := 0) (N := some 33) (v := ?_) (a' := ?_) #[true, true, false, false, true, true, false, false, false, false] rfl rfl (take_ofW HT_.out HW_.out (by kernel_rfl)) (fun _ _ _ h => h) (Or.inl ⟨by rfl, ?_⟩) hHeld ?_ ?_
                      rotate_left
                      · rintro w' ⟨s0, s1, s2⟩
                        go_simp
                        with_reducible rfl
                      rotate_left
                      · simp only [Act.put, List.setIfInBounds_toArray, List.set_cons_zero, List.set_cons_succ, i64_w, i32_w]
                        rfl
                      refine take_ (i := 2) (N := some 35) (v := ?_) (a' := ?_) #[true, true, true, false, true, true, false, false, false, false] rfl rfl (take_ofW HT_.out HW_.out (by kernel_rfl)) (fun _ _ _ h => h) (Or.inl ⟨by rfl, ?_⟩) hHeld ?_ ?_
                      rotate_left
                      · rintro w' ⟨s0, s1, s2⟩
                        go_simp
                        with_reducible rfl
                      rotate_left
                      · simp only [Act.put, List.setIfInBounds_toArray, List.set_cons_zero, List.set_cons_succ, i64_w, i32_w]
                        rfl
                      refine take_ (i := 6) (N := some 39) (v := ?_) (a' := ?_) #[true, true, true, false, true, true, true, false, false, false] rfl rfl (take_ofW HT_.out HW_.out (by kernel_rfl)) (fun _ _ _ h => h) (Or.inl ⟨by rfl, ?_⟩) hHeld ?_ ?_
                      rotate_left
                      · rintro w' ⟨s0, s1, s2⟩
                        go_simp
                        with_reducible rfl
                      rotate_left
                      · simp only [Act.put, List.setIfInBounds_toArray, List.set_cons_zero, List.set_cons_succ, i64_w, i32_w]
                        rfl
                      refine one_ (i := 3) (N := some 36) #[true, true, true, true, true, true, true, false, false, false] rfl rfl (one_of HT_.out (by kernel_rfl)) (by decide) (fun K hK => ?_)
                      refine goes_ Tryd.func32 (by kernel_rfl) rfl #[.agg #[.slice Ao50 x265000_1.length co50], .int .i64 ((rd_T49 l0 x18_1).f0)] (by rfl) rfl rfl (by (try simp only [List.map_toArray, List.map_cons, List.map_nil]); first | done | rfl | (simp only [List.length_drop, List.length_take]; rfl)) ?_
                      with_reducible refine (bitset_Set_With.calls k1 _ _ x265000_1 ((rd_T49 l0 x18_1).f0) t282 _ ?side1 ?side2 A41.out).mono ?_
                      (case side1 => repeat (first | exact (Kd.V_reads' HO_265000.out).2.2 | (with_reducible refine Kd.C_alloc ?_ _) | (with_reducible refine Kd.C_drewN ?_ _) | (with_reducible refine Kd.C_drew ?_)))
                      (case side2 => exact (Kd.V_reads' HO_265000.out).2.1)
                      rintro e w51 ⟨v283, rfl, ho0, hb⟩
                      refine ⟨_, rfl, ?_⟩
                      have n0_ := Aside0.mk (Kd.N_below (by (with_reducible repeat (first | apply Kd.N_alloc | apply Kd.N_drewN | apply Kd.N_drew)); exact HO_3.out) hb)
                      have n1_ := Aside0.mk (Kd.N_below (by (with_reducible repeat (first | apply Kd.N_alloc | apply Kd.N_drewN | apply Kd.N_drew)); exact HO_4.out) hb)
                      have n2_ := Aside0.mk (Kd.V_below (by (with_reducible repeat (first | apply Kd.V_alloc | apply Kd.V_drewN | apply Kd.V_drew)); exact HO_6.out) hb)
                      have n3_ := Aside0.mk (Kd.V_below (by (with_reducible repeat (first | apply Kd.V_alloc | apply Kd.V_drewN | apply Kd.V_drew)); exact HO_265000.out) hb)
                      have n4_ := Aside0.mk (Kd.V_lower (Kd.V_mono (ok' := fun k_ => some k_ ≠ (u3 : Value).ownBlock ∧ some k_ ≠ (u4 : Value).ownBlock ∧ k_ ≠ gb264 ∧ k_ ≠ gb266) ho0 (fun k_ hk_ => ⟨(Kd.fresh' (Kd.N_lt (by (with_reducible repeat (first | apply Kd.N_alloc | apply Kd.N_drewN | apply Kd.N_drew)); exact HO_3.out)) k_ hk_), (Kd.fresh' (Kd.N_lt (by (with_reducible repeat (first | apply Kd.N_alloc | apply Kd.N_drewN | apply Kd.N_drew)); exact HO_4.out)) k_ hk_), (Kd.freshB (g := gb264) (o := .cells #[.slice Ao50 x265000_1.length co50] 27 (0, 0)) (by (with_reducible repeat (first | refine blk_drewN ?_ _ | refine blk_drew ?_ | refine blk_alloc ?_ _)); exact BK264.out) k_ hk_), (Kd.freshB (g := gb266) (o := .cells #[.int .i64 ((rd_T49 l0 x18_1).f0), .bool false] 49 (0, 0)) (by (with_reducible repeat (first | refine blk_drewN ?_ _ | refine blk_drew ?_ | refine blk_alloc ?_ _)); exact BK266.out) k_ hk_)⟩)) (below_size (by repeat (first | (with_reducible first | exact HB.out | apply below_alloc | apply pw_below_drewN | apply below_drew1 | refine below_set ?_ GE264.out | refine below_set ?_ GE266.out) | exact HB.out))))
                      have n5_ := Aside0.mk (blk_below (g := gb264) (o := .cells #[.slice Ao50 x265000_1.length co50] 27 (0, 0)) (by (with_reducible repeat (first | refine blk_drewN ?_ _ | refine blk_drew ?_ | refine blk_alloc ?_ _)); exact BK264.out) hb)
                      have n6_ := Aside0.mk (blk_below (g := gb266) (o := .cells #[.int .i64 ((rd_T49 l0 x18_1).f0), .bool false] 49 (0, 0)) (by (with_reducible repeat (first | refine blk_drewN ?_ _ | refine blk_drew ?_ | refine blk_alloc ?_ _)); exact BK266.out) hb)
                      have n7_ := Aside0.mk (below_step (by repeat (first | (with_reducible first | exact HB.out | apply below_alloc | apply pw_below_drewN | apply below_drew1 | refine below_set ?_ GE264.out | refine below_set ?_ GE266.out) | exact HB.out)) hb)
                      clear HO_3
                      clear HO_4
                      clear HO_6
                      clear HO_265000
                      clear BK264
                      clear BK266
                      clear HB
                      have HO_3 := n0_
                      have HO_4 := n1_
                      have HO_6 := n2_
                      have HO_265000 := n3_
                      have HO284 := n4_
                      have BK264 := n5_
                      have BK266 := n6_
                      have HB := n7_
                      clear n0_ n1_ n2_ n3_ n4_ n5_ n6_ n7_
                      (try clear hb)
                      (try clear hb2)
                      (try clear hk)
                      (try clear hi)
                      (try clear ho0)
                      obtain ⟨Ao52, co52, eo52⟩ := Kd.V_slice HO_6.out
                      (first | subst eo52 | (injection eo52 with f1_ f2_ f3_; have f4_ := f1_.symm; have f5_ := f3_.symm; clear f1_ f2_ f3_; subst f4_; subst f5_))
                      refine hK.out _ _ ⟨(blk_cell BK264.out 0).trans rfl, (blk_cell BK266.out 0).trans rfl, (blk_cell BK266.out 1).trans rfl⟩ (fun hHeld => ?_)
                      clear hK K
                      refine norm_ (a' := ?_) ?_ ?_
                      rotate_left
                      · show Act.put _ (some 36) _ = _
                        simp only [Act.put, List.setIfInBounds_toArray, List.set_cons_zero, List.set_cons_succ, i64_w, i32_w]
                        rfl
                      refine one_ (i := 7) (N := some 40) #[true, true, true, true, true, true, true, true, false, false] rfl rfl (one_of HT_.out (by kernel_rfl)) (by decide) (fun K hK => ?_)
                      refine goes_ Tryd.func33 (by kernel_rfl) rfl #[.slice Ao52 x6_1.length co52, .int .i64 ((rd_T49 l0 x18_1).f0)] (by rfl) rfl rfl (by (try simp only [List.map_toArray, List.map_cons, List.map_nil]); first | done | rfl | (simp only [List.length_drop, List.length_take]; rfl)) ?_
                      with_reducible refine (trickleref04_With.calls k1 (fun k_ => (some k_ ≠ (u3 : Value).ownBlock ∧ (some k_ ≠ (u4 : Value).ownBlock ∧ (k_ ≠ gb264 ∧ k_ ≠ gb266)))) _ _ x6_1 ((rd_T49 l0 x18_1).f0) t285 _ ?side1 A42.out).mono ?_
                      (case side1 => exact HO_6.out)
                      rintro e w53 ⟨v286, rfl, ho0, hb⟩
                      refine ⟨_, rfl, ?_⟩
                      have n0_ := Aside0.mk (Kd.N_below (by (with_reducible repeat (first | apply Kd.N_alloc | apply Kd.N_drewN | apply Kd.N_drew)); exact HO_3.out) hb)
                      have n1_ := Aside0.mk (Kd.N_below (by (with_reducible repeat (first | apply Kd.N_alloc | apply Kd.N_drewN | apply Kd.N_drew)); exact HO_4.out) hb)
                      have n2_ := Aside0.mk (Kd.V_below (by (with_reducible repeat (first | apply Kd.V_alloc | apply Kd.V_drewN | apply Kd.V_drew)); exact HO_6.out) hb)
                      have n3_ := Aside0.mk (Kd.V_below (by (with_reducible repeat (first | apply Kd.V_alloc | apply Kd.V_drewN | apply Kd.V_drew)); exact HO_265000.out) hb)
                      have n4_ := Aside0.mk (Kd.V_below (by (with_reducible repeat (first | apply Kd.V_alloc | apply Kd.V_drewN | apply Kd.V_drew)); exact HO284.out) hb)
                      have n5_ := Aside0.mk (Kd.V_lower (Kd.V_mono (ok' := fun k_ => some k_ ≠ (u3 : Value).ownBlock ∧ some k_ ≠ (u4 : Value).ownBlock ∧ k_ ≠ gb264 ∧ k_ ≠ gb266) ho0 (fun k_ hk_ => ⟨Or.elim hk_ (fun hs_ => hs_.1) (fun hn_ => (Kd.fresh' (Kd.N_lt (by (with_reducible repeat (first | apply Kd.N_alloc | apply Kd.N_drewN | apply Kd.N_drew)); exact HO_3.out)) k_ hn_)), Or.elim hk_ (fun hs_ => hs_.2.1) (fun hn_ => (Kd.fresh' (Kd.N_lt (by (with_reducible repeat (first | apply Kd.N_alloc | apply Kd.N_drewN | apply Kd.N_drew)); exact HO_4.out)) k_ hn_)), Or.elim hk_ (fun hs_ => hs_.2.2.1) (fun hn_ => (Kd.freshB (g := gb264) (o := .cells #[.slice Ao50 x265000_1.length co50] 27 (0, 0)) (by (with_reducible repeat (first | refine blk_drewN ?_ _ | refine blk_drew ?_ | refine blk_alloc ?_ _)); exact BK264.out) k_ hn_)), Or.elim hk_ (fun hs_ => hs_.2.2.2) (fun hn_ => (Kd.freshB (g := gb266) (o := .cells #[.int .i64 ((rd_T49 l0 x18_1).f0), .bool false] 49 (0, 0)) (by (with_reducible repeat (first | refine blk_drewN ?_ _ | refine blk_drew ?_ | refine blk_alloc ?_ _)); exact BK266.out) k_ hn_))⟩)) (below_size (by repeat (first | (with_reducible first | exact HB.out | apply below_alloc | apply pw_below_drewN | apply below_drew1 | refine below_set ?_ GE264.out | refine below_set ?_ GE266.out) | exact HB.out))))
                      have n6_ := Aside0.mk (blk_below (g := gb264) (o := .cells #[.slice Ao50 x265000_1.length co50] 27 (0, 0)) (by (with_reducible repeat (first | refine blk_drewN ?_ _ | refine blk_drew ?_ | refine blk_alloc ?_ _)); exact BK264.out) hb)
                      have n7_ := Aside0.mk (blk_below (g := gb266) (o := .cells #[.int .i64 ((rd_T49 l0 x18_1).f0), .bool false] 49 (0, 0)) (by (with_reducible repeat (first | refine blk_drewN ?_ _ | refine blk_drew ?_ | refine blk_alloc ?_ _)); exact BK266.out) hb)
                      have n8_ := Aside0.mk (below_step (by repeat (first | (with_reducible first | exact HB.out | apply below_alloc | apply pw_below_drewN | apply below_drew1 | refine below_set ?_ GE264.out | refine below_set ?_ GE266.out) | exact HB.out)) hb)
                      clear HO_3
                      clear HO_4
                      clear HO_6
                      clear HO_265000
                      clear HO284
                      clear BK264
                      clear BK266
                      clear HB
                      have HO_3 := n0_
                      have HO_4 := n1_
                      have HO_6 := n2_
                      have HO_265000 := n3_
                      have HO284 := n4_
                      have HO287 := n5_
                      have BK264 := n6_
                      have BK266 := n7_
                      have HB := n8_
                      clear n0_ n1_ n2_ n3_ n4_ n5_ n6_ n7_ n8_
                      (try clear hb)
                      (try clear hb2)
                      (try clear hk)
                      (try clear hi)
                      (try clear ho0)
                      obtain ⟨Ao54, co54, eo54⟩ := Kd.V_slice HO284.out
                      (first | subst eo54 | (injection eo54 with f1_ f2_ f3_; have f4_ := f1_.symm; have f5_ := f3_.symm; clear f1_ f2_ f3_; subst f4_; subst f5_))
                      refine hK.out _ _ ⟨(blk_cell BK264.out 0).trans rfl, (blk_cell BK266.out 0).trans rfl, (blk_cell BK266.out 1).trans rfl⟩ (fun hHeld => ?_)
                      clear hK K
                      refine norm_ (a' := ?_) ?_ ?_
                      rotate_left
                      · show Act.put _ (some 40) _ = _
                        simp only [Act.put, List.setIfInBounds_toArray, List.set_cons_zero, List.set_cons_succ, i64_w, i32_w]
                        rfl
                      refine last_ (i := 8) (N := none) #[true, true, true, true, true, true, true, true, true, false] rfl rfl (one_of HT_.out (by kernel_rfl)) (by decide) (fun K hK => ?_)
                      have hs55 : w53.cell? ⟨gb264, 0, none⟩ = some (.slice Ao50 x265000_1.length co50) := (blk_cell BK264.out 0).trans rfl
                      have hfs55 := blk_frozen BK264.out 0
                      have hns55_1 := NB266_264.out
                      have hms55_1 := NB264_266.out
                      refine skip_ (w1 := ?_) (by rfl) rfl ?_ ?_
                      rotate_left
                      · go_simp
                        rfl
                      refine hK.out _ _ ?_
                      clear hK K
                      refine pure_ (i := 9) (N := some 6) (v := ?_) (a' := ?_) #[true, true, true, true, true, true, true, true, true, true] rfl rfl (any_of HT_.out (by kernel_rfl)) (fun _ _ _ h => h) (Or.inl ⟨by rfl, ?_⟩) ?_ ?_
                      rotate_left
                      · intro w'
                        go_simp
                        with_reducible rfl
                      rotate_left
                      · simp only [Act.put, List.setIfInBounds_toArray, List.set_cons_zero, List.set_cons_succ, i64_w, i32_w]
                        rfl
                      refine done_ (done_of HT_.out (by kernel_rfl)) ?_
                      have n0_ : Aside0 (Kd.N k27 27 (w53.setCell ⟨gb264, 0, none⟩ (.slice Ao54 t282.length co54)) w.heap.size (fun k_ => some k_ ≠ (u4 : Value).ownBlock ∧ k_ ≠ gb264 ∧ k_ ≠ gb266) u3 x3_1) := ⟨by (with_reducible repeat (first | apply Kd.N_alloc | apply Kd.N_drewN | apply Kd.N_drew)); exact Kd.N_mono (Kd.N_far (p := ⟨gb264, 0, none⟩) (Kd.N_mono HO_3.out (fun k_ hk => (⟨hk, hk.2.1⟩ : _ ∧ k_ ≠ gb264))) (fun _ hk => hk.2) (.slice Ao54 t282.length co54)) (fun _ hk => ⟨hk.1.1, ⟨hk.1.2.1, hk.1.2.2⟩⟩)⟩
                      have n1_ : Aside0 (Kd.N (Kd.slice 3 (Kd.int .i64)) 22 (w53.setCell ⟨gb264, 0, none⟩ (.slice Ao54 t282.length co54)) w.heap.size (fun k_ => some k_ ≠ (u3 : Value).ownBlock ∧ k_ ≠ gb264 ∧ k_ ≠ gb266) u4 x4_1) := ⟨by (with_reducible repeat (first | apply Kd.N_alloc | apply Kd.N_drewN | apply Kd.N_drew)); exact Kd.N_mono (Kd.N_far (p := ⟨gb264, 0, none⟩) (Kd.N_mono HO_4.out (fun k_ hk => (⟨hk, hk.2.1⟩ : _ ∧ k_ ≠ gb264))) (fun _ hk => hk.2) (.slice Ao54 t282.length co54)) (fun _ hk => ⟨hk.1.1, ⟨hk.1.2.1, hk.1.2.2⟩⟩)⟩
                      have n2_ : Aside0 (Kd.V (Kd.int .i64) 3 (w53.setCell ⟨gb264, 0, none⟩ (.slice Ao54 t282.length co54)) w.heap.size (fun k_ => some k_ ≠ (u3 : Value).ownBlock ∧ some k_ ≠ (u4 : Value).ownBlock ∧ k_ ≠ gb264 ∧ k_ ≠ gb266) (.slice Ao52 x6_1.length co52) x6_1) := ⟨by (with_reducible repeat (first | apply Kd.V_alloc | apply Kd.V_drewN | apply Kd.V_drew)); exact Kd.V_mono (Kd.V_far (p := ⟨gb264, 0, none⟩) (Kd.V_mono HO_6.out (fun k_ hk => (⟨hk, hk.2.2.1⟩ : _ ∧ k_ ≠ gb264))) (fun _ hk => hk.2) (.slice Ao54 t282.length co54)) (fun _ hk => ⟨hk.1.1, ⟨hk.1.2.1, ⟨hk.1.2.2.1, hk.1.2.2.2⟩⟩⟩)⟩
                      have n3_ : Aside0 (Kd.V (Kd.int .u64) 56 (w53.setCell ⟨gb264, 0, none⟩ (.slice Ao54 t282.length co54)) w.heap.size (fun k_ => some k_ ≠ (u3 : Value).ownBlock ∧ some k_ ≠ (u4 : Value).ownBlock ∧ k_ ≠ gb264 ∧ k_ ≠ gb266) (.slice Ao50 x265000_1.length co50) x265000_1) := ⟨by (with_reducible repeat (first | apply Kd.V_alloc | apply Kd.V_drewN | apply Kd.V_drew)); exact Kd.V_mono (Kd.V_far (p := ⟨gb264, 0, none⟩) (Kd.V_mono HO_265000.out (fun k_ hk => (⟨hk, hk.2.2.1⟩ : _ ∧ k_ ≠ gb264))) (fun _ hk => hk.2) (.slice Ao54 t282.length co54)) (fun _ hk => ⟨hk.1.1, ⟨hk.1.2.1, ⟨hk.1.2.2.1, hk.1.2.2.2⟩⟩⟩)⟩
                      have n4_ : Aside0 (Kd.V (Kd.int .u64) 56 (w53.setCell ⟨gb264, 0, none⟩ (.slice Ao54 t282.length co54)) w.heap.size (fun k_ => some k_ ≠ (u3 : Value).ownBlock ∧ some k_ ≠ (u4 : Value).ownBlock ∧ k_ ≠ gb264 ∧ k_ ≠ gb266) (.slice Ao54 t282.length co54) t282) := ⟨by (with_reducible repeat (first | apply Kd.V_alloc | apply Kd.V_drewN | apply Kd.V_drew)); exact Kd.V_mono (Kd.V_far (p := ⟨gb264, 0, none⟩) (Kd.V_mono HO284.out (fun k_ hk => (⟨hk, hk.2.2.1⟩ : _ ∧ k_ ≠ gb264))) (fun _ hk => hk.2) (.slice Ao54 t282.length co54)) (fun _ hk => ⟨hk.1.1, ⟨hk.1.2.1, ⟨hk.1.2.2.1, hk.1.2.2.2⟩⟩⟩)⟩
                      have n5_ : Aside0 (Kd.V (Kd.int .i64) 3 (w53.setCell ⟨gb264, 0, none⟩ (.slice Ao54 t282.length co54)) w.heap.size (fun k_ => some k_ ≠ (u3 : Value).ownBlock ∧ some k_ ≠ (u4 : Value).ownBlock ∧ k_ ≠ gb264 ∧ k_ ≠ gb266) v286 t285) := ⟨by (with_reducible repeat (first | apply Kd.V_alloc | apply Kd.V_drewN | apply Kd.V_drew)); exact Kd.V_mono (Kd.V_far (p := ⟨gb264, 0, none⟩) (Kd.V_mono HO287.out (fun k_ hk => (⟨hk, hk.2.2.1⟩ : _ ∧ k_ ≠ gb264))) (fun _ hk => hk.2) (.slice Ao54 t282.length co54)) (fun _ hk => ⟨hk.1.1, ⟨hk.1.2.1, ⟨hk.1.2.2.1, hk.1.2.2.2⟩⟩⟩)⟩
                      have n6_ : Aside0 ((w53.setCell ⟨gb264, 0, none⟩ (.slice Ao54 t282.length co54)).heap[gb264]? = some (.cells #[.slice Ao54 t282.length co54] 27 (0, 0))) := ⟨by (with_reducible repeat (first | refine blk_drewN ?_ _ | refine blk_drew ?_ | refine blk_alloc ?_ _)); refine blk_put (cs := #[.slice Ao50 x265000_1.length co50]) ?_ 0 _ rfl; (with_reducible repeat (first | refine blk_drewN ?_ _ | refine blk_drew ?_ | refine blk_alloc ?_ _)); exact BK264.out⟩
                      have n7_ : Aside0 ((w53.setCell ⟨gb264, 0, none⟩ (.slice Ao54 t282.length co54)).heap[gb266]? = some (.cells #[.int .i64 ((rd_T49 l0 x18_1).f0), .bool false] 49 (0, 0))) := ⟨by (with_reducible repeat (first | refine blk_drewN ?_ _ | refine blk_drew ?_ | refine blk_alloc ?_ _)); refine blk_far ?_ NB266_264.out _; (with_reducible repeat (first | refine blk_drewN ?_ _ | refine blk_drew ?_ | refine blk_alloc ?_ _)); exact BK266.out⟩
                      have n8_ : Aside0 (Below w.heap.size w (w53.setCell ⟨gb264, 0, none⟩ (.slice Ao54 t282.length co54))) := ⟨by repeat (first | (with_reducible first | exact HB.out | apply below_alloc | apply pw_below_drewN | apply below_drew1 | refine below_set ?_ GE264.out | refine below_set ?_ GE266.out) | exact HB.out)⟩
                      (try clear HO_3)
                      (try clear HO_4)
                      (try clear HO_6)
                      (try clear HO_265000)
                      (try clear HO284)
                      (try clear HO287)
                      (try clear BK264)
                      (try clear BK266)
                      (try clear HB)
                      generalize (w53.setCell ⟨gb264, 0, none⟩ (.slice Ao54 t282.length co54)) = w56 at n0_ n1_ n2_ n3_ n4_ n5_ n6_ n7_ n8_ ⊢
                      have HO_3 := n0_
                      have HO_4 := n1_
                      have HO_6 := n2_
                      have HO_265000 := n3_
                      have HO284 := n4_
                      have HO287 := n5_
                      have BK264 := n6_
                      have BK266 := n7_
                      have HB := n8_
                      clear n0_ n1_ n2_ n3_ n4_ n5_ n6_ n7_ n8_
                      have hcz57_0 : w56.cell? ⟨gb264, 0, none⟩ = some (.slice Ao54 t282.length co54) := (blk_cell BK264.out 0).trans rfl
                      have hfz57_0 := blk_frozen BK264.out 0
                      try go_wp2_with (first | ((with_reducible refine gate_builtin (b := .append) (xs := #[.tmp 41, .tmp 43]) rfl ?_); at_builtin; refine Kd.N_append k27 (w0 := w) w.heap.size rfl (.tmp 41) (.tmp 43) 46 27 (.agg #[(.slice none 0 0)]) 24 rfl Tryd.underlying46 info27 rfl (by decide) (by omega) u3 x3_1 (⟨t282⟩ : S27) [.slice Ao54 t282.length co54] (fun k_ => some k_ ≠ (u4 : Value).ownBlock ∧ k_ ≠ gb264 ∧ k_ ≠ gb266) (fun k_ => ((fun k_ => some k_ ≠ (u4 : Value).ownBlock ∧ k_ ≠ gb264 ∧ k_ ≠ gb266)) k_ ∧ some k_ ≠ (u3 : Value).ownBlock) rfl rfl ?aP (fun _ hk => hk) ?aF ?aO ?aB ?aS ?aL ?_; (case aP => exact (k27_mkF _ _ (⟨t282⟩ : S27) (Kd.V_reads' (Kd.V_mono (ok' := (fun k_ => ((fun k_ => some k_ ≠ (u4 : Value).ownBlock ∧ k_ ≠ gb264 ∧ k_ ≠ gb266)) k_ ∧ some k_ ≠ (u3 : Value).ownBlock)) (HO284.out) (fun k_ hk => ⟨⟨hk.2.1, ⟨hk.2.2.1, hk.2.2.2⟩⟩, hk.1⟩))).2.1 (Kd.V_F (Kd.V_mono (ok' := (fun k_ => ((fun k_ => some k_ ≠ (u4 : Value).ownBlock ∧ k_ ≠ gb264 ∧ k_ ≠ gb266)) k_ ∧ some k_ ≠ (u3 : Value).ownBlock)) (HO284.out) (fun k_ hk => ⟨⟨hk.2.1, ⟨hk.2.2.1, hk.2.2.2⟩⟩, hk.1⟩))))); (case aB => exact (by repeat (first | (with_reducible first | exact HB.out | apply below_alloc | apply pw_below_drewN | apply below_drew1 | refine below_set ?_ GE264.out | refine below_set ?_ GE266.out) | exact HB.out))); (case aF => exact (fun k_ hk => ⟨Kd.fresh' (Kd.N_lt (by (with_reducible repeat (first | apply Kd.N_alloc | apply Kd.N_drewN | apply Kd.N_drew)); exact HO_4.out)) k_ hk, Kd.freshB (g := gb264) (o := .cells #[.slice Ao54 t282.length co54] 27 (0, 0)) (by (with_reducible repeat (first | refine blk_drewN ?_ _ | refine blk_drew ?_ | refine blk_alloc ?_ _)); exact BK264.out) k_ hk, Kd.freshB (g := gb266) (o := .cells #[.int .i64 ((rd_T49 l0 x18_1).f0), .bool false] 49 (0, 0)) (by (with_reducible repeat (first | refine blk_drewN ?_ _ | refine blk_drew ?_ | refine blk_alloc ?_ _)); exact BK266.out) k_ hk⟩)); (case aO => exact (by (with_reducible repeat (first | apply Kd.N_alloc | apply Kd.N_drewN | apply Kd.N_drew)); exact HO_3.out)); (case aS => exact (below_size (by repeat (first | (with_reducible first | exact HB.out | apply below_alloc | apply pw_below_drewN | apply below_drew1 | refine below_set ?_ GE264.out | refine below_set ?_ GE266.out) | exact HB.out)))); (case aL => have := LMc43.out; omega); intro v289 w58 ho hb hg hat; rw [← Ny288.out] at ho; have n0_ := Aside0.mk (Kd.N_afterv (ok := (fun k_ => k_ ≠ gb264 ∧ k_ ≠ gb266)) (by (with_reducible repeat (first | apply Kd.N_alloc | apply Kd.N_drewN | apply Kd.N_drew)); exact Kd.N_mono HO_4.out (fun _ hk => ⟨⟨hk.2.1, hk.2.2⟩, hk.1⟩)) hg hat); have n1_ := Aside0.mk (Kd.V_afterv (ok := (fun k_ => some k_ ≠ (u4 : Value).ownBlock ∧ k_ ≠ gb264 ∧ k_ ≠ gb266)) (by (with_reducible repeat (first | apply Kd.V_alloc | apply Kd.V_drewN | apply Kd.V_drew)); exact Kd.V_mono HO_6.out (fun _ hk => ⟨⟨hk.2.1, ⟨hk.2.2.1, hk.2.2.2⟩⟩, hk.1⟩)) hg hat); have n2_ := Aside0.mk (Kd.V_afterv (ok := (fun k_ => some k_ ≠ (u4 : Value).ownBlock ∧ k_ ≠ gb264 ∧ k_ ≠ gb266)) (by (with_reducible repeat (first | apply Kd.V_alloc | apply Kd.V_drewN | apply Kd.V_drew)); exact Kd.V_mono HO_265000.out (fun _ hk => ⟨⟨hk.2.1, ⟨hk.2.2.1, hk.2.2.2⟩⟩, hk.1⟩)) hg hat); have n3_ := Aside0.mk (blk_grown (g := gb264) (o := .cells #[.slice Ao54 t282.length co54] 27 (0, 0)) (by (with_reducible repeat (first | refine blk_drewN ?_ _ | refine blk_drew ?_ | refine blk_alloc ?_ _)); exact BK264.out) hg (Kd.N_away HO_3.out (fun _ hk => hk.2.1))); have n4_ := Aside0.mk (blk_grown (g := gb266) (o := .cells #[.int .i64 ((rd_T49 l0 x18_1).f0), .bool false] 49 (0, 0)) (by (with_reducible repeat (first | refine blk_drewN ?_ _ | refine blk_drew ?_ | refine blk_alloc ?_ _)); exact BK266.out) hg (Kd.N_ne HO_3.out BK266.out (by decide))); have n5_ := Aside0.mk (Kd.V_afterv (ok := (fun k_ => some k_ ≠ (u4 : Value).ownBlock ∧ k_ ≠ gb264 ∧ k_ ≠ gb266)) (by (with_reducible repeat (first | apply Kd.V_alloc | apply Kd.V_drewN | apply Kd.V_drew)); exact Kd.V_mono HO284.out (fun _ hk => ⟨⟨hk.2.1, ⟨hk.2.2.1, hk.2.2.2⟩⟩, hk.1⟩)) hg hat); have n6_ := Aside0.mk (Kd.V_afterv (ok := (fun k_ => some k_ ≠ (u4 : Value).ownBlock ∧ k_ ≠ gb264 ∧ k_ ≠ gb266)) (by (with_reducible repeat (first | apply Kd.V_alloc | apply Kd.V_drewN | apply Kd.V_drew)); exact Kd.V_mono HO287.out (fun _ hk => ⟨⟨hk.2.1, ⟨hk.2.2.1, hk.2.2.2⟩⟩, hk.1⟩)) hg hat); have n7_ := Aside0.mk (hb); have n8_ := Aside0.mk (ho); clear HO_4; clear HO_6; clear HO_265000; clear BK264; clear BK266; clear HO284; clear HO287; clear HB; clear HO_3; have HO_4 := n0_; have HO_6 := n1_; have HO_265000 := n2_; have BK264 := n3_; have BK266 := n4_; have HO284 := n5_; have HO287 := n6_; have HB := n7_; have HO290 := n8_; clear n0_ n1_ n2_ n3_ n4_ n5_ n6_ n7_ n8_; clear ho hb hg hat; obtain ⟨Ao60, co60, eo60⟩ := Kd.V_slice HO287.out; subst eo60) | ((with_reducible refine gate_builtin (b := .append) (xs := #[.tmp 45, .tmp 47]) rfl ?_); at_builtin; refine Kd.N_append (Kd.slice 3 (Kd.int .i64)) (w0 := w) w.heap.size rfl (.tmp 45) (.tmp 47) 47 22 (.slice none 0 0) 24 rfl Tryd.underlying47 info22 rfl (by decide) (by omega) u4 x4_1 t285 [.slice Ao60 t285.length co60] (fun k_ => some k_ ≠ (v289 : Value).ownBlock ∧ k_ ≠ gb264 ∧ k_ ≠ gb266) (fun k_ => ((fun k_ => some k_ ≠ (v289 : Value).ownBlock ∧ k_ ≠ gb264 ∧ k_ ≠ gb266)) k_ ∧ some k_ ≠ (u4 : Value).ownBlock) rfl rfl ?aP (fun _ hk => hk) ?aF ?aO ?aB ?aS ?aL ?_; (case aP => exact (Kd.FK_slice_mk (Kd.V_reads' (Kd.V_mono (ok' := (fun k_ => ((fun k_ => some k_ ≠ (v289 : Value).ownBlock ∧ k_ ≠ gb264 ∧ k_ ≠ gb266)) k_ ∧ some k_ ≠ (u4 : Value).ownBlock)) (HO287.out) (fun k_ hk => ⟨⟨hk.2, ⟨hk.1.2.1, hk.1.2.2⟩⟩, hk.1.1⟩))).2.1 (Kd.V_F (Kd.V_mono (ok' := (fun k_ => ((fun k_ => some k_ ≠ (v289 : Value).ownBlock ∧ k_ ≠ gb264 ∧ k_ ≠ gb266)) k_ ∧ some k_ ≠ (u4 : Value).ownBlock)) (HO287.out) (fun k_ hk => ⟨⟨hk.2, ⟨hk.1.2.1, hk.1.2.2⟩⟩, hk.1.1⟩))))); (case aB => exact (by repeat (first | (with_reducible first | exact HB.out | apply below_alloc | apply pw_below_drewN | apply below_drew1 | refine below_set ?_ GE264.out | refine below_set ?_ GE266.out) | exact HB.out))); (case aF => exact (fun k_ hk => ⟨Kd.fresh' (Kd.N_lt (by (with_reducible repeat (first | apply Kd.N_alloc | apply Kd.N_drewN | apply Kd.N_drew)); exact HO290.out)) k_ hk, Kd.freshB (g := gb264) (o := .cells #[.slice Ao54 t282.length co54] 27 (0, 0)) (by (with_reducible repeat (first | refine blk_drewN ?_ _ | refine blk_drew ?_ | refine blk_alloc ?_ _)); exact BK264.out) k_ hk, Kd.freshB (g := gb266) (o := .cells #[.int .i64 ((rd_T49 l0 x18_1).f0), .bool false] 49 (0, 0)) (by (with_reducible repeat (first | refine blk_drewN ?_ _ | refine blk_drew ?_ | refine blk_alloc ?_ _)); exact BK266.out) k_ hk⟩)); (case aO => exact (by (with_reducible repeat (first | apply Kd.N_alloc | apply Kd.N_drewN | apply Kd.N_drew)); exact Kd.N_mono HO_4.out (fun _ hk => ⟨hk.2, ⟨hk.1.1, hk.1.2⟩⟩))); (case aS => exact (below_size (by repeat (first | (with_reducible first | exact HB.out | apply below_alloc | apply pw_below_drewN | apply below_drew1 | refine below_set ?_ GE264.out | refine below_set ?_ GE266.out) | exact HB.out)))); (case aL => have := LMc44.out; omega); intro v292 w59 ho hb hg hat; rw [← Ny291.out] at ho; have n0_ := Aside0.mk (Kd.V_afterv (ok := (fun k_ => some k_ ≠ (v289 : Value).ownBlock ∧ k_ ≠ gb264 ∧ k_ ≠ gb266)) (by (with_reducible repeat (first | apply Kd.V_alloc | apply Kd.V_drewN | apply Kd.V_drew)); exact Kd.V_mono HO_6.out (fun _ hk => ⟨⟨hk.2, ⟨hk.1.2.1, hk.1.2.2⟩⟩, hk.1.1⟩)) hg hat); have n1_ := Aside0.mk (Kd.V_afterv (ok := (fun k_ => some k_ ≠ (v289 : Value).ownBlock ∧ k_ ≠ gb264 ∧ k_ ≠ gb266)) (by (with_reducible repeat (first | apply Kd.V_alloc | apply Kd.V_drewN | apply Kd.V_drew)); exact Kd.V_mono HO_265000.out (fun _ hk => ⟨⟨hk.2, ⟨hk.1.2.1, hk.1.2.2⟩⟩, hk.1.1⟩)) hg hat); have n2_ := Aside0.mk (blk_grown (g := gb264) (o := .cells #[.slice Ao54 t282.length co54] 27 (0, 0)) (by (with_reducible repeat (first | refine blk_drewN ?_ _ | refine blk_drew ?_ | refine blk_alloc ?_ _)); exact BK264.out) hg (Kd.N_ne HO_4.out BK264.out (by decide))); have n3_ := Aside0.mk (blk_grown (g := gb266) (o := .cells #[.int .i64 ((rd_T49 l0 x18_1).f0), .bool false] 49 (0, 0)) (by (with_reducible repeat (first | refine blk_drewN ?_ _ | refine blk_drew ?_ | refine blk_alloc ?_ _)); exact BK266.out) hg (Kd.N_ne HO_4.out BK266.out (by decide))); have n4_ := Aside0.mk (Kd.V_afterv (ok := (fun k_ => some k_ ≠ (v289 : Value).ownBlock ∧ k_ ≠ gb264 ∧ k_ ≠ gb266)) (by (with_reducible repeat (first | apply Kd.V_alloc | apply Kd.V_drewN | apply Kd.V_drew)); exact Kd.V_mono HO284.out (fun _ hk => ⟨⟨hk.2, ⟨hk.1.2.1, hk.1.2.2⟩⟩, hk.1.1⟩)) hg hat); have n5_ := Aside0.mk (Kd.V_afterv (ok := (fun k_ => some k_ ≠ (v289 : Value).ownBlock ∧ k_ ≠ gb264 ∧ k_ ≠ gb266)) (by (with_reducible repeat (first | apply Kd.V_alloc | apply Kd.V_drewN | apply Kd.V_drew)); exact Kd.V_mono HO287.out (fun _ hk => ⟨⟨hk.2, ⟨hk.1.2.1, hk.1.2.2⟩⟩, hk.1.1⟩)) hg hat); have n6_ := Aside0.mk (Kd.N_afterv (ok := (fun k_ => k_ ≠ gb264 ∧ k_ ≠ gb266)) (by (with_reducible repeat (first | apply Kd.N_alloc | apply Kd.N_drewN | apply Kd.N_drew)); exact Kd.N_mono HO290.out (fun _ hk => ⟨⟨hk.2.1, hk.2.2⟩, hk.1⟩)) hg hat); have n7_ := Aside0.mk (hb); have n8_ := Aside0.mk (ho); clear HO_6; clear HO_265000; clear BK264; clear BK266; clear HO284; clear HO287; clear HO290; clear HB; clear HO_4; have HO_6 := n0_; have HO_265000 := n1_; have BK264 := n2_; have BK266 := n3_; have HO284 := n4_; have HO287 := n5_; have HO290 := n6_; have HB := n7_; have HO293 := n8_; clear n0_ n1_ n2_ n3_ n4_ n5_ n6_ n7_ n8_; clear ho hb hg hat))
                      go_roundg k1
                      case measure => have := HK1.out; omega
                      case rel => exact ⟨(y288), (y291), (t285), (wrap64 (x18_1 + 1)), (t282), (.slice Ao54 t282.length co54), (by first | rfl | (simp; done) | (simp [*]; done)), H', ⟨by have := HK1.out; omega⟩, ⟨by (with_reducible repeat (first | apply Kd.N_alloc | apply Kd.N_drewN | apply Kd.N_drew)); exact Kd.N_mono HO290.out (fun _ hk => ⟨hk.2, hk.1.1⟩)⟩, ⟨by (with_reducible repeat (first | apply Kd.N_alloc | apply Kd.N_drewN | apply Kd.N_drew)); exact Kd.N_mono HO293.out (fun _ hk => ⟨hk.1, hk.2.1⟩)⟩, ⟨by (with_reducible repeat (first | apply Kd.V_alloc | apply Kd.V_drewN | apply Kd.V_drew)); exact Kd.V_mono HO287.out (fun _ hk => ⟨hk.1.1, ⟨hk.2, hk.1.2.1⟩⟩)⟩, ⟨by (with_reducible repeat (first | apply Kd.V_alloc | apply Kd.V_drewN | apply Kd.V_drew)); exact Kd.V_mono HO284.out (fun _ hk => ⟨hk.1.1, ⟨hk.2, hk.1.2.1⟩⟩)⟩, ⟨by (with_reducible repeat (first | refine blk_drewN ?_ _ | refine blk_drew ?_ | refine blk_alloc ?_ _)); exact BK264.out⟩, ⟨by repeat (first | (with_reducible first | exact HB.out | apply below_alloc | apply pw_below_drewN | apply below_drew1 | refine below_set ?_ GE264.out | refine below_set ?_ GE266.out) | exact HB.out)⟩⟩
                    · rw [if_neg c44] at H
                      exact absurd H (by simp)
                  · rw [if_neg c43] at H
                    exact absurd H (by simp)
              · rw [if_neg c14] at H
                exact absurd H (by simp)
            · rw [if_neg c13] at H
              exact absurd H (by simp)
          · rw [if_neg c12] at H
            have c12b0 : decide (x18_1 < (l0.length : Int)) = false := decide_eq_false c12
            clear c12
            have H' := Aside0.mk H
            clear H
            obtain ⟨Ao61, co61, eo61⟩ := Kd.N_slice HO_3.out
            subst eo61
            go_wp2
            go_loopg [52] k1 (fun kq v52 w' => ∃ (x52_2 : Int), v52 = .int .i64 x52_2 ∧ Aside0 (tricklelaw04_BitsetEdits.l1 kq x3_1 x4_1 (x3_1.length : Int) x52_2 = some r) ∧ Aside0 (kq ≤ k1) ∧ Aside0 (Kd.N k27 27 w' w.heap.size (fun k_ => some k_ ≠ (u4 : Value).ownBlock ∧ k_ ≠ gb264) (.slice Ao61 x3_1.length co61) x3_1) ∧ Aside0 (Kd.N (Kd.slice 3 (Kd.int .i64)) 22 w' w.heap.size (fun k_ => some k_ ≠ ((.slice Ao61 x3_1.length co61) : Value).ownBlock ∧ k_ ≠ gb264) u4 x4_1) ∧ Aside0 (Kd.V (Kd.int .u64) 56 w' w.heap.size (fun k_ => some k_ ≠ ((.slice Ao61 x3_1.length co61) : Value).ownBlock ∧ some k_ ≠ (u4 : Value).ownBlock ∧ k_ ≠ gb264) u265000 x265000_1) ∧ Aside0 (w'.heap[gb264]? = some (.cells #[u265000] 27 (0, 0))) ∧ Aside0 (Below w.heap.size w w'))
            case atStart => exact ⟨(0), (by first | rfl | (simp; done) | (simp [*]; done)), H', ⟨Nat.le_refl _⟩, ⟨by (with_reducible repeat (first | apply Kd.N_alloc | apply Kd.N_drewN | apply Kd.N_drew)); exact HO_3.out⟩, ⟨by (with_reducible repeat (first | apply Kd.N_alloc | apply Kd.N_drewN | apply Kd.N_drew)); exact HO_4.out⟩, ⟨by (with_reducible repeat (first | apply Kd.V_alloc | apply Kd.V_drewN | apply Kd.V_drew)); exact HO_265000.out⟩, ⟨by (with_reducible repeat (first | refine blk_drewN ?_ _ | refine blk_drew ?_ | refine blk_alloc ?_ _)); exact BK264.out⟩, ⟨by repeat (first | (with_reducible first | exact HB.out | apply below_alloc | apply pw_below_drewN | apply below_drew1 | refine below_set ?_ GE264.out) | exact HB.out)⟩⟩
            case round =>
              clear H'
              try clear c1
              try clear q1
              try clear c2
              try clear p2
              try clear q2
              try clear hx2
              try clear c3
              try clear c4
              try clear p6
              try clear c12
              try clear c12b0
              try clear c13
              try clear c14
              try clear q15
              try clear c16
              try clear c19
              try clear c20
              try clear p26
              try clear q26
              try clear hx26
              try clear c30
              try clear c31
              try clear c32
              try clear c33
              try clear c43
              try clear c44
              try clear c46
              try clear hcz37_0
              try clear hcz47_0
              try clear hcz47_1
              try clear hcz57_0
              try clear hfz37_0
              try clear hfz47_0
              try clear hfz47_1
              try clear hfz57_0
              try clear hx265_0
              try clear hx265_1
              try clear p265
              try clear q265
              obtain ⟨x52_2, rfl, HA, HK2, HO_3, HO_4, HO_265000, BK264, HB⟩ := hrel
              cases gk with
              | zero => exact absurd HA.out (by simp [tricklelaw04_BitsetEdits.l1])
              | succ k2 =>
                have H := HA.out
                clear HA
                simp only [tricklelaw04_BitsetEdits.l1] at H
                by_cases c62 : x52_2 < (x3_1.length : Int)
                · rw [if_pos c62] at H
                  have c62b0 : decide (x52_2 < (x3_1.length : Int)) = true := decide_eq_true c62
                  clear c62
                  by_cases c63 : 0 ≤ x52_2
                  · rw [if_pos c63] at H
                    have c63b0 : decide (0 ≤ x52_2) = true := decide_eq_true c63
                    clear c63
                    by_cases c64 : x52_2 < (x3_1.length : Int)
                    · rw [if_pos c64] at H
                      have c64b0 : decide (x52_2 < (x3_1.length : Int)) = true := decide_eq_true c64
                      clear c64
                      by_cases c65 : x52_2 < (x4_1.length : Int)
                      · rw [if_pos c65] at H
                        have c65b0 : decide (x52_2 < (x4_1.length : Int)) = true := decide_eq_true c65
                        clear c65
                        replace H := Option.bind_eq_some_iff.mp H
                        obtain ⟨t296, A660, H⟩ := H
                        replace H : (if t296 = true then (tricklelaw04_BitsetEdits.l1 k2 x3_1 x4_1 (x3_1.length : Int) (wrap64 (x52_2 + 1))) else (some false)) = some r := H
                        have A66 := Aside0.mk A660
                        clear A660
                        by_cases c67 : t296 = true
                        · subst c67
                          have H1 : (tricklelaw04_BitsetEdits.l1 k2 x3_1 x4_1 (x3_1.length : Int) (wrap64 (x52_2 + 1))) = some r := by rw [if_pos rfl] at H; exact H
                          clear H
                          have H := H1
                          clear H1
                          have H' := Aside0.mk H
                          clear H
                          try go_wp2
                          have n0_ := Aside0.mk (Kd.N_drew HO_3.out)
                          have n1_ := Aside0.mk (Kd.N_drew HO_4.out)
                          have n2_ := Aside0.mk (Kd.V_drew HO_265000.out)
                          have n3_ := Aside0.mk (blk_drew BK264.out)
                          have n4_ := Aside0.mk (below_drew1 HB.out)
                          clear HO_3
                          clear HO_4
                          clear HO_265000
                          clear BK264
                          clear HB
                          have HO_3 := n0_
                          have HO_4 := n1_
                          have HO_265000 := n2_
                          have BK264 := n3_
                          have HB := n4_
                          clear n0_ n1_ n2_ n3_ n4_
                          have p294 : 0 ≤ (x52_2 : Int) := of_decide_eq_true (by first | (with_reducible assumption) | assumption)
                          have q294 : x52_2 < (x3_1.length : Int) := of_decide_eq_true (by first | (with_reducible assumption) | assumption)
                          obtain ⟨ad294, A294_0, c294_0, e294, hx294_0, hl294_0, hi294_0⟩ := at_T27 (Kd.N_reads' HO_3.out).2.2 x52_2 p294 q294
                          cases e294
                          obtain ⟨ce294, hce294, hMe294, hcc294⟩ := Kd.N_get HO_3.out z27 x52_2 p294 (by first | exact q294 | exact of_decide_eq_true (by first | (with_reducible assumption) | assumption) | (have e_ := (Kd.N_reads' HO_3.out).1; omega))
                          obtain ⟨ua294_0, uc294_0, rfl, ul294_0, ge294_0⟩ := k27_openF hMe294
                          have hv294_0 := hcc294 0 _ rfl
                          rw [Nat.add_zero, show (k27).sz = 1 from rfl, Nat.mul_one] at hv294_0
                          replace hv294_0 := Option.some.inj (hv294_0.symm.trans hx294_0)
                          injection hv294_0 with hva_ hvn_ hvc_
                          rw [hva_] at ge294_0
                          rw [hvc_] at ul294_0
                          have HL294_0 := Aside0.mk (show Kd.V (Kd.int .u64) 56 _ w.heap.size _ _ ((rd_T27 x3_1 x52_2).f0) from Kd.V_mk ul294_0 ge294_0)
                          clear hva_ hvn_ hvc_ ge294_0 ul294_0
                          clear hcc294 hce294
                          have HR294_0 := Aside0.mk hi294_0
                          have HC294_0 := Aside0.mk hl294_0
                          clear hi294_0 hl294_0
                          replace p294 := eq_true p294
                          replace q294 := eq_true q294
                          obtain ⟨Ao69, co69, eo69⟩ := Kd.N_slice HO_4.out
                          (first | subst eo69 | (injection eo69 with f1_ f2_ f3_; have f4_ := f1_.symm; have f5_ := f3_.symm; clear f1_ f2_ f3_; subst f4_; subst f5_))
                          have p295 : 0 ≤ (x52_2 : Int) := of_decide_eq_true (by first | (with_reducible assumption) | assumption)
                          have q295 : x52_2 < (x4_1.length : Int) := of_decide_eq_true (by first | (with_reducible assumption) | assumption)
                          obtain ⟨ad295, A295_0, c295_0, e295, hx295_0, hl295_0, hi295_0⟩ := at_L6 (Kd.N_reads' HO_4.out).2.2 x52_2 p295 q295
                          cases e295
                          obtain ⟨ce295, hce295, hMe295, hcc295⟩ := Kd.N_get HO_4.out [] x52_2 p295 (by first | exact q295 | exact of_decide_eq_true (by first | (with_reducible assumption) | assumption) | (have e_ := (Kd.N_reads' HO_4.out).1; omega))
                          obtain ⟨ua295_0, uc295_0, rfl, ul295_0, ge295_0⟩ := Kd.FK_slice_open hMe295
                          have hv295_0 := hcc295 0 _ rfl
                          rw [Nat.add_zero, show ((Kd.slice 3 (Kd.int .i64))).sz = 1 from rfl, Nat.mul_one] at hv295_0
                          replace hv295_0 := Option.some.inj (hv295_0.symm.trans hx295_0)
                          injection hv295_0 with hva_ hvn_ hvc_
                          rw [hva_] at ge295_0
                          rw [hvc_] at ul295_0
                          have HL295_0 := Aside0.mk (show Kd.V (Kd.int .i64) 3 _ w.heap.size _ _ (rd_L6 x4_1 x52_2) from Kd.V_mk ul295_0 ge295_0)
                          clear hva_ hvn_ hvc_ ge295_0 ul295_0
                          clear hcc295 hce295
                          have HR295_0 := Aside0.mk hi295_0
                          have HC295_0 := Aside0.mk hl295_0
                          clear hi295_0 hl295_0
                          replace p295 := eq_true p295
                          replace q295 := eq_true q295
                          refine start_ (n := 10) (S := fun w' => w'.cell? (ad294.add (x52_2).toNat) = some (.slice A294_0 ((rd_T27 x3_1 x52_2).f0).length c294_0) ∧ w'.cell? (ad295.add (x52_2).toNat) = some (.slice A295_0 (rd_L6 x4_1 x52_2).length c295_0)) (ds := []) #[false, false, false, false, false, false, false, false, false, false] (by kernel_rfl) rfl rfl ⟨hx294_0, hx295_0⟩ (fun hHeld => ?_); refine with_tabW tricklelaw04_BitsetEdits.tab19 tricklelaw04_BitsetEdits.bits19 (fun HT_ HW_ => ?_)
                          generalize wr.drew = w68 at HO_3 HO_4 HO_265000 BK264 HB HL294_0 HL295_0 HR294_0 HR295_0 hx294_0 hx295_0 hHeld ⊢
                          refine pure_ (i := 0) (N := some 55) (v := ?_) (a' := ?_) #[true, false, false, false, false, false, false, false, false, false] rfl rfl (any_of HT_.out (by kernel_rfl)) (fun _ _ _ h => h) (Or.inl ⟨by rfl, ?_⟩) ?_ ?_
                          rotate_left
                          · intro w'
                            go_simp
                            with_reducible rfl
                          rotate_left
                          · simp only [Act.put, List.setIfInBounds_toArray, List.set_cons_zero, List.set_cons_succ, i64_w, i32_w]
                            rfl
                          refine pure_ (i := 1) (N := some 56) (v := ?_) (a' := ?_) #[true, true, false, false, false, false, false, false, false, false] rfl rfl (any_of HT_.out (by kernel_rfl)) (fun _ _ _ h => h) (Or.inl ⟨by rfl, ?_⟩) ?_ ?_
                          rotate_left
                          · intro w'
                            go_simp
                            with_reducible rfl
                          rotate_left
                          · simp only [Act.put, List.setIfInBounds_toArray, List.set_cons_zero, List.set_cons_succ, i64_w, i32_w]
                            rfl
                          refine pure_ (i := 2) (N := some 57) (v := ?_) (a' := ?_) #[true, true, true, false, false, false, false, false, false, false] rfl rfl (any_of HT_.out (by kernel_rfl)) (fun _ _ _ h => h) (Or.inl ⟨by rfl, ?_⟩) ?_ ?_
                          rotate_left
                          · intro w'
                            go_simp
                            with_reducible rfl
                          rotate_left
                          · simp only [Act.put, List.setIfInBounds_toArray, List.set_cons_zero, List.set_cons_succ, i64_w, i32_w]
                            rfl
                          refine pure_ (i := 4) (N := some 59) (v := ?_) (a' := ?_) #[true, true, true, false, true, false, false, false, false, false] rfl rfl (any_of HT_.out (by kernel_rfl)) (fun _ _ _ h => h) (Or.inl ⟨by rfl, ?_⟩) ?_ ?_
                          rotate_left
                          · intro w'
                            go_simp
                            with_reducible rfl
                          rotate_left
                          · simp only [Act.put, List.setIfInBounds_toArray, List.set_cons_zero, List.set_cons_succ, i64_w, i32_w]
                            rfl
                          refine pure_ (i := 5) (N := some 60) (v := ?_) (a' := ?_) #[true, true, true, false, true, true, false, false, false, false] rfl rfl (any_of HT_.out (by kernel_rfl)) (fun _ _ _ h => h) (Or.inl ⟨by rfl, ?_⟩) ?_ ?_
                          rotate_left
                          · intro w'
                            go_simp
                            with_reducible rfl
                          rotate_left
                          · simp only [Act.put, List.setIfInBounds_toArray, List.set_cons_zero, List.set_cons_succ, i64_w, i32_w]
                            rfl
                          refine pure_ (i := 6) (N := some 61) (v := ?_) (a' := ?_) #[true, true, true, false, true, true, true, false, false, false] rfl rfl (any_of HT_.out (by kernel_rfl)) (fun _ _ _ h => h) (Or.inl ⟨by rfl, ?_⟩) ?_ ?_
                          rotate_left
                          · intro w'
                            go_simp
                            with_reducible rfl
                          rotate_left
                          · simp only [Act.put, List.setIfInBounds_toArray, List.set_cons_zero, List.set_cons_succ, i64_w, i32_w]
                            rfl
                          refine take_ (i := 3) (N := some 58) (v := ?_) (a' := ?_) #[true, true, true, true, true, true, true, false, false, false] rfl rfl (take_ofW HT_.out HW_.out (by kernel_rfl)) (fun _ _ _ h => h) (Or.inl ⟨by rfl, ?_⟩) hHeld ?_ ?_
                          rotate_left
                          · rintro w' ⟨s0, s1⟩
                            go_simp
                            with_reducible rfl
                          rotate_left
                          · simp only [Act.put, List.setIfInBounds_toArray, List.set_cons_zero, List.set_cons_succ, i64_w, i32_w]
                            rfl
                          refine take_ (i := 7) (N := some 62) (v := ?_) (a' := ?_) #[true, true, true, true, true, true, true, true, false, false] rfl rfl (take_ofW HT_.out HW_.out (by kernel_rfl)) (fun _ _ _ h => h) (Or.inl ⟨by rfl, ?_⟩) hHeld ?_ ?_
                          rotate_left
                          · rintro w' ⟨s0, s1⟩
                            go_simp
                            with_reducible rfl
                          rotate_left
                          · simp only [Act.put, List.setIfInBounds_toArray, List.set_cons_zero, List.set_cons_succ, i64_w, i32_w]
                            rfl
                          refine one_ (i := 8) (N := some 63) #[true, true, true, true, true, true, true, true, true, false] rfl rfl (one_of HT_.out (by kernel_rfl)) (by decide) (fun K hK => ?_)
                          refine goes_ Tryd.func15 (by kernel_rfl) rfl #[.agg #[.slice A294_0 ((rd_T27 x3_1 x52_2).f0).length c294_0], .slice A295_0 (rd_L6 x4_1 x52_2).length c295_0] (by rfl) rfl rfl (by (try simp only [List.map_toArray, List.map_cons, List.map_nil]); first | done | rfl | (simp only [List.length_drop, List.length_take]; rfl)) ?_
                          with_reducible refine (tricklelaw04_same.calls k2 _ _ ((rd_T27 x3_1 x52_2).f0) _ _ (rd_L6 x4_1 x52_2) true _ ?side1 ?side2 ?side3 ?side4 ?side5 A66.out).mono ?_
                          (case side1 => repeat (first | exact (by repeat (first | (with_reducible exact HR294_0.out) | (with_reducible refine Kd.C_alloc ?_ _) | (with_reducible refine Kd.C_drewN ?_ _) | (with_reducible refine Kd.C_drew ?_) | exact HR294_0.out)) | (with_reducible refine Kd.C_alloc ?_ _) | (with_reducible refine Kd.C_drewN ?_ _) | (with_reducible refine Kd.C_drew ?_)))
                          (case side2 => exact HC294_0.out)
                          (case side3 => repeat (first | exact (by repeat (first | (with_reducible exact HR295_0.out) | (with_reducible refine Kd.C_alloc ?_ _) | (with_reducible refine Kd.C_drewN ?_ _) | (with_reducible refine Kd.C_drew ?_) | exact HR295_0.out)) | (with_reducible refine Kd.C_alloc ?_ _) | (with_reducible refine Kd.C_drewN ?_ _) | (with_reducible refine Kd.C_drew ?_)))
                          (case side4 => exact HC295_0.out)
                          (case side5 => refine GW.below HG.out ?_; repeat (first | (with_reducible first | exact HB.out | apply below_alloc | apply pw_below_drewN | apply below_drew1 | refine below_set ?_ GE264.out) | exact HB.out))
                          rintro e w70 ⟨rfl, hb⟩
                          have HS0_ := (hb.cell (World.block_lt_of_cell? _ _ (hHeld.1))).trans (hHeld.1)
                          have HS1_ := (hb.cell (World.block_lt_of_cell? _ _ (hHeld.2))).trans (hHeld.2)
                          refine ⟨_, rfl, ?_⟩
                          have n0_ := Aside0.mk (Kd.N_below (by (with_reducible repeat (first | apply Kd.N_alloc | apply Kd.N_drewN | apply Kd.N_drew)); exact HO_3.out) hb)
                          have n1_ := Aside0.mk (Kd.N_below (by (with_reducible repeat (first | apply Kd.N_alloc | apply Kd.N_drewN | apply Kd.N_drew)); exact HO_4.out) hb)
                          have n2_ := Aside0.mk (Kd.V_below (by (with_reducible repeat (first | apply Kd.V_alloc | apply Kd.V_drewN | apply Kd.V_drew)); exact HO_265000.out) hb)
                          have n3_ := Aside0.mk (Kd.V_below (by (with_reducible repeat (first | apply Kd.V_alloc | apply Kd.V_drewN | apply Kd.V_drew)); exact HL294_0.out) hb)
                          have n4_ := Aside0.mk (Kd.V_below (by (with_reducible repeat (first | apply Kd.V_alloc | apply Kd.V_drewN | apply Kd.V_drew)); exact HL295_0.out) hb)
                          have n5_ := Aside0.mk (blk_below (g := gb264) (o := .cells #[u265000] 27 (0, 0)) (by (with_reducible repeat (first | refine blk_drewN ?_ _ | refine blk_drew ?_ | refine blk_alloc ?_ _)); exact BK264.out) hb)
                          have n6_ := Aside0.mk (Kd.C_below (by repeat (first | (with_reducible exact HR294_0.out) | (with_reducible refine Kd.C_alloc ?_ _) | (with_reducible refine Kd.C_drewN ?_ _) | (with_reducible refine Kd.C_drew ?_) | exact HR294_0.out)) hb)
                          have n7_ := Aside0.mk (Kd.C_below (by repeat (first | (with_reducible exact HR295_0.out) | (with_reducible refine Kd.C_alloc ?_ _) | (with_reducible refine Kd.C_drewN ?_ _) | (with_reducible refine Kd.C_drew ?_) | exact HR295_0.out)) hb)
                          have n8_ := Aside0.mk (below_step (by repeat (first | (with_reducible first | exact HB.out | apply below_alloc | apply pw_below_drewN | apply below_drew1 | refine below_set ?_ GE264.out) | exact HB.out)) hb)
                          clear HO_3
                          clear HO_4
                          clear HO_265000
                          clear HL294_0
                          clear HL295_0
                          clear BK264
                          clear HR294_0
                          clear HR295_0
                          clear HB
                          have HO_3 := n0_
                          have HO_4 := n1_
                          have HO_265000 := n2_
                          have HL294_0 := n3_
                          have HL295_0 := n4_
                          have BK264 := n5_
                          have HR294_0 := n6_
                          have HR295_0 := n7_
                          have HB := n8_
                          clear n0_ n1_ n2_ n3_ n4_ n5_ n6_ n7_ n8_
                          (try clear hb)
                          (try clear hb2)
                          (try clear hk)
                          (try clear hi)
                          refine hK.out _ _ ⟨HS0_, HS1_⟩ (fun hHeld => ?_)
                          clear hK K
                          refine norm_ (a' := ?_) ?_ ?_
                          rotate_left
                          · show Act.put _ (some 63) _ = _
                            simp only [Act.put, List.setIfInBounds_toArray, List.set_cons_zero, List.set_cons_succ, i64_w, i32_w]
                            rfl
                          refine pure_ (i := 9) (N := some 64) (v := ?_) (a' := ?_) #[true, true, true, true, true, true, true, true, true, true] rfl rfl (any_of HT_.out (by kernel_rfl)) (fun _ _ _ h => h) (Or.inl ⟨by rfl, ?_⟩) ?_ ?_
                          rotate_left
                          · intro w'
                            go_simp
                            with_reducible rfl
                          rotate_left
                          · simp only [Act.put, List.setIfInBounds_toArray, List.set_cons_zero, List.set_cons_succ, i64_w, i32_w]
                            rfl
                          refine done_ (done_of HT_.out (by kernel_rfl)) ?_
                          try go_wp2
                          go_roundg k2
                          case measure => have := HK1.out; have := HK2.out; omega
                          case rel => exact ⟨(wrap64 (x52_2 + 1)), (by first | rfl | (simp; done) | (simp [*]; done)), H', ⟨by have := HK1.out; have := HK2.out; omega⟩, ⟨by (with_reducible repeat (first | apply Kd.N_alloc | apply Kd.N_drewN | apply Kd.N_drew)); exact HO_3.out⟩, ⟨by (with_reducible repeat (first | apply Kd.N_alloc | apply Kd.N_drewN | apply Kd.N_drew)); exact HO_4.out⟩, ⟨by (with_reducible repeat (first | apply Kd.V_alloc | apply Kd.V_drewN | apply Kd.V_drew)); exact HO_265000.out⟩, ⟨by (with_reducible repeat (first | refine blk_drewN ?_ _ | refine blk_drew ?_ | refine blk_alloc ?_ _)); exact BK264.out⟩, ⟨by repeat (first | (with_reducible first | exact HB.out | apply below_alloc | apply pw_below_drewN | apply below_drew1 | refine below_set ?_ GE264.out) | exact HB.out)⟩⟩
                        · replace c67 := Bool.eq_false_iff.mpr c67
                          subst c67
                          have H1 : (some false) = some r := by rw [if_neg (show ¬ (false = true) by decide)] at H; exact H
                          clear H
                          have H := H1
                          clear H1
                          obtain rfl := Option.some.inj H
                          try go_wp2
                          have n0_ := Aside0.mk (Kd.N_drew HO_3.out)
                          have n1_ := Aside0.mk (Kd.N_drew HO_4.out)
                          have n2_ := Aside0.mk (Kd.V_drew HO_265000.out)
                          have n3_ := Aside0.mk (blk_drew BK264.out)
                          have n4_ := Aside0.mk (below_drew1 HB.out)
                          clear HO_3
                          clear HO_4
                          clear HO_265000
                          clear BK264
                          clear HB
                          have HO_3 := n0_
                          have HO_4 := n1_
                          have HO_265000 := n2_
                          have BK264 := n3_
                          have HB := n4_
                          clear n0_ n1_ n2_ n3_ n4_
                          have p294 : 0 ≤ (x52_2 : Int) := of_decide_eq_true (by first | (with_reducible assumption) | assumption)
                          have q294 : x52_2 < (x3_1.length : Int) := of_decide_eq_true (by first | (with_reducible assumption) | assumption)
                          obtain ⟨ad294, A294_0, c294_0, e294, hx294_0, hl294_0, hi294_0⟩ := at_T27 (Kd.N_reads' HO_3.out).2.2 x52_2 p294 q294
                          cases e294
                          obtain ⟨ce294, hce294, hMe294, hcc294⟩ := Kd.N_get HO_3.out z27 x52_2 p294 (by first | exact q294 | exact of_decide_eq_true (by first | (with_reducible assumption) | assumption) | (have e_ := (Kd.N_reads' HO_3.out).1; omega))
                          obtain ⟨ua294_0, uc294_0, rfl, ul294_0, ge294_0⟩ := k27_openF hMe294
                          have hv294_0 := hcc294 0 _ rfl
                          rw [Nat.add_zero, show (k27).sz = 1 from rfl, Nat.mul_one] at hv294_0
                          replace hv294_0 := Option.some.inj (hv294_0.symm.trans hx294_0)
                          injection hv294_0 with hva_ hvn_ hvc_
                          rw [hva_] at ge294_0
                          rw [hvc_] at ul294_0
                          have HL294_0 := Aside0.mk (show Kd.V (Kd.int .u64) 56 _ w.heap.size _ _ ((rd_T27 x3_1 x52_2).f0) from Kd.V_mk ul294_0 ge294_0)
                          clear hva_ hvn_ hvc_ ge294_0 ul294_0
                          clear hcc294 hce294
                          have HR294_0 := Aside0.mk hi294_0
                          have HC294_0 := Aside0.mk hl294_0
                          clear hi294_0 hl294_0
                          replace p294 := eq_true p294
                          replace q294 := eq_true q294
                          obtain ⟨Ao72, co72, eo72⟩ := Kd.N_slice HO_4.out
                          (first | subst eo72 | (injection eo72 with f1_ f2_ f3_; have f4_ := f1_.symm; have f5_ := f3_.symm; clear f1_ f2_ f3_; subst f4_; subst f5_))
                          have p295 : 0 ≤ (x52_2 : Int) := of_decide_eq_true (by first | (with_reducible assumption) | assumption)
                          have q295 : x52_2 < (x4_1.length : Int) := of_decide_eq_true (by first | (with_reducible assumption) | assumption)
                          obtain ⟨ad295, A295_0, c295_0, e295, hx295_0, hl295_0, hi295_0⟩ := at_L6 (Kd.N_reads' HO_4.out).2.2 x52_2 p295 q295
                          cases e295
                          obtain ⟨ce295, hce295, hMe295, hcc295⟩ := Kd.N_get HO_4.out [] x52_2 p295 (by first | exact q295 | exact of_decide_eq_true (by first | (with_reducible assumption) | assumption) | (have e_ := (Kd.N_reads' HO_4.out).1; omega))
                          obtain ⟨ua295_0, uc295_0, rfl, ul295_0, ge295_0⟩ := Kd.FK_slice_open hMe295
                          have hv295_0 := hcc295 0 _ rfl
                          rw [Nat.add_zero, show ((Kd.slice 3 (Kd.int .i64))).sz = 1 from rfl, Nat.mul_one] at hv295_0
                          replace hv295_0 := Option.some.inj (hv295_0.symm.trans hx295_0)
                          injection hv295_0 with hva_ hvn_ hvc_
                          rw [hva_] at ge295_0
                          rw [hvc_] at ul295_0
                          have HL295_0 := Aside0.mk (show Kd.V (Kd.int .i64) 3 _ w.heap.size _ _ (rd_L6 x4_1 x52_2) from Kd.V_mk ul295_0 ge295_0)
                          clear hva_ hvn_ hvc_ ge295_0 ul295_0
                          clear hcc295 hce295
                          have HR295_0 := Aside0.mk hi295_0
                          have HC295_0 := Aside0.mk hl295_0
                          clear hi295_0 hl295_0
                          replace p295 := eq_true p295
                          replace q295 := eq_true q295
                          refine start_ (n := 10) (S := fun w' => w'.cell? (ad294.add (x52_2).toNat) = some (.slice A294_0 ((rd_T27 x3_1 x52_2).f0).length c294_0) ∧ w'.cell? (ad295.add (x52_2).toNat) = some (.slice A295_0 (rd_L6 x4_1 x52_2).length c295_0)) (ds := []) #[false, false, false, false, false, false, false, false, false, false] (by kernel_rfl) rfl rfl ⟨hx294_0, hx295_0⟩ (fun hHeld => ?_); refine with_tabW tricklelaw04_BitsetEdits.tab19 tricklelaw04_BitsetEdits.bits19 (fun HT_ HW_ => ?_)
                          generalize wr.drew = w71 at HO_3 HO_4 HO_265000 BK264 HB HL294_0 HL295_0 HR294_0 HR295_0 hx294_0 hx295_0 hHeld ⊢
                          refine pure_ (i := 0) (N := some 55) (v := ?_) (a' := ?_) #[true, false, false, false, false, false, false, false, false, false] rfl rfl (any_of HT_.out (by kernel_rfl)) (fun _ _ _ h => h) (Or.inl ⟨by rfl, ?_⟩) ?_ ?_
                          rotate_left
                          · intro w'
                            go_simp
                            with_reducible rfl
                          rotate_left
                          · simp only [Act.put, List.setIfInBounds_toArray, List.set_cons_zero, List.set_cons_succ, i64_w, i32_w]
                            rfl
                          refine pure_ (i := 1) (N := some 56) (v := ?_) (a' := ?_) #[true, true, false, false, false, false, false, false, false, false] rfl rfl (any_of HT_.out (by kernel_rfl)) (fun _ _ _ h => h) (Or.inl ⟨by rfl, ?_⟩) ?_ ?_
                          rotate_left
                          · intro w'
                            go_simp
                            with_reducible rfl
                          rotate_left
                          · simp only [Act.put, List.setIfInBounds_toArray, List.set_cons_zero, List.set_cons_succ, i64_w, i32_w]
                            rfl
                          refine pure_ (i := 2) (N := some 57) (v := ?_) (a' := ?_) #[true, true, true, false, false, false, false, false, false, false] rfl rfl (any_of HT_.out (by kernel_rfl)) (fun _ _ _ h => h) (Or.inl ⟨by rfl, ?_⟩) ?_ ?_
                          rotate_left
                          · intro w'
                            go_simp
                            with_reducible rfl
                          rotate_left
                          · simp only [Act.put, List.setIfInBounds_toArray, List.set_cons_zero, List.set_cons_succ, i64_w, i32_w]
                            rfl
                          refine pure_ (i := 4) (N := some 59) (v := ?_) (a' := ?_) #[true, true, true, false, true, false, false, false, false, false] rfl rfl (any_of HT_.out (by kernel_rfl)) (fun _ _ _ h => h) (Or.inl ⟨by rfl, ?_⟩) ?_ ?_
                          rotate_left
                          · intro w'
                            go_simp
                            with_reducible rfl
                          rotate_left
                          · simp only [Act.put, List.setIfInBounds_toArray, List.set_cons_zero, List.set_cons_succ, i64_w, i32_w]
                            rfl
                          refine pure_ (i := 5) (N := some 60) (v := ?_) (a' := ?_) #[true, true, true, false, true, true, false, false, false, false] rfl rfl (any_of HT_.out (by kernel_rfl)) (fun _ _ _ h => h) (Or.inl ⟨by rfl, ?_⟩) ?_ ?_
                          rotate_left
                          · intro w'
                            go_simp
                            with_reducible rfl
                          rotate_left
                          · simp only [Act.put, List.setIfInBounds_toArray, List.set_cons_zero, List.set_cons_succ, i64_w, i32_w]
                            rfl
                          refine pure_ (i := 6) (N := some 61) (v := ?_) (a' := ?_) #[true, true, true, false, true, true, true, false, false, false] rfl rfl (any_of HT_.out (by kernel_rfl)) (fun _ _ _ h => h) (Or.inl ⟨by rfl, ?_⟩) ?_ ?_
                          rotate_left
                          · intro w'
                            go_simp
                            with_reducible rfl
                          rotate_left
                          · simp only [Act.put, List.setIfInBounds_toArray, List.set_cons_zero, List.set_cons_succ, i64_w, i32_w]
                            rfl
                          refine take_ (i := 3) (N := some 58) (v := ?_) (a' := ?_) #[true, true, true, true, true, true, true, false, false, false] rfl rfl (take_ofW HT_.out HW_.out (by kernel_rfl)) (fun _ _ _ h => h) (Or.inl ⟨by rfl, ?_⟩) hHeld ?_ ?_
                          rotate_left
                          · rintro w' ⟨s0, s1⟩
                            go_simp
                            with_reducible rfl
                          rotate_left
                          · simp only [Act.put, List.setIfInBounds_toArray, List.set_cons_zero, List.set_cons_succ, i64_w, i32_w]
                            rfl
                          refine take_ (i := 7) (N := some 62) (v := ?_) (a' := ?_) #[true, true, true, true, true, true, true, true, false, false] rfl rfl (take_ofW HT_.out HW_.out (by kernel_rfl)) (fun _ _ _ h => h) (Or.inl ⟨by rfl, ?_⟩) hHeld ?_ ?_
                          rotate_left
                          · rintro w' ⟨s0, s1⟩
                            go_simp
                            with_reducible rfl
                          rotate_left
                          · simp only [Act.put, List.setIfInBounds_toArray, List.set_cons_zero, List.set_cons_succ, i64_w, i32_w]
                            rfl
                          refine one_ (i := 8) (N := some 63) #[true, true, true, true, true, true, true, true, true, false] rfl rfl (one_of HT_.out (by kernel_rfl)) (by decide) (fun K hK => ?_)
                          refine goes_ Tryd.func15 (by kernel_rfl) rfl #[.agg #[.slice A294_0 ((rd_T27 x3_1 x52_2).f0).length c294_0], .slice A295_0 (rd_L6 x4_1 x52_2).length c295_0] (by rfl) rfl rfl (by (try simp only [List.map_toArray, List.map_cons, List.map_nil]); first | done | rfl | (simp only [List.length_drop, List.length_take]; rfl)) ?_
                          with_reducible refine (tricklelaw04_same.calls k2 _ _ ((rd_T27 x3_1 x52_2).f0) _ _ (rd_L6 x4_1 x52_2) false _ ?side1 ?side2 ?side3 ?side4 ?side5 A66.out).mono ?_
                          (case side1 => repeat (first | exact (by repeat (first | (with_reducible exact HR294_0.out) | (with_reducible refine Kd.C_alloc ?_ _) | (with_reducible refine Kd.C_drewN ?_ _) | (with_reducible refine Kd.C_drew ?_) | exact HR294_0.out)) | (with_reducible refine Kd.C_alloc ?_ _) | (with_reducible refine Kd.C_drewN ?_ _) | (with_reducible refine Kd.C_drew ?_)))
                          (case side2 => exact HC294_0.out)
                          (case side3 => repeat (first | exact (by repeat (first | (with_reducible exact HR295_0.out) | (with_reducible refine Kd.C_alloc ?_ _) | (with_reducible refine Kd.C_drewN ?_ _) | (with_reducible refine Kd.C_drew ?_) | exact HR295_0.out)) | (with_reducible refine Kd.C_alloc ?_ _) | (with_reducible refine Kd.C_drewN ?_ _) | (with_reducible refine Kd.C_drew ?_)))
                          (case side4 => exact HC295_0.out)
                          (case side5 => refine GW.below HG.out ?_; repeat (first | (with_reducible first | exact HB.out | apply below_alloc | apply pw_below_drewN | apply below_drew1 | refine below_set ?_ GE264.out) | exact HB.out))
                          rintro e w73 ⟨rfl, hb⟩
                          have HS0_ := (hb.cell (World.block_lt_of_cell? _ _ (hHeld.1))).trans (hHeld.1)
                          have HS1_ := (hb.cell (World.block_lt_of_cell? _ _ (hHeld.2))).trans (hHeld.2)
                          refine ⟨_, rfl, ?_⟩
                          have n0_ := Aside0.mk (Kd.N_below (by (with_reducible repeat (first | apply Kd.N_alloc | apply Kd.N_drewN | apply Kd.N_drew)); exact HO_3.out) hb)
                          have n1_ := Aside0.mk (Kd.N_below (by (with_reducible repeat (first | apply Kd.N_alloc | apply Kd.N_drewN | apply Kd.N_drew)); exact HO_4.out) hb)
                          have n2_ := Aside0.mk (Kd.V_below (by (with_reducible repeat (first | apply Kd.V_alloc | apply Kd.V_drewN | apply Kd.V_drew)); exact HO_265000.out) hb)
                          have n3_ := Aside0.mk (Kd.V_below (by (with_reducible repeat (first | apply Kd.V_alloc | apply Kd.V_drewN | apply Kd.V_drew)); exact HL294_0.out) hb)
                          have n4_ := Aside0.mk (Kd.V_below (by (with_reducible repeat (first | apply Kd.V_alloc | apply Kd.V_drewN | apply Kd.V_drew)); exact HL295_0.out) hb)
                          have n5_ := Aside0.mk (blk_below (g := gb264) (o := .cells #[u265000] 27 (0, 0)) (by (with_reducible repeat (first | refine blk_drewN ?_ _ | refine blk_drew ?_ | refine blk_alloc ?_ _)); exact BK264.out) hb)
                          have n6_ := Aside0.mk (Kd.C_below (by repeat (first | (with_reducible exact HR294_0.out) | (with_reducible refine Kd.C_alloc ?_ _) | (with_reducible refine Kd.C_drewN ?_ _) | (with_reducible refine Kd.C_drew ?_) | exact HR294_0.out)) hb)
                          have n7_ := Aside0.mk (Kd.C_below (by repeat (first | (with_reducible exact HR295_0.out) | (with_reducible refine Kd.C_alloc ?_ _) | (with_reducible refine Kd.C_drewN ?_ _) | (with_reducible refine Kd.C_drew ?_) | exact HR295_0.out)) hb)
                          have n8_ := Aside0.mk (below_step (by repeat (first | (with_reducible first | exact HB.out | apply below_alloc | apply pw_below_drewN | apply below_drew1 | refine below_set ?_ GE264.out) | exact HB.out)) hb)
                          clear HO_3
                          clear HO_4
                          clear HO_265000
                          clear HL294_0
                          clear HL295_0
                          clear BK264
                          clear HR294_0
                          clear HR295_0
                          clear HB
                          have HO_3 := n0_
                          have HO_4 := n1_
                          have HO_265000 := n2_
                          have HL294_0 := n3_
                          have HL295_0 := n4_
                          have BK264 := n5_
                          have HR294_0 := n6_
                          have HR295_0 := n7_
                          have HB := n8_
                          clear n0_ n1_ n2_ n3_ n4_ n5_ n6_ n7_ n8_
                          (try clear hb)
                          (try clear hb2)
                          (try clear hk)
                          (try clear hi)
                          refine hK.out _ _ ⟨HS0_, HS1_⟩ (fun hHeld => ?_)
                          clear hK K
                          refine norm_ (a' := ?_) ?_ ?_
                          rotate_left
                          · show Act.put _ (some 63) _ = _
                            simp only [Act.put, List.setIfInBounds_toArray, List.set_cons_zero, List.set_cons_succ, i64_w, i32_w]
                            rfl
                          refine pure_ (i := 9) (N := some 64) (v := ?_) (a' := ?_) #[true, true, true, true, true, true, true, true, true, true] rfl rfl (any_of HT_.out (by kernel_rfl)) (fun _ _ _ h => h) (Or.inl ⟨by rfl, ?_⟩) ?_ ?_
                          rotate_left
                          · intro w'
                            go_simp
                            with_reducible rfl
                          rotate_left
                          · simp only [Act.put, List.setIfInBounds_toArray, List.set_cons_zero, List.set_cons_succ, i64_w, i32_w]
                            rfl
                          refine done_ (done_of HT_.out (by kernel_rfl)) ?_
                          try go_wp2
                          go_ret
                          exact ⟨by first | rfl | (simp [errW_none, errW_some] <;> rfl) | (simp [*, errW_none, errW_some] <;> rfl), by repeat (first | (with_reducible first | exact HB.out | apply below_alloc | apply pw_below_drewN | apply below_drew1 | refine below_set ?_ GE264.out) | exact HB.out)⟩
                      · rw [if_neg c65] at H
                        exact absurd H (by simp)
                    · rw [if_neg c64] at H
                      exact absurd H (by simp)
                  · rw [if_neg c63] at H
                    exact absurd H (by simp)
                · rw [if_neg c62] at H
                  have c62b0 : decide (x52_2 < (x3_1.length : Int)) = false := decide_eq_false c62
                  clear c62
                  obtain rfl := Option.some.inj H
                  go_wp2
                  go_ret
                  exact ⟨by first | rfl | (simp [errW_none, errW_some] <;> rfl) | (simp [*, errW_none, errW_some] <;> rfl), by repeat (first | (with_reducible first | exact HB.out | apply below_alloc | apply pw_below_drewN | apply below_drew1 | refine below_set ?_ GE264.out) | exact HB.out)⟩
  · replace c3 := Bool.eq_false_iff.mpr c3
    subst c3
    have H1 : (some false) = some r := by rw [if_neg (show ¬ (false = true) by decide)] at H; exact H
    clear H
    have H := H1
    clear H1
    obtain rfl := Option.some.inj H
    go_enter Tryd.func8, Tryd.ntmps8
    go_wp2_with (first | ((with_reducible refine gate_callee (f := 11) rfl ?_); refine goesL_ (some 10) rfl rfl Tryd.func11 (by kernel_rfl) rfl #[] rfl (by (try simp only [List.map_toArray, List.map_cons, List.map_nil]); first | done | rfl | (simp only [List.length_drop, List.length_take]; rfl)) ?_; (with_reducible refine (tricklelaw04_awake.calls k  false _ ?side1 A2.out).mono ?_); (case side1 => refine GW.below HG.out ?_; repeat (first | (with_reducible first | exact HB.out | apply below_alloc | apply pw_below_drewN | apply below_drew1) | exact HB.out)); rintro e w74 ⟨rfl, hb⟩; refine ⟨_, rfl, ?_⟩; have n0_ := Aside0.mk (below_step (by repeat (first | (with_reducible first | exact HB.out | apply below_alloc | apply pw_below_drewN | apply below_drew1) | exact HB.out)) hb); clear HB; have HB := n0_; clear n0_; (try clear hb); (try clear hb2); (try clear hk); (try clear hi)))
    go_ret
    exact ⟨by first | rfl | (simp [errW_none, errW_some] <;> rfl) | (simp [*, errW_none, errW_some] <;> rfl), by repeat (first | (with_reducible first | exact HB.out | apply below_alloc | apply pw_below_drewN | apply below_drew1) | exact HB.out)⟩

end Go.Proofs.YtoobapkccogdhaaDoor.PX
