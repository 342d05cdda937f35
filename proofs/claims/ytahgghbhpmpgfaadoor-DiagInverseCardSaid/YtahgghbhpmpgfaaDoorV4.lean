/- Parts of the proof, merged in build order: PXx9, PureDiagInverse. -/
import Derived.Test.YtahgghbhpmpgfaaDoorV1
import Derived.Test.YtahgghbhpmpgfaaDoorV2
-- Written by a program of this session (wip/xprint.py, over the kit's print tool). Lean checks it.
namespace Go.Proofs.YtahgghbhpmpgfaaDoor.PX
open Go.RowKit Go.Proofs.YtahgghbhpmpgfaaDoorW.PrintWords Go.Proofs.YtahgghbhpmpgfaaDoorW.PrintLast Go.Proofs.YtahgghbhpmpgfaaDoorW.PrintMore
attribute [local go_sem] max2_int min2_int max_two min_two max_three min_three max_four min_four   -- for this text's walks alone
set_option linter.unusedVariables false
set_option linter.unusedSimpArgs false

/-! ### tricklelaw14_DiagInverse: function 7 -/
mutual
def tricklelaw14_DiagInverse.l0 : Nat → ByteArray → Int → Int → Int → Option (Bool)
  | 0, _, _, _, _ => none
  | k + 1, x0, x3, x17, x18 => if x18 < x17 then ((diag_Position.f k x0 x18).bind fun bt192 => ((diag_Offset.f k x0 bt192.1 bt192.2).bind fun bt194 => (if bt194.1 = x18 then (if bt194.2 = true then (if bt192.1 < 1 then (tricklelaw14_DiagInverse.j1 k x0 x3 x17 x18 true) else (if bt192.1 > x3 then (tricklelaw14_DiagInverse.j1 k x0 x3 x17 x18 true) else (tricklelaw14_DiagInverse.j1 k x0 x3 x17 x18 (decide (bt192.2 < 1))))) else (tricklelaw14_DiagInverse.j1 k x0 x3 x17 x18 true)) else (tricklelaw14_DiagInverse.j1 k x0 x3 x17 x18 true)))) else ((tricklelaw14_examples.f k).bind fun t191 => (some t191))
def tricklelaw14_DiagInverse.j1 : Nat → ByteArray → Int → Int → Int → Bool → Option (Bool)
  | 0, _, _, _, _, _ => none
  | k + 1, x0, x3, x17, x18, x53 => if x53 = true then (some false) else (tricklelaw14_DiagInverse.l0 k x0 x3 x17 (wrap64 (x18 + 1)))
end
def tricklelaw14_DiagInverse.f (k : Nat) (a0 : ByteArray) : Option (Bool) := if (a0.size : Int) > 300 then ((tricklelaw14_examples.f k).bind fun t189 => (some t189)) else ((diag_Lines.f a0).bind fun t190 => (tricklelaw14_DiagInverse.l0 k a0 t190 (wrap64 ((a0.size : Int) + 1)) 0))
set_option maxHeartbeats 8000000 in
set_option maxRecDepth 100000 in
theorem tricklelaw14_DiagInverse.calls (k : Nat) (a0 : ByteArray) (r : Bool) (w : World) (hG : GW w) (h : tricklelaw14_DiagInverse.f k a0 = some r) :
    Calls Tryd.prog 7 #[.string a0] w fun e w' => e = .returned (.bool r) ∧ Below w.heap.size w w' := by
  have HG := Aside0.mk hG
  clear hG
  have HB := Aside0.mk (Below.refl w.heap.size w)
  have H : (if (a0.size : Int) > 300 then ((tricklelaw14_examples.f k).bind fun t189 => (some t189)) else ((diag_Lines.f a0).bind fun t190 => (tricklelaw14_DiagInverse.l0 k a0 t190 (wrap64 ((a0.size : Int) + 1)) 0))) = some r := h
  clear h
  by_cases c2 : (a0.size : Int) > 300
  · rw [if_pos c2] at H
    have c2b0 : decide (300 < (a0.size : Int)) = true := decide_eq_true c2
    have c2b1 : decide (300 < a0.size) = true := decide_eq_true (by omega)
    clear c2
    replace H := Option.bind_eq_some_iff.mp H
    obtain ⟨t189, A30, H⟩ := H
    replace H : (some t189) = some r := H
    have A3 := Aside0.mk A30
    clear A30
    obtain rfl := Option.some.inj H
    go_enter Tryd.func7, Tryd.ntmps7
    go_wp2_with (first | ((with_reducible refine gate_callee (f := 11) rfl ?_); refine goesL_ (some 12) rfl rfl Tryd.func11 (by kernel_rfl) rfl #[] rfl (by (try simp only [List.map_toArray, List.map_cons, List.map_nil]); first | done | rfl | (simp only [List.length_drop, List.length_take]; rfl)) ?_; (with_reducible refine (tricklelaw14_examples.calls k  t189 _ ?side1 A3.out).mono ?_); (case side1 => refine GW.below HG.out ?_; repeat (first | (with_reducible first | exact HB.out | apply below_alloc | apply pw_below_drewN | apply below_drew1) | exact HB.out)); rintro e w4 ⟨rfl, hb⟩; refine ⟨_, rfl, ?_⟩; have n0_ := Aside0.mk (below_step (by repeat (first | (with_reducible first | exact HB.out | apply below_alloc | apply pw_below_drewN | apply below_drew1) | exact HB.out)) hb); clear HB; have HB := n0_; clear n0_; (try clear hb); (try clear hb2); (try clear hk); (try clear hi)))
    go_ret
    exact ⟨by first | rfl | (simp [errW_none, errW_some] <;> rfl) | (simp [*, errW_none, errW_some] <;> rfl), by repeat (first | (with_reducible first | exact HB.out | apply below_alloc | apply pw_below_drewN | apply below_drew1) | exact HB.out)⟩
  · rw [if_neg c2] at H
    have c2b0 : decide (300 < (a0.size : Int)) = false := decide_eq_false c2
    have c2b1 : decide (300 < a0.size) = false := decide_eq_false (by omega)
    clear c2
    replace H := Option.bind_eq_some_iff.mp H
    obtain ⟨t190, A50, H⟩ := H
    replace H : (tricklelaw14_DiagInverse.l0 k a0 t190 (wrap64 ((a0.size : Int) + 1)) 0) = some r := H
    have A5 := Aside0.mk A50
    clear A50
    have H' := Aside0.mk H
    clear H
    go_enter Tryd.func7, Tryd.ntmps7
    go_wp2_with (first | ((with_reducible refine gate_callee (f := 14) rfl ?_); refine goesL_ (some 14) rfl rfl Tryd.func14 (by kernel_rfl) rfl #[.string a0] rfl (by (try simp only [List.map_toArray, List.map_cons, List.map_nil]); first | done | rfl | (simp only [List.length_drop, List.length_take]; rfl)) ?_; (with_reducible refine (diag_Lines.calls a0 t190 _ A5.out).mono ?_); rintro e w' ⟨rfl, ⟨nd, rfl⟩⟩; refine ⟨_, rfl, ?_⟩))
    go_loopg [18] k (fun kq v18 w' => ∃ (x18_1 : Int), v18 = .int .i64 x18_1 ∧ Aside0 (tricklelaw14_DiagInverse.l0 kq a0 t190 (wrap64 ((a0.size : Int) + 1)) x18_1 = some r) ∧ Aside0 (kq ≤ k) ∧ Aside0 (Below w.heap.size w w'))
    case atStart => exact ⟨(0), (by first | rfl | (simp; done) | (simp [*]; done)), H', ⟨Nat.le_refl _⟩, ⟨by repeat (first | (with_reducible first | exact HB.out | apply below_alloc | apply pw_below_drewN | apply below_drew1) | exact HB.out)⟩⟩
    case round =>
      clear H'
      try clear c1
      try clear c2
      try clear c2b0
      try clear c2b1
      try clear p2
      obtain ⟨x18_1, rfl, HA, HK1, HB⟩ := hrel
      cases gk with
      | zero => exact absurd HA.out (by simp [tricklelaw14_DiagInverse.l0])
      | succ k1 =>
        have H := HA.out
        clear HA
        simp only [tricklelaw14_DiagInverse.l0] at H
        by_cases c6 : x18_1 < (wrap64 ((a0.size : Int) + 1))
        · rw [if_pos c6] at H
          have c6b0 : decide (x18_1 < (wrap64 ((a0.size : Int) + 1))) = true := decide_eq_true c6
          clear c6
          replace H := Option.bind_eq_some_iff.mp H
          obtain ⟨⟨t192, t193⟩, A70, H⟩ := H
          replace H : ((diag_Offset.f k1 a0 t192 t193).bind fun bt194 => (if bt194.1 = x18_1 then (if bt194.2 = true then (if t192 < 1 then (tricklelaw14_DiagInverse.j1 k1 a0 t190 (wrap64 ((a0.size : Int) + 1)) x18_1 true) else (if t192 > t190 then (tricklelaw14_DiagInverse.j1 k1 a0 t190 (wrap64 ((a0.size : Int) + 1)) x18_1 true) else (tricklelaw14_DiagInverse.j1 k1 a0 t190 (wrap64 ((a0.size : Int) + 1)) x18_1 (decide (t193 < 1))))) else (tricklelaw14_DiagInverse.j1 k1 a0 t190 (wrap64 ((a0.size : Int) + 1)) x18_1 true)) else (tricklelaw14_DiagInverse.j1 k1 a0 t190 (wrap64 ((a0.size : Int) + 1)) x18_1 true))) = some r := H
          have A7 := Aside0.mk A70
          clear A70
          replace H := Option.bind_eq_some_iff.mp H
          obtain ⟨⟨t194, t195⟩, A80, H⟩ := H
          replace H : (if t194 = x18_1 then (if t195 = true then (if t192 < 1 then (tricklelaw14_DiagInverse.j1 k1 a0 t190 (wrap64 ((a0.size : Int) + 1)) x18_1 true) else (if t192 > t190 then (tricklelaw14_DiagInverse.j1 k1 a0 t190 (wrap64 ((a0.size : Int) + 1)) x18_1 true) else (tricklelaw14_DiagInverse.j1 k1 a0 t190 (wrap64 ((a0.size : Int) + 1)) x18_1 (decide (t193 < 1))))) else (tricklelaw14_DiagInverse.j1 k1 a0 t190 (wrap64 ((a0.size : Int) + 1)) x18_1 true)) else (tricklelaw14_DiagInverse.j1 k1 a0 t190 (wrap64 ((a0.size : Int) + 1)) x18_1 true)) = some r := H
          have A8 := Aside0.mk A80
          clear A80
          have HC9 := Aside0.mk H
          clear H
          go_upto_region 9 with (first | ((with_reducible refine gate_callee (f := 12) rfl ?_); refine goesL_ (some 24) rfl rfl Tryd.func12 (by kernel_rfl) rfl #[.string a0, .int .i64 x18_1] rfl (by (try simp only [List.map_toArray, List.map_cons, List.map_nil]); first | done | rfl | (simp only [List.length_drop, List.length_take]; rfl)) ?_; (with_reducible refine (diag_Position.calls k1 a0 x18_1 t192 t193 _ A7.out).mono ?_); rintro e w10 ⟨rfl, hb⟩; refine ⟨_, rfl, ?_⟩; have n0_ := Aside0.mk (below_step (by repeat (first | (with_reducible first | exact HB.out | apply below_alloc | apply pw_below_drewN | apply below_drew1) | exact HB.out)) hb); clear HB; have HB := n0_; clear n0_; (try clear hb); (try clear hb2); (try clear hk); (try clear hi)) | ((with_reducible refine gate_callee (f := 21) rfl ?_); refine goesL_ (some 31) rfl rfl Tryd.func21 (by kernel_rfl) rfl #[.string a0, .int .i64 t192, .int .i64 t193] rfl (by (try simp only [List.map_toArray, List.map_cons, List.map_nil]); first | done | rfl | (simp only [List.length_drop, List.length_take]; rfl)) ?_; (with_reducible refine (diag_Offset.calls k1 a0 t192 t193 t194 t195 _ ?side1 A8.out).mono ?_); (case side1 => refine GW.below HG.out ?_; repeat (first | (with_reducible first | exact HB.out | apply below_alloc | apply pw_below_drewN | apply below_drew1) | exact HB.out)); rintro e w11 ⟨rfl, hb⟩; refine ⟨_, rfl, ?_⟩; have n0_ := Aside0.mk (below_step (by repeat (first | (with_reducible first | exact HB.out | apply below_alloc | apply pw_below_drewN | apply below_drew1) | exact HB.out)) hb); clear HB; have HB := n0_; clear n0_; (try clear hb); (try clear hb2); (try clear hk); (try clear hi)))
          (try simp only [Act.put, List.setIfInBounds_toArray, List.set_cons_zero, List.set_cons_succ])
          go_cut [53] (fun v53 wc => ∃ (kq : Nat) (x53_8 : Bool), v53 = .bool x53_8 ∧ Aside0 (tricklelaw14_DiagInverse.j1 kq a0 t190 (wrap64 ((a0.size : Int) + 1)) x18_1 x53_8 = some r) ∧ Aside0 (kq ≤ k1) ∧ Aside0 (Below w.heap.size w wc))
          case first =>
            have H := HC9.out
            clear HC9
            by_cases c12 : t194 = x18_1
            · rw [if_pos c12] at H
              have c12b0 : (t194 == x18_1) = true := beq_iff_eq.mpr c12
              have c12b1 : (t194 != x18_1) = false := bne_eq_false_iff_eq.mpr c12
              clear c12
              (first | rw [c12b0] | (simp only [i64_w, i32_w]; rw [c12b0]) | skip)
              by_cases c13 : t195 = true
              · subst c13
                have H1 : (if t192 < 1 then (tricklelaw14_DiagInverse.j1 k1 a0 t190 (wrap64 ((a0.size : Int) + 1)) x18_1 true) else (if t192 > t190 then (tricklelaw14_DiagInverse.j1 k1 a0 t190 (wrap64 ((a0.size : Int) + 1)) x18_1 true) else (tricklelaw14_DiagInverse.j1 k1 a0 t190 (wrap64 ((a0.size : Int) + 1)) x18_1 (decide (t193 < 1))))) = some r := by rw [if_pos rfl] at H; exact H
                clear H
                have H := H1
                clear H1
                by_cases c14 : t192 < 1
                · rw [if_pos c14] at H
                  have c14b0 : decide (t192 < 1) = true := decide_eq_true c14
                  clear c14
                  have H' := Aside0.mk H
                  clear H
                  go_wp2
                  go_meet
                  case rel => exact ⟨_, (true), (by first | rfl | (simp; done) | (simp [*]; done)), H', ⟨by have := HK1.out; first | omega | exact Nat.le_refl _⟩, ⟨by repeat (first | (with_reducible first | exact HB.out | apply below_alloc | apply pw_below_drewN | apply below_drew1) | exact HB.out)⟩⟩
                · rw [if_neg c14] at H
                  have c14b0 : decide (t192 < 1) = false := decide_eq_false c14
                  clear c14
                  by_cases c15 : t192 > t190
                  · rw [if_pos c15] at H
                    have c15b0 : decide (t190 < t192) = true := decide_eq_true c15
                    clear c15
                    have H' := Aside0.mk H
                    clear H
                    go_wp2
                    go_meet
                    case rel => exact ⟨_, (true), (by first | rfl | (simp; done) | (simp [*]; done)), H', ⟨by have := HK1.out; first | omega | exact Nat.le_refl _⟩, ⟨by repeat (first | (with_reducible first | exact HB.out | apply below_alloc | apply pw_below_drewN | apply below_drew1) | exact HB.out)⟩⟩
                  · rw [if_neg c15] at H
                    have c15b0 : decide (t190 < t192) = false := decide_eq_false c15
                    clear c15
                    have H' := Aside0.mk H
                    clear H
                    go_wp2
                    go_meet
                    case rel => exact ⟨_, (decide (t193 < 1)), (by first | rfl | (simp; done) | (simp [*]; done)), H', ⟨by have := HK1.out; first | omega | exact Nat.le_refl _⟩, ⟨by repeat (first | (with_reducible first | exact HB.out | apply below_alloc | apply pw_below_drewN | apply below_drew1) | exact HB.out)⟩⟩
              · replace c13 := Bool.eq_false_iff.mpr c13
                subst c13
                have H1 : (tricklelaw14_DiagInverse.j1 k1 a0 t190 (wrap64 ((a0.size : Int) + 1)) x18_1 true) = some r := by rw [if_neg (show ¬ (false = true) by decide)] at H; exact H
                clear H
                have H := H1
                clear H1
                have H' := Aside0.mk H
                clear H
                go_wp2
                go_meet
                case rel => exact ⟨_, (true), (by first | rfl | (simp; done) | (simp [*]; done)), H', ⟨by have := HK1.out; first | omega | exact Nat.le_refl _⟩, ⟨by repeat (first | (with_reducible first | exact HB.out | apply below_alloc | apply pw_below_drewN | apply below_drew1) | exact HB.out)⟩⟩
            · rw [if_neg c12] at H
              have c12b0 : (t194 == x18_1) = false := beq_eq_false_iff_ne.mpr c12
              have c12b1 : (t194 != x18_1) = true := bne_iff_ne.mpr c12
              (first | rw [c12b0] | (simp only [i64_w, i32_w]; rw [c12b0]) | skip)
              have H' := Aside0.mk H
              clear H
              go_wp2
              go_meet
              case rel => exact ⟨_, (true), (by first | rfl | (simp; done) | (simp [*]; done)), H', ⟨by have := HK1.out; first | omega | exact Nat.le_refl _⟩, ⟨by repeat (first | (with_reducible first | exact HB.out | apply below_alloc | apply pw_below_drewN | apply below_drew1) | exact HB.out)⟩⟩
          case rest =>
            clear HC9
            try clear c1
            try clear c2
            try clear c2b0
            try clear c2b1
            try clear p2
            try clear c6
            try clear c6b0
            try clear p6
            try clear c7
            try clear c11
            try clear c12
            try clear c12b0
            try clear c12b1
            try clear c13
            try clear c14
            try clear c14b0
            try clear c15
            try clear c15b0
            try clear p2
            obtain ⟨kq, x53_8, rfl, HA, HJ8, HB⟩ := hcut
            cases kq with
            | zero => exact absurd HA.out (by simp [tricklelaw14_DiagInverse.j1])
            | succ kj8 =>
              have H := HA.out
              clear HA
              simp only [tricklelaw14_DiagInverse.j1] at H
              by_cases c16 : x53_8 = true
              · subst c16
                have H1 : (some false) = some r := by rw [if_pos rfl] at H; exact H
                clear H
                have H := H1
                clear H1
                obtain rfl := Option.some.inj H
                go_wp2
                go_ret
                exact ⟨by first | rfl | (simp [errW_none, errW_some] <;> rfl) | (simp [*, errW_none, errW_some] <;> rfl), by repeat (first | (with_reducible first | exact HB.out | apply below_alloc | apply pw_below_drewN | apply below_drew1) | exact HB.out)⟩
              · replace c16 := Bool.eq_false_iff.mpr c16
                subst c16
                have H1 : (tricklelaw14_DiagInverse.l0 kj8 a0 t190 (wrap64 ((a0.size : Int) + 1)) (wrap64 (x18_1 + 1))) = some r := by rw [if_neg (show ¬ (false = true) by decide)] at H; exact H
                clear H
                have H := H1
                clear H1
                have H' := Aside0.mk H
                clear H
                go_wp2
                go_roundg kj8
                case measure => have := HK1.out; have := HJ8.out; omega
                case rel => exact ⟨(wrap64 (x18_1 + 1)), (by first | rfl | (simp; done) | (simp [*]; done)), H', ⟨by have := HK1.out; have := HJ8.out; omega⟩, ⟨by repeat (first | (with_reducible first | exact HB.out | apply below_alloc | apply pw_below_drewN | apply below_drew1) | exact HB.out)⟩⟩
        · rw [if_neg c6] at H
          have c6b0 : decide (x18_1 < (wrap64 ((a0.size : Int) + 1))) = false := decide_eq_false c6
          clear c6
          replace H := Option.bind_eq_some_iff.mp H
          obtain ⟨t191, A170, H⟩ := H
          replace H : (some t191) = some r := H
          have A17 := Aside0.mk A170
          clear A170
          obtain rfl := Option.some.inj H
          go_wp2_with (first | ((with_reducible refine gate_callee (f := 11) rfl ?_); refine goesL_ (some 55) rfl rfl Tryd.func11 (by kernel_rfl) rfl #[] rfl (by (try simp only [List.map_toArray, List.map_cons, List.map_nil]); first | done | rfl | (simp only [List.length_drop, List.length_take]; rfl)) ?_; (with_reducible refine (tricklelaw14_examples.calls k1  t191 _ ?side1 A17.out).mono ?_); (case side1 => refine GW.below HG.out ?_; repeat (first | (with_reducible first | exact HB.out | apply below_alloc | apply pw_below_drewN | apply below_drew1) | exact HB.out)); rintro e w18 ⟨rfl, hb⟩; refine ⟨_, rfl, ?_⟩; have n0_ := Aside0.mk (below_step (by repeat (first | (with_reducible first | exact HB.out | apply below_alloc | apply pw_below_drewN | apply below_drew1) | exact HB.out)) hb); clear HB; have HB := n0_; clear n0_; (try clear hb); (try clear hb2); (try clear hk); (try clear hi)))
          go_ret
          exact ⟨by first | rfl | (simp [errW_none, errW_some] <;> rfl) | (simp [*, errW_none, errW_some] <;> rfl), by repeat (first | (with_reducible first | exact HB.out | apply below_alloc | apply pw_below_drewN | apply below_drew1) | exact HB.out)⟩

end Go.Proofs.YtahgghbhpmpgfaaDoor.PX
/- DiagInverse in plain words. -/
namespace Go.Proofs.YtahgghbhpmpgfaaDoor.Pure
open Go.RowKit Go.Proofs.YtahgghbhpmpgfaaDoor.PX Go.Proofs.YtahgghbhpmpgfaaDoorW.PrintWords Go.Proofs.YtahgghbhpmpgfaaDoorW.PrintLast
set_option linter.unusedVariables false
theorem lines_mono (b : List UInt8) (i : Nat) : (posOf (b.take i)).1 ≤ (posOf b).1 := by
  rw [pos_lines, pos_lines]
  exact Nat.succ_le_succ (List.Sublist.count_le _ (List.take_sublist i b))
theorem inverse_loop (s : ByteArray) (hs : (bs s).length ≤ 300) : ∀ (d j : Nat), j + d = (bs s).length + 1 → Ev (fun n => tricklelaw14_DiagInverse.l0 n s ((posOf (bs s)).1 : Int) (((bs s).length + 1 : Nat) : Int) (j : Int)) true
  | 0, j, hj => by
    refine Ev.step (fun n => by rw [tricklelaw14_DiagInverse.l0]) (Ev.neg (by omega) ?_)
    exact Ev.bind examples_ev (Ev.now _)
  | d + 1, j, hj => by
    have hjl : j ≤ (bs s).length := by omega
    have hcl : clampN (bs s).length (j : Int) = j := by unfold clampN; omega
    have hp := position_ev s (by omega) (j : Int)
    rw [hcl] at hp
    obtain ⟨t, q, ht, hq, e⟩ := pos_cover (bs s) j hjl
    have hpos := posOf_at (bs s) t q ht hq
    rw [← e] at hpos
    have hm := lines_mono (bs s) j
    have hr := pos_range (bs s)
    have hr2 := pos_range ((bs s).take j)
    have ho := offset_ev s hs ((t + 1 : Nat) : Int) ((q + 1 : Nat) : Int) (by rw [hpos, List.length_take] at hr2; dsimp only at hr2; omega) (by rw [hpos, List.length_take] at hr2; dsimp only at hr2; omega)
    have hoff : offR (bs s) ((t + 1 : Nat) : Int) ((q + 1 : Nat) : Int) = ((j : Int), true) := by
      unfold offR
      have a1 : ((t + 1 : Nat) : Int).toNat - 1 = t := by omega
      have a2 : ((q + 1 : Nat) : Int).toNat - 1 = q := by omega
      rw [dif_pos (show 1 ≤ ((t + 1 : Nat) : Int) ∧ ((t + 1 : Nat) : Int).toNat - 1 < (spl (bs s)).length ∧ 1 ≤ ((q + 1 : Nat) : Int) by omega)]
      simp only [a1, a2]
      rw [if_pos hq, e]
    rw [hoff] at ho
    rw [hpos] at hp hm
    refine Ev.step (fun n => by rw [tricklelaw14_DiagInverse.l0]) ?_
    refine Ev.pos (by omega) (Ev.bind hp (Ev.bind ho ?_))
    refine Ev.pos rfl (Ev.pos rfl ?_)
    dsimp only at hm
    refine Ev.neg (show ¬ ((t + 1 : Nat) : Int) < 1 by omega) ?_
    refine Ev.neg (show ¬ ((t + 1 : Nat) : Int) > ((posOf (bs s)).1 : Int) by omega) ?_
    show Ev (fun n => tricklelaw14_DiagInverse.j1 n s ((posOf (bs s)).1 : Int) (((bs s).length + 1 : Nat) : Int) (j : Int) (decide (((q + 1 : Nat) : Int) < 1))) true
    rw [show decide (((q + 1 : Nat) : Int) < 1) = false by rw [decide_eq_false_iff_not]; omega]
    refine Ev.step (fun n => by rw [tricklelaw14_DiagInverse.j1]) (Ev.neg (by decide) ?_)
    rw [show wrap64 ((j : Int) + 1) = ((j + 1 : Nat) : Int) by rw [wrap_id (by omega) (by omega)]; omega]
    exact inverse_loop s hs d (j + 1) (by omega)
theorem DiagInverse (s : ByteArray) (hs : s.size ≤ 140737488351232) : ∃ n, tricklelaw14_DiagInverse.f n s = some true := by
  refine Ev.rounds (Ev.congr (fun n => by rw [tricklelaw14_DiagInverse.f, bs_size]) ?_)
  by_cases h : ((bs s).length : Int) > 300
  · exact Ev.pos h (Ev.bind examples_ev (Ev.now _))
  refine Ev.neg h (Ev.const (lines_f s (by omega)) ?_)
  have w : wrap64 (((bs s).length : Int) + 1) = (((bs s).length + 1 : Nat) : Int) := by rw [wrap_id (by omega) (by omega)]; omega
  rw [w]
  exact inverse_loop s (by omega) ((bs s).length + 1) 0 (Nat.zero_add _)
end Go.Proofs.YtahgghbhpmpgfaaDoor.Pure
