/- Parts of the proof, merged in build order: St5, Cob3, Cob4. -/
import Derived.Test.YtfhnpphceeoeeaaDoorS1
import Derived.Test.YtfhnpphceeoeeaaDoorS2
-- Written by a program of this session (wip/xprint.py, over the kit's print tool). Lean checks it.
namespace Go.Proofs.YtfhnpphceeoeeaaDoor.PX
open Go.RowKit Go.Proofs.YtfhnpphceeoeeaaDoorW.PrintWords Go.Proofs.YtfhnpphceeoeeaaDoorW.PrintLast Go.Proofs.YtfhnpphceeoeeaaDoorW.PrintMore
attribute [local go_sem] max2_int min2_int max_two min_two max_three min_three max_four min_four   -- for this text's walks alone
set_option linter.unusedVariables false
set_option linter.unusedSimpArgs false

/-! ### cobs_Encode: function 56 -/
mutual
def cobs_Encode.l0 : Nat → List Int → List Int → Option (List Int)
  | 0, _, _ => none
  | k + 1, x0, x3 => if 0 ≤ (mn (x0.length : Int) 254) then (if (mn (x0.length : Int) 254) ≤ (x0.length : Int) then ((bytes_IndexByte.f (x0.take ((mn (x0.length : Int) 254) : Int).toNat) 0).bind fun t184 => (if t184 < 0 then (cobs_Encode.j1 k x0 x3 (mn (x0.length : Int) 254)) else (cobs_Encode.j1 k x0 x3 t184))) else (none)) else (none)
def cobs_Encode.j1 : Nat → List Int → List Int → Int → Option (List Int)
  | 0, _, _, _ => none
  | k + 1, x0, x3, x4 => if x3.length < 140737488355328 then ((some (x3 ++ [(wrap64 (x4 + 1)) % 256] : List Int)).bind fun y185 => (if 0 ≤ x4 then (if x4 ≤ (x0.length : Int) then ((some (x0.take (x4 : Int).toNat : List Int)).bind fun y188 => (if y185.length + y188.length < 140737488355328 then ((some (y185 ++ y188 : List Int)).bind fun y193 => ((some (x0.drop (x4 : Int).toNat : List Int)).bind fun y196 => (if (y196.length : Int) = 0 then (if y193.length < 140737488355328 then (some (y193 ++ [0])) else (none)) else (if x4 < 254 then (if 1 ≤ (y196.length : Int) then (cobs_Encode.l0 k (y196.drop 1) y193) else (none)) else (cobs_Encode.l0 k y196 y193))))) else (none))) else (none)) else (none))) else (none)
end
def cobs_Encode.f (k : Nat) (l0 : List Int) : Option (List Int) := cobs_Encode.l0 k l0 ([] : List Int)
set_option maxHeartbeats 8000000 in
set_option maxRecDepth 100000 in
theorem cobs_Encode.calls (k : Nat) (P0_ : Nat → Prop) (A0 : Option Addr) (c0 : Nat) (l0 : List Int) (r : List Int) (w : World) (hs0 : Kd.V (Kd.int .u8) 5 w w.heap.size (fun k_ => P0_ k_) (.slice A0 l0.length c0) l0) (h : cobs_Encode.f k l0 = some r) :
    Calls Tryd.prog 56 #[.slice A0 l0.length c0] w fun e w' => ∃ v0_ : Value, e = .returned (v0_) ∧ Kd.R (Kd.int .u8) 5 w' w.heap.size (fun k_ => (w.heap.size ≤ k_)) v0_ r ∧ Below w.heap.size w w' := by
  have HO0 := Aside0.mk (show Kd.V (Kd.int .u8) 5 w w.heap.size (fun k_ => (P0_ k_ ∨ w.heap.size ≤ k_)) (.slice A0 l0.length c0) l0 from Kd.V_mono hs0 (fun k_ hk => .inl hk))
  have HB := Aside0.mk (Below.refl w.heap.size w)
  have H : (cobs_Encode.l0 k l0 ([] : List Int)) = some r := h
  clear h
  have H' := Aside0.mk H
  clear H
  go_enter Tryd.func56, Tryd.ntmps56
  go_wp2
  go_loopg [0, 3] k (fun kq v0 v3 w' => ∃ (x0_1 : List Int) (x3_1 : List Int), Aside0 (cobs_Encode.l0 kq x0_1 x3_1 = some r) ∧ Aside0 (kq ≤ k) ∧ Aside0 (Kd.V (Kd.int .u8) 5 w' w.heap.size (fun k_ => (P0_ k_ ∨ w.heap.size ≤ k_) ∧ some k_ ≠ (v3 : Value).ownBlock) v0 x0_1) ∧ Aside0 (Kd.R (Kd.int .u8) 5 w' w.heap.size (fun k_ => (w.heap.size ≤ k_)) v3 x3_1) ∧ Aside0 (Below w.heap.size w w'))
  case atStart => exact ⟨(l0), (([] : List Int)), H', ⟨Nat.le_refl _⟩, ⟨by (with_reducible repeat (first | apply Kd.V_alloc | apply Kd.V_drewN | apply Kd.V_drew)); exact Kd.V_mono HO0.out (fun _ hk => ⟨hk, (by simp [Value.ownBlock])⟩)⟩, ⟨by first | exact Kd.R_nil _ _ _ _ _ | exact Kd.N_nil _ _ _ _ _ | exact Kd.V_nil _ _ _ _ _ | exact Kd.Q_nil _ _ _ _ _ | exact Kd.S_nil _ _ _ _ _⟩, ⟨by repeat (first | (with_reducible first | exact HB.out | apply below_alloc | apply pw_below_drewN | apply below_drew1) | exact HB.out)⟩⟩
  case round =>
    clear H'
    obtain ⟨x0_1, x3_1, HA, HK1, HO_0, HO_3, HB⟩ := hrel
    cases gk with
    | zero => exact absurd HA.out (by simp [cobs_Encode.l0])
    | succ k1 =>
      have H := HA.out
      clear HA
      simp only [cobs_Encode.l0] at H
      obtain ⟨ji2, hji2⟩ : ∃ j_ : Int, (mn (x0_1.length : Int) 254) = j_ := ⟨_, rfl⟩
      replace H : (if 0 ≤ (ji2) then (if (ji2) ≤ (x0_1.length : Int) then ((bytes_IndexByte.f (x0_1.take ((ji2) : Int).toNat) 0).bind fun t184 => (if t184 < 0 then (cobs_Encode.j1 k1 x0_1 x3_1 ji2) else (cobs_Encode.j1 k1 x0_1 x3_1 t184))) else (none)) else (none)) = some r := by first | (rw [hji2] at H; exact H) | (simp only [hji2] at H ⊢; exact H)
      have hji2_ : (if 254 < (x0_1.length : Int) then 254 else (x0_1.length : Int)) = ji2 := hji2
      by_cases c3 : 0 ≤ (ji2)
      · rw [if_pos c3] at H
        have c3b0 := eq_true c3
        have c3b1 : decide (0 ≤ (ji2)) = true := decide_eq_true c3
        clear c3
        by_cases c4 : (ji2) ≤ (x0_1.length : Int)
        · rw [if_pos c4] at H
          have c4b0 := eq_true c4
          have c4b1 : decide ((ji2) ≤ (x0_1.length : Int)) = true := decide_eq_true c4
          clear c4
          obtain ⟨y179, hy179⟩ : ∃ y_ : List Int, y_ = (x0_1.take ((ji2) : Int).toNat) := ⟨_, rfl⟩
          replace H : ((bytes_IndexByte.f y179 0).bind fun t184 => (if t184 < 0 then (cobs_Encode.j1 k1 x0_1 x3_1 ji2) else (cobs_Encode.j1 k1 x0_1 x3_1 t184))) = some r := by first | (rw [hy179]; with_reducible exact H) | (have H2_ := (Option.bind_some _ _).symm.trans H; rw [hy179]; with_reducible exact H2_) | (have H2_ := (Option.bind_some _ _).symm.trans H; with_reducible exact H2_) | with_reducible exact H | (rw [hy179]; exact H) | exact H
          have Ny179 := Aside0.mk hy179
          clear hy179
          replace H := Option.bind_eq_some_iff.mp H
          obtain ⟨t184, A50, H⟩ := H
          replace H : (if t184 < 0 then (cobs_Encode.j1 k1 x0_1 x3_1 ji2) else (cobs_Encode.j1 k1 x0_1 x3_1 t184)) = some r := H
          have A5 := Aside0.mk A50
          clear A50
          have HC6 := Aside0.mk H
          clear H
          obtain ⟨Ao7, co7, eo7⟩ := Kd.V_slice HO_0.out
          subst eo7
          have q8 : ((ji2) : Int) ≤ ((x0_1.length : Int) : Int) := of_decide_eq_true (by first | (with_reducible assumption) | assumption)
          obtain ⟨i08, hi08, _, hsz8, _⟩ := info_parts info5
          have hroom8 : x0_1.length ≤ co7 := (Kd.V_reads' HO_0.out).2.1
          have hC8 : Kd.F (Kd.int .u8) _ _ Ao7 x0_1.length x0_1 := (Kd.V_at (base := w.heap.size) HO_0.out).2.2
          have hcut8 := cut_to (P := Tryd.prog) 24 5 .i64 Tryd.underlying24 hi08 Ao7 x0_1.length co7 (ji2) (of_decide_eq_true (by first | (with_reducible assumption) | assumption)) q8 hroom8
          have hr8 := Kd.F_take (m := ((ji2) : Int).toNat) hC8 (by omega)
          have hy8 : y179.length = ((ji2) : Int).toNat := (by rw [Ny179.out, List.length_take]; omega)
          rw [← Ny179.out] at hr8
          rw [← hy8] at hcut8
          have HO183 := Aside0.mk (show Kd.V (Kd.int .u8) 5 _ w.heap.size _ (.slice Ao7 y179.length co7) y179 from Kd.V_mk (by omega) hr8)
          have HC183 := Aside0.mk (show y179.length ≤ co7 from by omega)
          clear hr8 hC8 hroom8 hi08 hsz8
          have KY8 := Aside0.mk hy8
          clear hy8
          replace q8 := eq_true q8
          go_upto_if 12 with (first | ((with_reducible refine gate_callee (f := 69) rfl ?_); refine goesL_ (some 10) rfl rfl Tryd.func69 (by kernel_rfl) rfl #[.slice Ao7 y179.length co7, .int .u8 0] rfl (by (try simp only [List.map_toArray, List.map_cons, List.map_nil]); first | done | rfl | (simp only [List.length_drop, List.length_take]; rfl)) ?_; (with_reducible refine (bytes_IndexByte.calls _ _ y179 0 t184 _ ?side1 ?side2 A5.out).mono ?_); (case side1 => repeat (first | exact (Kd.V_reads' HO183.out).2.2 | (with_reducible refine Kd.C_alloc ?_ _) | (with_reducible refine Kd.C_drewN ?_ _) | (with_reducible refine Kd.C_drew ?_))); (case side2 => exact (Kd.V_reads' HO183.out).2.1); rintro e w' ⟨rfl, ⟨nd, rfl⟩⟩; refine ⟨_, rfl, ?_⟩))
          (try simp only [Act.put, List.setIfInBounds_toArray, List.set_cons_zero, List.set_cons_succ])
          go_cut [4] (fun v4 wc => ∃ (kq : Nat) (x4_5 : Int), v4 = .int .i64 x4_5 ∧ Aside0 (cobs_Encode.j1 kq x0_1 x3_1 x4_5 = some r) ∧ Aside0 (kq ≤ k1) ∧ Aside0 (Kd.V (Kd.int .u8) 5 wc w.heap.size (fun k_ => (P0_ k_ ∨ w.heap.size ≤ k_) ∧ some k_ ≠ (u3 : Value).ownBlock) (.slice Ao7 x0_1.length co7) x0_1) ∧ Aside0 (Kd.R (Kd.int .u8) 5 wc w.heap.size (fun k_ => (w.heap.size ≤ k_)) u3 x3_1) ∧ Aside0 (Below w.heap.size w wc))
          case first =>
            have H := HC6.out
            clear HC6
            by_cases c9 : t184 < 0
            · rw [if_pos c9] at H
              have c9b0 : decide (t184 < 0) = true := decide_eq_true c9
              clear c9
              (first | rw [c9b0] | (simp only [i64_w, i32_w]; rw [c9b0]) | skip)
              have H' := Aside0.mk H
              clear H
              go_wp2
              go_meet
              case rel => exact ⟨_, (ji2), (by first | rfl | (simp; done) | (simp only [← hji2] <;> (first | rfl | simp)) | (simp [*]; done)), H', ⟨by have := HK1.out; first | omega | exact Nat.le_refl _⟩, ⟨by (with_reducible repeat (first | apply Kd.V_alloc | apply Kd.V_drewN | apply Kd.V_drew)); exact HO_0.out⟩, ⟨by (with_reducible repeat (first | apply Kd.R_alloc | apply Kd.R_drewN | apply Kd.R_drew)); exact HO_3.out⟩, ⟨by repeat (first | (with_reducible first | exact HB.out | apply below_alloc | apply pw_below_drewN | apply below_drew1) | exact HB.out)⟩⟩
            · rw [if_neg c9] at H
              have c9b0 : decide (t184 < 0) = false := decide_eq_false c9
              clear c9
              (first | rw [c9b0] | (simp only [i64_w, i32_w]; rw [c9b0]) | skip)
              have H' := Aside0.mk H
              clear H
              go_wp2
              go_meet
              case rel => exact ⟨_, (t184), (by first | rfl | (simp; done) | (simp [*]; done)), H', ⟨by have := HK1.out; first | omega | exact Nat.le_refl _⟩, ⟨by (with_reducible repeat (first | apply Kd.V_alloc | apply Kd.V_drewN | apply Kd.V_drew)); exact HO_0.out⟩, ⟨by (with_reducible repeat (first | apply Kd.R_alloc | apply Kd.R_drewN | apply Kd.R_drew)); exact HO_3.out⟩, ⟨by repeat (first | (with_reducible first | exact HB.out | apply below_alloc | apply pw_below_drewN | apply below_drew1) | exact HB.out)⟩⟩
          case rest =>
            clear HC6
            try clear c1
            try clear p2
            try clear c3
            try clear c3b0
            try clear c3b1
            try clear c4
            try clear c4b0
            try clear c4b1
            try clear c5
            try clear c6
            try clear q8
            try clear c9
            try clear c9b0
            try clear c10
            try clear c10b0
            try clear q8
            obtain ⟨kq, x4_5, rfl, HA, HJ5, HO_0, HO_3, HB⟩ := hcut
            cases kq with
            | zero => exact absurd HA.out (by simp [cobs_Encode.j1])
            | succ kj5 =>
              have H := HA.out
              clear HA
              simp only [cobs_Encode.j1] at H
              by_cases c11 : x3_1.length < 140737488355328
              · rw [if_pos c11] at H
                have LMc11 := Aside0.mk c11
                clear c11
                obtain ⟨y185, hy185⟩ : ∃ y_ : List Int, y_ = (x3_1 ++ [(wrap64 (x4_5 + 1)) % 256]) := ⟨_, rfl⟩
                replace H : (if 0 ≤ x4_5 then (if x4_5 ≤ (x0_1.length : Int) then ((some (x0_1.take (x4_5 : Int).toNat : List Int)).bind fun y188 => (if y185.length + y188.length < 140737488355328 then ((some (y185 ++ y188 : List Int)).bind fun y193 => ((some (x0_1.drop (x4_5 : Int).toNat : List Int)).bind fun y196 => (if (y196.length : Int) = 0 then (if y193.length < 140737488355328 then (some (y193 ++ [0])) else (none)) else (if x4_5 < 254 then (if 1 ≤ (y196.length : Int) then (cobs_Encode.l0 kj5 (y196.drop 1) y193) else (none)) else (cobs_Encode.l0 kj5 y196 y193))))) else (none))) else (none)) else (none)) = some r := by first | (rw [hy185]; with_reducible exact H) | (have H2_ := (Option.bind_some _ _).symm.trans H; rw [hy185]; with_reducible exact H2_) | (have H2_ := (Option.bind_some _ _).symm.trans H; with_reducible exact H2_) | with_reducible exact H | (rw [hy185]; exact H) | exact H
                have Ny185 := Aside0.mk hy185
                clear hy185
                by_cases c12 : 0 ≤ x4_5
                · rw [if_pos c12] at H
                  have c12b0 := eq_true c12
                  have c12b1 : decide (0 ≤ x4_5) = true := decide_eq_true c12
                  clear c12
                  by_cases c13 : x4_5 ≤ (x0_1.length : Int)
                  · rw [if_pos c13] at H
                    have c13b0 := eq_true c13
                    have c13b1 : decide (x4_5 ≤ (x0_1.length : Int)) = true := decide_eq_true c13
                    clear c13
                    obtain ⟨y188, hy188⟩ : ∃ y_ : List Int, y_ = (x0_1.take (x4_5 : Int).toNat) := ⟨_, rfl⟩
                    replace H : (if y185.length + y188.length < 140737488355328 then ((some (y185 ++ y188 : List Int)).bind fun y193 => ((some (x0_1.drop (x4_5 : Int).toNat : List Int)).bind fun y196 => (if (y196.length : Int) = 0 then (if y193.length < 140737488355328 then (some (y193 ++ [0])) else (none)) else (if x4_5 < 254 then (if 1 ≤ (y196.length : Int) then (cobs_Encode.l0 kj5 (y196.drop 1) y193) else (none)) else (cobs_Encode.l0 kj5 y196 y193))))) else (none)) = some r := by first | (rw [hy188]; with_reducible exact H) | (have H2_ := (Option.bind_some _ _).symm.trans H; rw [hy188]; with_reducible exact H2_) | (have H2_ := (Option.bind_some _ _).symm.trans H; with_reducible exact H2_) | with_reducible exact H | (rw [hy188]; exact H) | exact H
                    have Ny188 := Aside0.mk hy188
                    clear hy188
                    by_cases c14 : y185.length + y188.length < 140737488355328
                    · rw [if_pos c14] at H
                      have LMc14 := Aside0.mk c14
                      clear c14
                      obtain ⟨y193, hy193⟩ : ∃ y_ : List Int, y_ = (y185 ++ y188) := ⟨_, rfl⟩
                      replace H : ((some (x0_1.drop (x4_5 : Int).toNat : List Int)).bind fun y196 => (if (y196.length : Int) = 0 then (if y193.length < 140737488355328 then (some (y193 ++ [0])) else (none)) else (if x4_5 < 254 then (if 1 ≤ (y196.length : Int) then (cobs_Encode.l0 kj5 (y196.drop 1) y193) else (none)) else (cobs_Encode.l0 kj5 y196 y193)))) = some r := by first | (rw [hy193]; with_reducible exact H) | (have H2_ := (Option.bind_some _ _).symm.trans H; rw [hy193]; with_reducible exact H2_) | (have H2_ := (Option.bind_some _ _).symm.trans H; with_reducible exact H2_) | with_reducible exact H | (rw [hy193]; exact H) | exact H
                      have Ny193 := Aside0.mk hy193
                      clear hy193
                      have c15b0 := eq_true (of_decide_eq_true (by first | (with_reducible assumption) | assumption) : 0 ≤ x4_5)
                      have c16b0 := eq_true (of_decide_eq_true (by first | (with_reducible assumption) | assumption) : x4_5 ≤ (x0_1.length : Int))
                      obtain ⟨y196, hy196⟩ : ∃ y_ : List Int, y_ = (x0_1.drop (x4_5 : Int).toNat) := ⟨_, rfl⟩
                      replace H : (if (y196.length : Int) = 0 then (if y193.length < 140737488355328 then (some (y193 ++ [0])) else (none)) else (if x4_5 < 254 then (if 1 ≤ (y196.length : Int) then (cobs_Encode.l0 kj5 (y196.drop 1) y193) else (none)) else (cobs_Encode.l0 kj5 y196 y193))) = some r := by first | (rw [hy196]; with_reducible exact H) | (have H2_ := (Option.bind_some _ _).symm.trans H; rw [hy196]; with_reducible exact H2_) | (have H2_ := (Option.bind_some _ _).symm.trans H; with_reducible exact H2_) | with_reducible exact H | (rw [hy196]; exact H) | exact H
                      have Ny196 := Aside0.mk hy196
                      clear hy196
                      by_cases c17 : (y196.length : Int) = 0
                      · rw [if_pos c17] at H
                        have c17b0 : ((y196.length : Int) == 0) = true := beq_iff_eq.mpr c17
                        have c17b1 : ((y196.length : Int) != 0) = false := bne_eq_false_iff_eq.mpr c17
                        clear c17
                        by_cases c18 : y193.length < 140737488355328
                        · rw [if_pos c18] at H
                          have LMc18 := Aside0.mk c18
                          clear c18
                          obtain ⟨y201, hy201⟩ : ∃ y_ : List Int, y_ = (y193 ++ [0]) := ⟨_, rfl⟩
                          replace H : (some y201) = some r := by first | (rw [hy201]; with_reducible exact H) | (have H2_ := (Option.bind_some _ _).symm.trans H; rw [hy201]; with_reducible exact H2_) | (have H2_ := (Option.bind_some _ _).symm.trans H; with_reducible exact H2_) | with_reducible exact H | (rw [hy201]; exact H) | exact H
                          have Ny201 := Aside0.mk hy201
                          clear hy201
                          obtain rfl := Option.some.inj H
                          go_wp2_with (first | ((with_reducible refine gate_builtin (b := .append) (xs := #[.tmp 16, .tmp 20]) rfl ?_); at_builtin; refine Kd.R_append (Kd.int .u8) (w0 := w) w.heap.size rfl (.tmp 16) (.tmp 20) 24 5 (.int .u8 0) 1 rfl Tryd.underlying24 info5 rfl (by decide) (by omega) u3 x3_1 ((wrap64 (x4_5 + 1)) % 256) [.int .u8 ((wrap64 (x4_5 + 1)) % 256)] (fun k_ => (w.heap.size ≤ k_)) (fun _ => False) rfl rfl ?aP (fun _ hk => hk.elim) ?aF ?aO ?aB ?aS ?aL ?_; (case aP => exact rfl); (case aB => exact (by repeat (first | (with_reducible first | exact HB.out | apply below_alloc | apply pw_below_drewN | apply below_drew1) | exact HB.out))); (case aF => exact (fun k_ hk => (Nat.le_trans (below_size (by repeat (first | (with_reducible first | exact HB.out | apply below_alloc | apply pw_below_drewN | apply below_drew1) | exact HB.out))) hk))); (case aO => exact (by (with_reducible repeat (first | apply Kd.R_alloc | apply Kd.R_drewN | apply Kd.R_drew)); exact HO_3.out)); (case aS => exact (below_size (by repeat (first | (with_reducible first | exact HB.out | apply below_alloc | apply pw_below_drewN | apply below_drew1) | exact HB.out)))); (case aL => have := LMc11.out; omega); intro v186 w19 ho hb hg hat; rw [← Ny185.out] at ho; have n0_ := Aside0.mk (Kd.V_afterv (ok := (fun k_ => (P0_ k_ ∨ w.heap.size ≤ k_))) (by (with_reducible repeat (first | apply Kd.V_alloc | apply Kd.V_drewN | apply Kd.V_drew)); exact HO_0.out) hg hat); have n1_ := Aside0.mk (hb); have n2_ := Aside0.mk (ho); clear HO_0; clear HB; clear HO_3; have HO_0 := n0_; have HB := n1_; have HO187 := n2_; clear n0_ n1_ n2_; clear ho hb hg hat; have q20 : (x4_5 : Int) ≤ ((x0_1.length : Int) : Int) := of_decide_eq_true (by first | (with_reducible assumption) | assumption); obtain ⟨i020, hi020, _, hsz20, _⟩ := info_parts info5; have hroom20 : x0_1.length ≤ co7 := (Kd.V_reads' HO_0.out).2.1; have hC20 : Kd.F (Kd.int .u8) _ _ Ao7 x0_1.length x0_1 := (Kd.V_at (base := w.heap.size) HO_0.out).2.2; have hcut20 := cut_to (P := Tryd.prog) 24 5 .i64 Tryd.underlying24 hi020 Ao7 x0_1.length co7 x4_5 (of_decide_eq_true (by first | (with_reducible assumption) | assumption)) q20 hroom20; have hr20 := Kd.F_take (m := (x4_5 : Int).toNat) hC20 (by omega); have hy20 : y188.length = (x4_5 : Int).toNat := (by rw [Ny188.out, List.length_take]; omega); rw [← Ny188.out] at hr20; rw [← hy20] at hcut20; have HO192 := Aside0.mk (show Kd.V (Kd.int .u8) 5 _ w.heap.size _ (.slice Ao7 y188.length co7) y188 from Kd.V_mk (by omega) hr20); have HC192 := Aside0.mk (show y188.length ≤ co7 from by omega); clear hr20 hC20 hroom20 hi020 hsz20; have KY20 := Aside0.mk hy20; clear hy20; replace q20 := eq_true q20) | ((with_reducible refine gate_builtin (b := .append) (xs := #[.tmp 22, .tmp 25]) rfl ?_); at_builtin; refine Kd.R_append_rows (Kd.int .u8) (w0 := w) w.heap.size rfl (.tmp 22) (.tmp 25) 24 5 (.int .u8 0) 1 rfl Tryd.underlying24 info5 rfl (by decide) (by omega) v186 y185 y188 _ _ _ (fun k_ => (w.heap.size ≤ k_)) (fun _ => False) rfl rfl ?aO ?aR (fun _ _ h => h) (fun _ h => h.elim) ?aF ?aB ?aS ?aL ?_; (case aR => repeat (first | exact (Kd.V_reads' HO192.out).2.2 | (with_reducible refine Kd.C_alloc ?_ _) | (with_reducible refine Kd.C_drewN ?_ _) | (with_reducible refine Kd.C_drew ?_))); (case aB => exact (by repeat (first | (with_reducible first | exact HB.out | apply below_alloc | apply pw_below_drewN | apply below_drew1) | exact HB.out))); (case aF => exact (fun k_ hk => (Nat.le_trans (below_size (by repeat (first | (with_reducible first | exact HB.out | apply below_alloc | apply pw_below_drewN | apply below_drew1) | exact HB.out))) hk))); (case aO => exact (by (with_reducible repeat (first | apply Kd.R_alloc | apply Kd.R_drewN | apply Kd.R_drew)); exact HO187.out)); (case aS => exact (below_size (by repeat (first | (with_reducible first | exact HB.out | apply below_alloc | apply pw_below_drewN | apply below_drew1) | exact HB.out)))); (case aL => have := LMc14.out; omega); intro v194 w21 ho hb hg hat; rw [← Ny193.out] at ho; have n0_ := Aside0.mk (Kd.V_afterv (ok := (fun k_ => (P0_ k_ ∨ w.heap.size ≤ k_))) (by (with_reducible repeat (first | apply Kd.V_alloc | apply Kd.V_drewN | apply Kd.V_drew)); exact HO_0.out) hg hat); have n1_ := Aside0.mk (Kd.V_afterv (ok := (fun k_ => (P0_ k_ ∨ w.heap.size ≤ k_))) (by (with_reducible repeat (first | apply Kd.V_alloc | apply Kd.V_drewN | apply Kd.V_drew)); exact HO192.out) hg hat); have n2_ := Aside0.mk (hb); have n3_ := Aside0.mk (ho); clear HO_0; clear HO192; clear HB; clear HO187; have HO_0 := n0_; have HO192 := n1_; have HB := n2_; have HO195 := n3_; clear n0_ n1_ n2_ n3_; clear ho hb hg hat; have q22 : (x4_5 : Int) ≤ ((x0_1.length : Int) : Int) := of_decide_eq_true (by first | (with_reducible assumption) | assumption); obtain ⟨i022, hi022, _, hsz22, _⟩ := info_parts info5; have hroom22 : x0_1.length ≤ co7 := (Kd.V_reads' HO_0.out).2.1; have hC22 : Kd.F (Kd.int .u8) _ _ Ao7 x0_1.length x0_1 := (Kd.V_at (base := w.heap.size) HO_0.out).2.2; have q022 : (0 : Int) ≤ (x4_5 : Int) := of_decide_eq_true (by first | (with_reducible assumption) | assumption); have hcut22 := cut_from (P := Tryd.prog) 24 5 .i64 Tryd.underlying24 hi022 1 hsz22 Ao7 x0_1.length co7 x4_5 q022 q22; have hr22 := Kd.F_cut (m := (x4_5 : Int).toNat) (c := co7) hC22 (by omega) hroom22; obtain ⟨A22, hA22⟩ : ∃ A1, A1 = (if co7 = (x4_5 : Int).toNat then Ao7 else (Ao7 : Option Addr).map (·.add ((x4_5 : Int).toNat * 1))) := ⟨_, rfl⟩; obtain ⟨c22, hc22⟩ : ∃ c1, c1 = co7 - (x4_5 : Int).toNat := ⟨_, rfl⟩; have hy22 : y196.length = x0_1.length - (x4_5 : Int).toNat := (by rw [Ny196.out, List.length_drop] <;> omega); rw [show (x0_1).drop (x4_5 : Int).toNat = y196 from Ny196.out.symm] at hr22; replace hr22 : Kd.F (Kd.int .u8) _ _ A22 y196.length y196 := (by rw [hA22]; exact hr22); rw [← hy22, ← hA22, ← hc22] at hcut22; have HO200 := Aside0.mk (show Kd.V (Kd.int .u8) 5 _ w.heap.size _ (.slice A22 y196.length c22) y196 from Kd.V_mk (by rw [hy22, hc22]; exact Nat.sub_le_sub_right hroom22 _) hr22); have HC200 := Aside0.mk (show y196.length ≤ c22 from by rw [hy22, hc22]; exact Nat.sub_le_sub_right hroom22 _); clear hr22 hC22 hroom22 hi022 hsz22 hc22; have KY22 := Aside0.mk hy22; have KA22 := Aside0.mk hA22; clear hy22 hA22; replace q22 := eq_true q22) | ((with_reducible refine gate_builtin (b := .append) (xs := #[.tmp 33, .tmp 34]) rfl ?_); at_builtin; refine Kd.R_append (Kd.int .u8) (w0 := w) w.heap.size rfl (.tmp 33) (.tmp 34) 24 5 (.int .u8 0) 1 rfl Tryd.underlying24 info5 rfl (by decide) (by omega) v194 y193 0 [.int .u8 0] (fun k_ => (w.heap.size ≤ k_)) (fun _ => False) rfl rfl ?aP (fun _ hk => hk.elim) ?aF ?aO ?aB ?aS ?aL ?_; (case aP => exact rfl); (case aB => exact (by repeat (first | (with_reducible first | exact HB.out | apply below_alloc | apply pw_below_drewN | apply below_drew1) | exact HB.out))); (case aF => exact (fun k_ hk => (Nat.le_trans (below_size (by repeat (first | (with_reducible first | exact HB.out | apply below_alloc | apply pw_below_drewN | apply below_drew1) | exact HB.out))) hk))); (case aO => exact (by (with_reducible repeat (first | apply Kd.R_alloc | apply Kd.R_drewN | apply Kd.R_drew)); exact HO195.out)); (case aS => exact (below_size (by repeat (first | (with_reducible first | exact HB.out | apply below_alloc | apply pw_below_drewN | apply below_drew1) | exact HB.out)))); (case aL => have := LMc18.out; omega); intro v202 w23 ho hb hg hat; rw [← Ny201.out] at ho; have n0_ := Aside0.mk (Kd.V_afterv (ok := (fun k_ => (P0_ k_ ∨ w.heap.size ≤ k_))) (by (with_reducible repeat (first | apply Kd.V_alloc | apply Kd.V_drewN | apply Kd.V_drew)); exact HO_0.out) hg hat); have n1_ := Aside0.mk (Kd.V_afterv (ok := (fun k_ => (P0_ k_ ∨ w.heap.size ≤ k_))) (by (with_reducible repeat (first | apply Kd.V_alloc | apply Kd.V_drewN | apply Kd.V_drew)); exact HO192.out) hg hat); have n2_ := Aside0.mk (Kd.V_afterv (ok := (fun k_ => (P0_ k_ ∨ w.heap.size ≤ k_))) (by (with_reducible repeat (first | apply Kd.V_alloc | apply Kd.V_drewN | apply Kd.V_drew)); exact HO200.out) hg hat); have n3_ := Aside0.mk (hb); have n4_ := Aside0.mk (ho); clear HO_0; clear HO192; clear HO200; clear HB; clear HO195; have HO_0 := n0_; have HO192 := n1_; have HO200 := n2_; have HB := n3_; have HO203 := n4_; clear n0_ n1_ n2_ n3_ n4_; clear ho hb hg hat))
                          go_ret
                          exact ⟨_, by first | rfl | (simp [errW_none, errW_some] <;> rfl) | (simp only [← hji2]; first | rfl | (simp [errW_none, errW_some] <;> rfl)) | (simp [*, errW_none, errW_some] <;> rfl), by (with_reducible repeat (first | apply Kd.R_alloc | apply Kd.R_drewN | apply Kd.R_drew)); exact HO203.out, by repeat (first | (with_reducible first | exact HB.out | apply below_alloc | apply pw_below_drewN | apply below_drew1) | exact HB.out)⟩
                        · rw [if_neg c18] at H
                          exact absurd H (by simp)
                      · rw [if_neg c17] at H
                        have c17b0 : ((y196.length : Int) == 0) = false := beq_eq_false_iff_ne.mpr c17
                        have c17b1 : ((y196.length : Int) != 0) = true := bne_iff_ne.mpr c17
                        have c17b2 : ¬ (y196 = []) := fun h_ => c17 (by rw [h_]; rfl)
                        by_cases c24 : x4_5 < 254
                        · rw [if_pos c24] at H
                          have c24b0 : decide (x4_5 < 254) = true := decide_eq_true c24
                          clear c24
                          by_cases c25 : 1 ≤ (y196.length : Int)
                          · rw [if_pos c25] at H
                            have c25b0 := eq_true c25
                            have c25b1 : decide (1 ≤ (y196.length : Int)) = true := decide_eq_true c25
                            clear c25
                            obtain ⟨y204, hy204⟩ : ∃ y_ : List Int, y_ = (y196.drop 1) := ⟨_, rfl⟩
                            replace H : (cobs_Encode.l0 kj5 y204 y193) = some r := by first | (rw [hy204]; with_reducible exact H) | (have H2_ := (Option.bind_some _ _).symm.trans H; rw [hy204]; with_reducible exact H2_) | (have H2_ := (Option.bind_some _ _).symm.trans H; with_reducible exact H2_) | with_reducible exact H | (rw [hy204]; exact H) | exact H
                            have Ny204 := Aside0.mk hy204
                            clear hy204
                            have H' := Aside0.mk H
                            clear H
                            go_wp2_with (first | ((with_reducible refine gate_builtin (b := .append) (xs := #[.tmp 16, .tmp 20]) rfl ?_); at_builtin; refine Kd.R_append (Kd.int .u8) (w0 := w) w.heap.size rfl (.tmp 16) (.tmp 20) 24 5 (.int .u8 0) 1 rfl Tryd.underlying24 info5 rfl (by decide) (by omega) u3 x3_1 ((wrap64 (x4_5 + 1)) % 256) [.int .u8 ((wrap64 (x4_5 + 1)) % 256)] (fun k_ => (w.heap.size ≤ k_)) (fun _ => False) rfl rfl ?aP (fun _ hk => hk.elim) ?aF ?aO ?aB ?aS ?aL ?_; (case aP => exact rfl); (case aB => exact (by repeat (first | (with_reducible first | exact HB.out | apply below_alloc | apply pw_below_drewN | apply below_drew1) | exact HB.out))); (case aF => exact (fun k_ hk => (Nat.le_trans (below_size (by repeat (first | (with_reducible first | exact HB.out | apply below_alloc | apply pw_below_drewN | apply below_drew1) | exact HB.out))) hk))); (case aO => exact (by (with_reducible repeat (first | apply Kd.R_alloc | apply Kd.R_drewN | apply Kd.R_drew)); exact HO_3.out)); (case aS => exact (below_size (by repeat (first | (with_reducible first | exact HB.out | apply below_alloc | apply pw_below_drewN | apply below_drew1) | exact HB.out)))); (case aL => have := LMc11.out; omega); intro v186 w26 ho hb hg hat; rw [← Ny185.out] at ho; have n0_ := Aside0.mk (Kd.V_afterv (ok := (fun k_ => (P0_ k_ ∨ w.heap.size ≤ k_))) (by (with_reducible repeat (first | apply Kd.V_alloc | apply Kd.V_drewN | apply Kd.V_drew)); exact HO_0.out) hg hat); have n1_ := Aside0.mk (hb); have n2_ := Aside0.mk (ho); clear HO_0; clear HB; clear HO_3; have HO_0 := n0_; have HB := n1_; have HO187 := n2_; clear n0_ n1_ n2_; clear ho hb hg hat; have q27 : (x4_5 : Int) ≤ ((x0_1.length : Int) : Int) := of_decide_eq_true (by first | (with_reducible assumption) | assumption); obtain ⟨i027, hi027, _, hsz27, _⟩ := info_parts info5; have hroom27 : x0_1.length ≤ co7 := (Kd.V_reads' HO_0.out).2.1; have hC27 : Kd.F (Kd.int .u8) _ _ Ao7 x0_1.length x0_1 := (Kd.V_at (base := w.heap.size) HO_0.out).2.2; have hcut27 := cut_to (P := Tryd.prog) 24 5 .i64 Tryd.underlying24 hi027 Ao7 x0_1.length co7 x4_5 (of_decide_eq_true (by first | (with_reducible assumption) | assumption)) q27 hroom27; have hr27 := Kd.F_take (m := (x4_5 : Int).toNat) hC27 (by omega); have hy27 : y188.length = (x4_5 : Int).toNat := (by rw [Ny188.out, List.length_take]; omega); rw [← Ny188.out] at hr27; rw [← hy27] at hcut27; have HO192 := Aside0.mk (show Kd.V (Kd.int .u8) 5 _ w.heap.size _ (.slice Ao7 y188.length co7) y188 from Kd.V_mk (by omega) hr27); have HC192 := Aside0.mk (show y188.length ≤ co7 from by omega); clear hr27 hC27 hroom27 hi027 hsz27; have KY27 := Aside0.mk hy27; clear hy27; replace q27 := eq_true q27) | ((with_reducible refine gate_builtin (b := .append) (xs := #[.tmp 22, .tmp 25]) rfl ?_); at_builtin; refine Kd.R_append_rows (Kd.int .u8) (w0 := w) w.heap.size rfl (.tmp 22) (.tmp 25) 24 5 (.int .u8 0) 1 rfl Tryd.underlying24 info5 rfl (by decide) (by omega) v186 y185 y188 _ _ _ (fun k_ => (w.heap.size ≤ k_)) (fun _ => False) rfl rfl ?aO ?aR (fun _ _ h => h) (fun _ h => h.elim) ?aF ?aB ?aS ?aL ?_; (case aR => repeat (first | exact (Kd.V_reads' HO192.out).2.2 | (with_reducible refine Kd.C_alloc ?_ _) | (with_reducible refine Kd.C_drewN ?_ _) | (with_reducible refine Kd.C_drew ?_))); (case aB => exact (by repeat (first | (with_reducible first | exact HB.out | apply below_alloc | apply pw_below_drewN | apply below_drew1) | exact HB.out))); (case aF => exact (fun k_ hk => (Nat.le_trans (below_size (by repeat (first | (with_reducible first | exact HB.out | apply below_alloc | apply pw_below_drewN | apply below_drew1) | exact HB.out))) hk))); (case aO => exact (by (with_reducible repeat (first | apply Kd.R_alloc | apply Kd.R_drewN | apply Kd.R_drew)); exact HO187.out)); (case aS => exact (below_size (by repeat (first | (with_reducible first | exact HB.out | apply below_alloc | apply pw_below_drewN | apply below_drew1) | exact HB.out)))); (case aL => have := LMc14.out; omega); intro v194 w28 ho hb hg hat; rw [← Ny193.out] at ho; have n0_ := Aside0.mk (Kd.V_afterv (ok := (fun k_ => (P0_ k_ ∨ w.heap.size ≤ k_))) (by (with_reducible repeat (first | apply Kd.V_alloc | apply Kd.V_drewN | apply Kd.V_drew)); exact HO_0.out) hg hat); have n1_ := Aside0.mk (Kd.V_afterv (ok := (fun k_ => (P0_ k_ ∨ w.heap.size ≤ k_))) (by (with_reducible repeat (first | apply Kd.V_alloc | apply Kd.V_drewN | apply Kd.V_drew)); exact HO192.out) hg hat); have n2_ := Aside0.mk (hb); have n3_ := Aside0.mk (ho); clear HO_0; clear HO192; clear HB; clear HO187; have HO_0 := n0_; have HO192 := n1_; have HB := n2_; have HO195 := n3_; clear n0_ n1_ n2_ n3_; clear ho hb hg hat; have q29 : (x4_5 : Int) ≤ ((x0_1.length : Int) : Int) := of_decide_eq_true (by first | (with_reducible assumption) | assumption); obtain ⟨i029, hi029, _, hsz29, _⟩ := info_parts info5; have hroom29 : x0_1.length ≤ co7 := (Kd.V_reads' HO_0.out).2.1; have hC29 : Kd.F (Kd.int .u8) _ _ Ao7 x0_1.length x0_1 := (Kd.V_at (base := w.heap.size) HO_0.out).2.2; have q029 : (0 : Int) ≤ (x4_5 : Int) := of_decide_eq_true (by first | (with_reducible assumption) | assumption); have hcut29 := cut_from (P := Tryd.prog) 24 5 .i64 Tryd.underlying24 hi029 1 hsz29 Ao7 x0_1.length co7 x4_5 q029 q29; have hr29 := Kd.F_cut (m := (x4_5 : Int).toNat) (c := co7) hC29 (by omega) hroom29; obtain ⟨A29, hA29⟩ : ∃ A1, A1 = (if co7 = (x4_5 : Int).toNat then Ao7 else (Ao7 : Option Addr).map (·.add ((x4_5 : Int).toNat * 1))) := ⟨_, rfl⟩; obtain ⟨c29, hc29⟩ : ∃ c1, c1 = co7 - (x4_5 : Int).toNat := ⟨_, rfl⟩; have hy29 : y196.length = x0_1.length - (x4_5 : Int).toNat := (by rw [Ny196.out, List.length_drop] <;> omega); rw [show (x0_1).drop (x4_5 : Int).toNat = y196 from Ny196.out.symm] at hr29; replace hr29 : Kd.F (Kd.int .u8) _ _ A29 y196.length y196 := (by rw [hA29]; exact hr29); rw [← hy29, ← hA29, ← hc29] at hcut29; have HO200 := Aside0.mk (show Kd.V (Kd.int .u8) 5 _ w.heap.size _ (.slice A29 y196.length c29) y196 from Kd.V_mk (by rw [hy29, hc29]; exact Nat.sub_le_sub_right hroom29 _) hr29); have HC200 := Aside0.mk (show y196.length ≤ c29 from by rw [hy29, hc29]; exact Nat.sub_le_sub_right hroom29 _); clear hr29 hC29 hroom29 hi029 hsz29 hc29; have KY29 := Aside0.mk hy29; have KA29 := Aside0.mk hA29; clear hy29 hA29; replace q29 := eq_true q29; have q30 : (1 : Int) ≤ ((y196.length : Int) : Int) := of_decide_eq_true (by first | (with_reducible assumption) | assumption); obtain ⟨i030, hi030, _, hsz30, _⟩ := info_parts info5; have hroom30 : y196.length ≤ c29 := (Kd.V_reads' HO200.out).2.1; have hC30 : Kd.F (Kd.int .u8) _ _ A29 y196.length y196 := (Kd.V_at (base := w.heap.size) HO200.out).2.2; have hcut30 := cut_from (P := Tryd.prog) 24 5 .i64 Tryd.underlying24 hi030 1 hsz30 A29 y196.length c29 1 (by omega) q30; have hr30 := Kd.F_cut (m := (1 : Int).toNat) (c := c29) hC30 (by omega) hroom30; obtain ⟨A30, hA30⟩ : ∃ A1, A1 = (if c29 = (1 : Int).toNat then A29 else (A29 : Option Addr).map (·.add ((1 : Int).toNat * 1))) := ⟨_, rfl⟩; obtain ⟨c30, hc30⟩ : ∃ c1, c1 = c29 - (1 : Int).toNat := ⟨_, rfl⟩; have hy30 : y204.length = y196.length - (1 : Int).toNat := (by rw [Ny204.out, List.length_drop] <;> omega); rw [show (y196).drop (1 : Int).toNat = y204 from Ny204.out.symm] at hr30; replace hr30 : Kd.F (Kd.int .u8) _ _ A30 y204.length y204 := (by rw [hA30]; exact hr30); rw [← hy30, ← hA30, ← hc30] at hcut30; have HO208 := Aside0.mk (show Kd.V (Kd.int .u8) 5 _ w.heap.size _ (.slice A30 y204.length c30) y204 from Kd.V_mk (by rw [hy30, hc30]; exact Nat.sub_le_sub_right hroom30 _) hr30); have HC208 := Aside0.mk (show y204.length ≤ c30 from by rw [hy30, hc30]; exact Nat.sub_le_sub_right hroom30 _); clear hr30 hC30 hroom30 hi030 hsz30 hc30; have KY30 := Aside0.mk hy30; have KA30 := Aside0.mk hA30; clear hy30 hA30; replace q30 := eq_true q30))
                            go_roundg kj5
                            case measure => have := HK1.out; have := HJ5.out; omega
                            case rel => exact ⟨(y204), (y193), H', ⟨by have := HK1.out; have := HJ5.out; omega⟩, ⟨by (with_reducible repeat (first | apply Kd.V_alloc | apply Kd.V_drewN | apply Kd.V_drew)); exact HO208.out⟩, ⟨by (with_reducible repeat (first | apply Kd.R_alloc | apply Kd.R_drewN | apply Kd.R_drew)); exact HO195.out⟩, ⟨by repeat (first | (with_reducible first | exact HB.out | apply below_alloc | apply pw_below_drewN | apply below_drew1) | exact HB.out)⟩⟩
                          · rw [if_neg c25] at H
                            exact absurd H (by simp)
                        · rw [if_neg c24] at H
                          have c24b0 : decide (x4_5 < 254) = false := decide_eq_false c24
                          clear c24
                          have H' := Aside0.mk H
                          clear H
                          go_wp2_with (first | ((with_reducible refine gate_builtin (b := .append) (xs := #[.tmp 16, .tmp 20]) rfl ?_); at_builtin; refine Kd.R_append (Kd.int .u8) (w0 := w) w.heap.size rfl (.tmp 16) (.tmp 20) 24 5 (.int .u8 0) 1 rfl Tryd.underlying24 info5 rfl (by decide) (by omega) u3 x3_1 ((wrap64 (x4_5 + 1)) % 256) [.int .u8 ((wrap64 (x4_5 + 1)) % 256)] (fun k_ => (w.heap.size ≤ k_)) (fun _ => False) rfl rfl ?aP (fun _ hk => hk.elim) ?aF ?aO ?aB ?aS ?aL ?_; (case aP => exact rfl); (case aB => exact (by repeat (first | (with_reducible first | exact HB.out | apply below_alloc | apply pw_below_drewN | apply below_drew1) | exact HB.out))); (case aF => exact (fun k_ hk => (Nat.le_trans (below_size (by repeat (first | (with_reducible first | exact HB.out | apply below_alloc | apply pw_below_drewN | apply below_drew1) | exact HB.out))) hk))); (case aO => exact (by (with_reducible repeat (first | apply Kd.R_alloc | apply Kd.R_drewN | apply Kd.R_drew)); exact HO_3.out)); (case aS => exact (below_size (by repeat (first | (with_reducible first | exact HB.out | apply below_alloc | apply pw_below_drewN | apply below_drew1) | exact HB.out)))); (case aL => have := LMc11.out; omega); intro v186 w31 ho hb hg hat; rw [← Ny185.out] at ho; have n0_ := Aside0.mk (Kd.V_afterv (ok := (fun k_ => (P0_ k_ ∨ w.heap.size ≤ k_))) (by (with_reducible repeat (first | apply Kd.V_alloc | apply Kd.V_drewN | apply Kd.V_drew)); exact HO_0.out) hg hat); have n1_ := Aside0.mk (hb); have n2_ := Aside0.mk (ho); clear HO_0; clear HB; clear HO_3; have HO_0 := n0_; have HB := n1_; have HO187 := n2_; clear n0_ n1_ n2_; clear ho hb hg hat; have q32 : (x4_5 : Int) ≤ ((x0_1.length : Int) : Int) := of_decide_eq_true (by first | (with_reducible assumption) | assumption); obtain ⟨i032, hi032, _, hsz32, _⟩ := info_parts info5; have hroom32 : x0_1.length ≤ co7 := (Kd.V_reads' HO_0.out).2.1; have hC32 : Kd.F (Kd.int .u8) _ _ Ao7 x0_1.length x0_1 := (Kd.V_at (base := w.heap.size) HO_0.out).2.2; have hcut32 := cut_to (P := Tryd.prog) 24 5 .i64 Tryd.underlying24 hi032 Ao7 x0_1.length co7 x4_5 (of_decide_eq_true (by first | (with_reducible assumption) | assumption)) q32 hroom32; have hr32 := Kd.F_take (m := (x4_5 : Int).toNat) hC32 (by omega); have hy32 : y188.length = (x4_5 : Int).toNat := (by rw [Ny188.out, List.length_take]; omega); rw [← Ny188.out] at hr32; rw [← hy32] at hcut32; have HO192 := Aside0.mk (show Kd.V (Kd.int .u8) 5 _ w.heap.size _ (.slice Ao7 y188.length co7) y188 from Kd.V_mk (by omega) hr32); have HC192 := Aside0.mk (show y188.length ≤ co7 from by omega); clear hr32 hC32 hroom32 hi032 hsz32; have KY32 := Aside0.mk hy32; clear hy32; replace q32 := eq_true q32) | ((with_reducible refine gate_builtin (b := .append) (xs := #[.tmp 22, .tmp 25]) rfl ?_); at_builtin; refine Kd.R_append_rows (Kd.int .u8) (w0 := w) w.heap.size rfl (.tmp 22) (.tmp 25) 24 5 (.int .u8 0) 1 rfl Tryd.underlying24 info5 rfl (by decide) (by omega) v186 y185 y188 _ _ _ (fun k_ => (w.heap.size ≤ k_)) (fun _ => False) rfl rfl ?aO ?aR (fun _ _ h => h) (fun _ h => h.elim) ?aF ?aB ?aS ?aL ?_; (case aR => repeat (first | exact (Kd.V_reads' HO192.out).2.2 | (with_reducible refine Kd.C_alloc ?_ _) | (with_reducible refine Kd.C_drewN ?_ _) | (with_reducible refine Kd.C_drew ?_))); (case aB => exact (by repeat (first | (with_reducible first | exact HB.out | apply below_alloc | apply pw_below_drewN | apply below_drew1) | exact HB.out))); (case aF => exact (fun k_ hk => (Nat.le_trans (below_size (by repeat (first | (with_reducible first | exact HB.out | apply below_alloc | apply pw_below_drewN | apply below_drew1) | exact HB.out))) hk))); (case aO => exact (by (with_reducible repeat (first | apply Kd.R_alloc | apply Kd.R_drewN | apply Kd.R_drew)); exact HO187.out)); (case aS => exact (below_size (by repeat (first | (with_reducible first | exact HB.out | apply below_alloc | apply pw_below_drewN | apply below_drew1) | exact HB.out)))); (case aL => have := LMc14.out; omega); intro v194 w33 ho hb hg hat; rw [← Ny193.out] at ho; have n0_ := Aside0.mk (Kd.V_afterv (ok := (fun k_ => (P0_ k_ ∨ w.heap.size ≤ k_))) (by (with_reducible repeat (first | apply Kd.V_alloc | apply Kd.V_drewN | apply Kd.V_drew)); exact HO_0.out) hg hat); have n1_ := Aside0.mk (Kd.V_afterv (ok := (fun k_ => (P0_ k_ ∨ w.heap.size ≤ k_))) (by (with_reducible repeat (first | apply Kd.V_alloc | apply Kd.V_drewN | apply Kd.V_drew)); exact HO192.out) hg hat); have n2_ := Aside0.mk (hb); have n3_ := Aside0.mk (ho); clear HO_0; clear HO192; clear HB; clear HO187; have HO_0 := n0_; have HO192 := n1_; have HB := n2_; have HO195 := n3_; clear n0_ n1_ n2_ n3_; clear ho hb hg hat; have q34 : (x4_5 : Int) ≤ ((x0_1.length : Int) : Int) := of_decide_eq_true (by first | (with_reducible assumption) | assumption); obtain ⟨i034, hi034, _, hsz34, _⟩ := info_parts info5; have hroom34 : x0_1.length ≤ co7 := (Kd.V_reads' HO_0.out).2.1; have hC34 : Kd.F (Kd.int .u8) _ _ Ao7 x0_1.length x0_1 := (Kd.V_at (base := w.heap.size) HO_0.out).2.2; have q034 : (0 : Int) ≤ (x4_5 : Int) := of_decide_eq_true (by first | (with_reducible assumption) | assumption); have hcut34 := cut_from (P := Tryd.prog) 24 5 .i64 Tryd.underlying24 hi034 1 hsz34 Ao7 x0_1.length co7 x4_5 q034 q34; have hr34 := Kd.F_cut (m := (x4_5 : Int).toNat) (c := co7) hC34 (by omega) hroom34; obtain ⟨A34, hA34⟩ : ∃ A1, A1 = (if co7 = (x4_5 : Int).toNat then Ao7 else (Ao7 : Option Addr).map (·.add ((x4_5 : Int).toNat * 1))) := ⟨_, rfl⟩; obtain ⟨c34, hc34⟩ : ∃ c1, c1 = co7 - (x4_5 : Int).toNat := ⟨_, rfl⟩; have hy34 : y196.length = x0_1.length - (x4_5 : Int).toNat := (by rw [Ny196.out, List.length_drop] <;> omega); rw [show (x0_1).drop (x4_5 : Int).toNat = y196 from Ny196.out.symm] at hr34; replace hr34 : Kd.F (Kd.int .u8) _ _ A34 y196.length y196 := (by rw [hA34]; exact hr34); rw [← hy34, ← hA34, ← hc34] at hcut34; have HO200 := Aside0.mk (show Kd.V (Kd.int .u8) 5 _ w.heap.size _ (.slice A34 y196.length c34) y196 from Kd.V_mk (by rw [hy34, hc34]; exact Nat.sub_le_sub_right hroom34 _) hr34); have HC200 := Aside0.mk (show y196.length ≤ c34 from by rw [hy34, hc34]; exact Nat.sub_le_sub_right hroom34 _); clear hr34 hC34 hroom34 hi034 hsz34 hc34; have KY34 := Aside0.mk hy34; have KA34 := Aside0.mk hA34; clear hy34 hA34; replace q34 := eq_true q34))
                          go_roundg kj5
                          case measure => have := HK1.out; have := HJ5.out; omega
                          case rel => exact ⟨(y196), (y193), H', ⟨by have := HK1.out; have := HJ5.out; omega⟩, ⟨by (with_reducible repeat (first | apply Kd.V_alloc | apply Kd.V_drewN | apply Kd.V_drew)); exact HO200.out⟩, ⟨by (with_reducible repeat (first | apply Kd.R_alloc | apply Kd.R_drewN | apply Kd.R_drew)); exact HO195.out⟩, ⟨by repeat (first | (with_reducible first | exact HB.out | apply below_alloc | apply pw_below_drewN | apply below_drew1) | exact HB.out)⟩⟩
                    · rw [if_neg c14] at H
                      exact absurd H (by simp)
                  · rw [if_neg c13] at H
                    exact absurd H (by simp)
                · rw [if_neg c12] at H
                  exact absurd H (by simp)
              · rw [if_neg c11] at H
                exact absurd H (by simp)
        · rw [if_neg c4] at H
          exact absurd H (by simp)
      · rw [if_neg c3] at H
        exact absurd H (by simp)

/-! ### frame_Stream: function 35 -/
def frame_Stream.l0 : Nat → List Int → List (List Int) → Int → Int → Option (List Int)
  | 0, _, _, _, _ => none
  | k + 1, x3, x6, x7, x8 => if x8 < x7 then (if 0 ≤ x8 then (if x8 < (x6.length : Int) then ((cobs_Encode.f k (rd_L1 x6 x8)).bind fun t210 => (if x3.length + t210.length < 140737488355328 then (frame_Stream.l0 k (x3 ++ t210) x6 x7 (wrap64 (x8 + 1))) else (none))) else (none)) else (none)) else (some x3)
def frame_Stream.f (k : Nat) (l0 : List (List Int)) : Option (List Int) := frame_Stream.l0 k ([] : List Int) l0 (l0.length : Int) 0
set_option maxHeartbeats 8000000 in
set_option maxRecDepth 100000 in
theorem frame_Stream.calls (k : Nat) (A0 : Option Addr) (c0 : Nat) (l0 : List (List Int)) (r : List Int) (w : World) (hr0 : Kd.C (Kd.slice 5 (Kd.int .u8)) w A0 l0.length l0) (hc0 : l0.length ≤ c0) (h : frame_Stream.f k l0 = some r) :
    Calls Tryd.prog 35 #[.slice A0 l0.length c0] w fun e w' => ∃ v0_ : Value, e = .returned (v0_) ∧ Kd.R (Kd.int .u8) 5 w' w.heap.size (fun _ => True) v0_ r ∧ Below w.heap.size w w' := by
  have HR0 := Aside0.mk hr0
  have HC0 := Aside0.mk hc0
  clear hr0 hc0
  have HB := Aside0.mk (Below.refl w.heap.size w)
  have H : (frame_Stream.l0 k ([] : List Int) l0 (l0.length : Int) 0) = some r := h
  clear h
  have H' := Aside0.mk H
  clear H
  go_enter Tryd.func35, Tryd.ntmps35
  go_wp2
  go_loopg [3, 8] k (fun kq v3 v8 w' => ∃ (x3_1 : List Int) (x8_1 : Int), v8 = .int .i64 x8_1 ∧ Aside0 (frame_Stream.l0 kq x3_1 l0 (l0.length : Int) x8_1 = some r) ∧ Aside0 (kq ≤ k) ∧ Aside0 (Kd.R (Kd.int .u8) 5 w' w.heap.size (fun _ => True) v3 x3_1) ∧ Aside0 (Below w.heap.size w w'))
  case atStart => exact ⟨(([] : List Int)), (0), (by first | rfl | (simp; done) | (simp [*]; done)), H', ⟨Nat.le_refl _⟩, ⟨by first | exact Kd.R_nil _ _ _ _ _ | exact Kd.N_nil _ _ _ _ _ | exact Kd.V_nil _ _ _ _ _ | exact Kd.Q_nil _ _ _ _ _ | exact Kd.S_nil _ _ _ _ _⟩, ⟨by repeat (first | (with_reducible first | exact HB.out | apply below_alloc | apply pw_below_drewN | apply below_drew1) | exact HB.out)⟩⟩
  case round =>
    clear H'
    obtain ⟨x3_1, x8_1, rfl, HA, HK1, HO_3, HB⟩ := hrel
    cases gk with
    | zero => exact absurd HA.out (by simp [frame_Stream.l0])
    | succ k1 =>
      have H := HA.out
      clear HA
      simp only [frame_Stream.l0] at H
      by_cases c2 : x8_1 < (l0.length : Int)
      · rw [if_pos c2] at H
        have c2b0 : decide (x8_1 < (l0.length : Int)) = true := decide_eq_true c2
        clear c2
        by_cases c3 : 0 ≤ x8_1
        · rw [if_pos c3] at H
          have c3b0 : decide (0 ≤ x8_1) = true := decide_eq_true c3
          clear c3
          by_cases c4 : x8_1 < (l0.length : Int)
          · rw [if_pos c4] at H
            have c4b0 : decide (x8_1 < (l0.length : Int)) = true := decide_eq_true c4
            clear c4
            replace H := Option.bind_eq_some_iff.mp H
            obtain ⟨t210, A50, H⟩ := H
            replace H : (if x3_1.length + t210.length < 140737488355328 then (frame_Stream.l0 k1 (x3_1 ++ t210) l0 (l0.length : Int) (wrap64 (x8_1 + 1))) else (none)) = some r := H
            have A5 := Aside0.mk A50
            clear A50
            by_cases c6 : x3_1.length + t210.length < 140737488355328
            · rw [if_pos c6] at H
              have LMc6 := Aside0.mk c6
              clear c6
              obtain ⟨y213, hy213⟩ : ∃ y_ : List Int, y_ = (x3_1 ++ t210) := ⟨_, rfl⟩
              replace H : (frame_Stream.l0 k1 y213 l0 (l0.length : Int) (wrap64 (x8_1 + 1))) = some r := by first | (rw [hy213]; with_reducible exact H) | (have H2_ := (Option.bind_some _ _).symm.trans H; rw [hy213]; with_reducible exact H2_) | (have H2_ := (Option.bind_some _ _).symm.trans H; with_reducible exact H2_) | with_reducible exact H | (rw [hy213]; exact H) | exact H
              have Ny213 := Aside0.mk hy213
              clear hy213
              have H' := Aside0.mk H
              clear H
              have p209 : 0 ≤ (x8_1 : Int) := of_decide_eq_true (by first | (with_reducible assumption) | assumption)
              have q209 : x8_1 < (l0.length : Int) := of_decide_eq_true (by first | (with_reducible assumption) | assumption)
              obtain ⟨ad209, A209_0, c209_0, e209, hx209_0, hl209_0, hi209_0⟩ := at_L1 HR0.out x8_1 p209 q209
              cases e209
              replace hx209_0 := (HB.out.cell (World.block_lt_of_cell? w _ hx209_0)).trans hx209_0
              have HR209_0 := Aside0.mk hi209_0
              have HC209_0 := Aside0.mk hl209_0
              clear hi209_0 hl209_0
              replace p209 := eq_true p209
              replace q209 := eq_true q209
              go_wp2_with (first | ((with_reducible refine gate_callee (f := 56) rfl ?_); refine goesL_ (some 14) rfl rfl Tryd.func56 (by kernel_rfl) rfl #[.slice A209_0 (rd_L1 l0 x8_1).length c209_0] rfl (by (try simp only [List.map_toArray, List.map_cons, List.map_nil]); first | done | rfl | (simp only [List.length_drop, List.length_take]; rfl)) ?_; (with_reducible refine (cobs_Encode.calls k1 (fun k_ => k_ < w.heap.size) _ _ (rd_L1 l0 x8_1) t210 _ ?side1 A5.out).mono ?_); (case side1 => exact Kd.V_mk HC209_0.out (Kd.F_below (Kd.C_F (Kd.heap_int .u8) HR209_0.out) (by repeat (first | (with_reducible first | exact HB.out | apply below_alloc | apply pw_below_drewN | apply below_drew1) | exact HB.out)))); rintro e w7 ⟨v211, rfl, ho0, hb⟩; refine ⟨_, rfl, ?_⟩; have n0_ := Aside0.mk (Kd.R_elder' (by (with_reducible repeat (first | apply Kd.R_alloc | apply Kd.R_drewN | apply Kd.R_drew)); exact HO_3.out) (Kd.R_base ho0) hb); have n1_ := Aside0.mk (Kd.R_lower (Kd.R_new' (Kd.R_mono (ok' := fun k_ => True) ho0 (fun _ hk_ => trivial)) (Kd.R_lt (by (with_reducible repeat (first | apply Kd.R_alloc | apply Kd.R_drewN | apply Kd.R_drew)); exact HO_3.out))) (below_size (by repeat (first | (with_reducible first | exact HB.out | apply below_alloc | apply pw_below_drewN | apply below_drew1) | exact HB.out)))); have n2_ := Aside0.mk (below_step (by repeat (first | (with_reducible first | exact HB.out | apply below_alloc | apply pw_below_drewN | apply below_drew1) | exact HB.out)) hb); clear HO_3; clear HB; have HO_3 := n0_; have HO212 := n1_; have HB := n2_; clear n0_ n1_ n2_; (try clear hb); (try clear hb2); (try clear hk); (try clear hi); (try clear ho0); obtain ⟨Ao9, co9, eo9⟩ := Kd.R_slice HO212.out; subst eo9) | ((with_reducible refine gate_builtin (b := .append) (xs := #[.tmp 12, .tmp 14]) rfl ?_); at_builtin; refine Kd.R_append_rows (Kd.int .u8) (w0 := w) w.heap.size rfl (.tmp 12) (.tmp 14) 24 5 (.int .u8 0) 1 rfl Tryd.underlying24 info5 rfl (by decide) (by omega) u3 x3_1 t210 _ _ _ (fun k_ => some k_ ≠ (.slice Ao9 t210.length co9 : Value).ownBlock) (fun _ => False) rfl rfl ?aO ?aR (fun _ _ h => h) (fun _ h => h.elim) ?aF ?aB ?aS ?aL ?_; (case aR => repeat (first | exact (Kd.R_reads' HO212.out).2.2 | (with_reducible refine Kd.C_alloc ?_ _) | (with_reducible refine Kd.C_drewN ?_ _) | (with_reducible refine Kd.C_drew ?_))); (case aB => exact (by repeat (first | (with_reducible first | exact HB.out | apply below_alloc | apply pw_below_drewN | apply below_drew1) | exact HB.out))); (case aF => exact (fun k_ hk => Kd.fresh' (Kd.R_lt (by (with_reducible repeat (first | apply Kd.R_alloc | apply Kd.R_drewN | apply Kd.R_drew)); exact HO212.out)) k_ hk)); (case aO => exact (by (with_reducible repeat (first | apply Kd.R_alloc | apply Kd.R_drewN | apply Kd.R_drew)); exact Kd.R_mono HO_3.out (fun _ hk => hk.2))); (case aS => exact (below_size (by repeat (first | (with_reducible first | exact HB.out | apply below_alloc | apply pw_below_drewN | apply below_drew1) | exact HB.out)))); (case aL => have := LMc6.out; omega); intro v214 w8 ho hb hg hat; rw [← Ny213.out] at ho; have n0_ := Aside0.mk (Kd.R_after (ok := (fun _ => True)) (by (with_reducible repeat (first | apply Kd.R_alloc | apply Kd.R_drewN | apply Kd.R_drew)); exact HO212.out) hg hat); have n1_ := Aside0.mk (hb); have n2_ := Aside0.mk (ho); clear HO212; clear HB; clear HO_3; have HO212 := n0_; have HB := n1_; have HO215 := n2_; clear n0_ n1_ n2_; clear ho hb hg hat))
              go_roundg k1
              case measure => have := HK1.out; omega
              case rel => exact ⟨(y213), (wrap64 (x8_1 + 1)), (by first | rfl | (simp; done) | (simp [*]; done)), H', ⟨by have := HK1.out; omega⟩, ⟨by (with_reducible repeat (first | apply Kd.R_alloc | apply Kd.R_drewN | apply Kd.R_drew)); exact Kd.R_mono HO215.out (fun _ hk => trivial)⟩, ⟨by repeat (first | (with_reducible first | exact HB.out | apply below_alloc | apply pw_below_drewN | apply below_drew1) | exact HB.out)⟩⟩
            · rw [if_neg c6] at H
              exact absurd H (by simp)
          · rw [if_neg c4] at H
            exact absurd H (by simp)
        · rw [if_neg c3] at H
          exact absurd H (by simp)
      · rw [if_neg c2] at H
        have c2b0 : decide (x8_1 < (l0.length : Int)) = false := decide_eq_false c2
        clear c2
        obtain rfl := Option.some.inj H
        go_wp2
        go_ret
        exact ⟨_, by first | rfl | (simp [errW_none, errW_some] <;> rfl) | (simp [*, errW_none, errW_some] <;> rfl), by (with_reducible repeat (first | apply Kd.R_alloc | apply Kd.R_drewN | apply Kd.R_drew)); exact HO_3.out, by repeat (first | (with_reducible first | exact HB.out | apply below_alloc | apply pw_below_drewN | apply below_drew1) | exact HB.out)⟩

/-! ### trickleref03_Encode: function 57 -/
mutual
def trickleref03_Encode.l0 : Nat → List Int → List Int → Int → Option (List Int)
  | 0, _, _, _ => none
  | k + 1, x0, x3, x4 => trickleref03_Encode.l1 k x0 x3 x4 0
def trickleref03_Encode.l1 : Nat → List Int → List Int → Int → Int → Option (List Int)
  | 0, _, _, _, _ => none
  | k + 1, x0, x3, x4, x5 => if x5 < 254 then (if (wrap64 (x4 + x5)) < (x0.length : Int) then (if 0 ≤ (wrap64 (x4 + x5)) then (trickleref03_Encode.j2 k x0 x3 x4 x5 ((rd x0 (wrap64 (x4 + x5))) != 0)) else (none)) else (trickleref03_Encode.j2 k x0 x3 x4 x5 false)) else (trickleref03_Encode.j2 k x0 x3 x4 x5 false)
def trickleref03_Encode.j2 : Nat → List Int → List Int → Int → Int → Bool → Option (List Int)
  | 0, _, _, _, _, _ => none
  | k + 1, x0, x3, x4, x5, x24 => if x24 = true then (trickleref03_Encode.l1 k x0 x3 x4 (wrap64 (x5 + 1))) else (if x3.length < 140737488355328 then ((some (x3 ++ [(wrap64 (x5 + 1)) % 256] : List Int)).bind fun y217 => (if 0 ≤ x4 then (if x4 ≤ (wrap64 (x4 + x5)) then (if (wrap64 (x4 + x5)) ≤ (x0.length : Int) then (if y217.length + ((x0.take ((wrap64 (x4 + x5)) : Int).toNat).drop (x4 : Int).toNat).length < 140737488355328 then ((some (y217 ++ ((x0.take ((wrap64 (x4 + x5)) : Int).toNat).drop (x4 : Int).toNat) : List Int)).bind fun y221 => (if (wrap64 (x4 + x5)) = (x0.length : Int) then (if y221.length < 140737488355328 then (some (y221 ++ [0])) else (none)) else (if x5 < 254 then (trickleref03_Encode.l0 k x0 y221 (wrap64 ((wrap64 (x4 + x5)) + 1))) else (trickleref03_Encode.l0 k x0 y221 (wrap64 (x4 + x5)))))) else (none)) else (none)) else (none)) else (none))) else (none))
end
def trickleref03_Encode.f (k : Nat) (l0 : List Int) : Option (List Int) := trickleref03_Encode.l0 k l0 ([] : List Int) 0
set_option maxHeartbeats 8000000 in
set_option maxRecDepth 100000 in
theorem trickleref03_Encode.calls (k : Nat) (A0 : Option Addr) (c0 : Nat) (l0 : List Int) (r : List Int) (w : World) (hr0 : Kd.C (Kd.int .u8) w A0 l0.length l0) (hc0 : l0.length ≤ c0) (h : trickleref03_Encode.f k l0 = some r) :
    Calls Tryd.prog 57 #[.slice A0 l0.length c0] w fun e w' => ∃ v0_ : Value, e = .returned (v0_) ∧ Kd.R (Kd.int .u8) 5 w' w.heap.size (fun _ => True) v0_ r ∧ Below w.heap.size w w' := by
  have HR0 := Aside0.mk hr0
  have HC0 := Aside0.mk hc0
  clear hr0 hc0
  have HB := Aside0.mk (Below.refl w.heap.size w)
  have H : (trickleref03_Encode.l0 k l0 ([] : List Int) 0) = some r := h
  clear h
  have H' := Aside0.mk H
  clear H
  go_enter Tryd.func57, Tryd.ntmps57
  go_wp2
  go_loopg [3, 4] k (fun kq v3 v4 w' => ∃ (x3_1 : List Int) (x4_1 : Int), v4 = .int .i64 x4_1 ∧ Aside0 (trickleref03_Encode.l0 kq l0 x3_1 x4_1 = some r) ∧ Aside0 (kq ≤ k) ∧ Aside0 (Kd.R (Kd.int .u8) 5 w' w.heap.size (fun _ => True) v3 x3_1) ∧ Aside0 (Below w.heap.size w w'))
  case atStart => exact ⟨(([] : List Int)), (0), (by first | rfl | (simp; done) | (simp [*]; done)), H', ⟨Nat.le_refl _⟩, ⟨by first | exact Kd.R_nil _ _ _ _ _ | exact Kd.N_nil _ _ _ _ _ | exact Kd.V_nil _ _ _ _ _ | exact Kd.Q_nil _ _ _ _ _ | exact Kd.S_nil _ _ _ _ _⟩, ⟨by repeat (first | (with_reducible first | exact HB.out | apply below_alloc | apply pw_below_drewN | apply below_drew1) | exact HB.out)⟩⟩
  case round =>
    clear H'
    obtain ⟨x3_1, x4_1, rfl, HA, HK1, HO_3, HB⟩ := hrel
    cases gk with
    | zero => exact absurd HA.out (by simp [trickleref03_Encode.l0])
    | succ k1 =>
      have H := HA.out
      clear HA
      simp only [trickleref03_Encode.l0] at H
      have H' := Aside0.mk H
      clear H
      go_wp2
      go_loopg [5] k1 (fun kq v5 w' => ∃ (x5_2 : Int), v5 = .int .i64 x5_2 ∧ Aside0 (trickleref03_Encode.l1 kq l0 x3_1 x4_1 x5_2 = some r) ∧ Aside0 (kq ≤ k1) ∧ Aside0 (Kd.R (Kd.int .u8) 5 w' w.heap.size (fun _ => True) u3 x3_1) ∧ Aside0 (Below w.heap.size w w'))
      case atStart => exact ⟨(0), (by first | rfl | (simp; done) | (simp [*]; done)), H', ⟨Nat.le_refl _⟩, ⟨by (with_reducible repeat (first | apply Kd.R_alloc | apply Kd.R_drewN | apply Kd.R_drew)); exact HO_3.out⟩, ⟨by repeat (first | (with_reducible first | exact HB.out | apply below_alloc | apply pw_below_drewN | apply below_drew1) | exact HB.out)⟩⟩
      case round =>
        clear H'
        obtain ⟨x5_2, rfl, HA, HK2, HO_3, HB⟩ := hrel
        cases gk with
        | zero => exact absurd HA.out (by simp [trickleref03_Encode.l1])
        | succ k2 =>
          have H := HA.out
          clear HA
          simp only [trickleref03_Encode.l1] at H
          have HC2 := Aside0.mk H
          clear H
          go_upto_region 4 with (fail)
          go_cut [24] (fun v24 wc => ∃ (kq : Nat) (x24_1 : Bool), v24 = .bool x24_1 ∧ Aside0 (trickleref03_Encode.j2 kq l0 x3_1 x4_1 x5_2 x24_1 = some r) ∧ Aside0 (kq ≤ k2) ∧ Aside0 (Kd.R (Kd.int .u8) 5 wc w.heap.size (fun _ => True) u3 x3_1) ∧ Aside0 (Below w.heap.size w wc))
          case first =>
            have H := HC2.out
            clear HC2
            by_cases c3 : x5_2 < 254
            · rw [if_pos c3] at H
              have c3b0 : decide (x5_2 < 254) = true := decide_eq_true c3
              clear c3
              (first | rw [c3b0] | (simp only [i64_w, i32_w]; rw [c3b0]) | skip)
              by_cases c4 : (wrap64 (x4_1 + x5_2)) < (l0.length : Int)
              · rw [if_pos c4] at H
                have c4b0 : decide ((wrap64 (x4_1 + x5_2)) < (l0.length : Int)) = true := decide_eq_true c4
                clear c4
                obtain ⟨ji5, hji5⟩ : ∃ j_ : Int, (wrap64 (x4_1 + x5_2)) = j_ := ⟨_, rfl⟩
                replace H : (if 0 ≤ (ji5) then (trickleref03_Encode.j2 k2 l0 x3_1 x4_1 x5_2 ((rd l0 (ji5)) != 0)) else (none)) = some r := by first | (rw [hji5] at H; exact H) | (simp only [hji5] at H ⊢; exact H)
                (try rw [hji5] at c4b0)
                have hji5w : (IntKind.i64.wrap (x4_1 + x5_2)) = ji5 := (i64_w _).trans hji5
                by_cases c6 : 0 ≤ (ji5)
                · rw [if_pos c6] at H
                  have c6b0 : decide (0 ≤ (ji5)) = true := decide_eq_true c6
                  clear c6
                  have H' := Aside0.mk H
                  clear H
                  have p216 : 0 ≤ ((ji5) : Int) := of_decide_eq_true (by first | (with_reducible assumption) | assumption)
                  have q216 : (ji5) < (l0.length : Int) := of_decide_eq_true (by first | (with_reducible assumption) | assumption)
                  obtain ⟨ad216, e216, hx216_0⟩ := Kd.at_int HR0.out (ji5) p216 q216
                  cases e216
                  replace hx216_0 := (HB.out.cell (World.block_lt_of_cell? w _ hx216_0)).trans hx216_0
                  replace p216 := eq_true p216
                  replace q216 := eq_true q216
                  go_wp2
                  go_meet
                  case rel => exact ⟨_, (((rd l0 (ji5)) != 0)), (by first | rfl | (simp; done) | (simp only [← hji5] <;> (first | rfl | simp)) | (simp [*]; done)), H', ⟨by have := HK1.out; have := HK2.out; first | omega | exact Nat.le_refl _⟩, ⟨by (with_reducible repeat (first | apply Kd.R_alloc | apply Kd.R_drewN | apply Kd.R_drew)); exact HO_3.out⟩, ⟨by repeat (first | (with_reducible first | exact HB.out | apply below_alloc | apply pw_below_drewN | apply below_drew1) | exact HB.out)⟩⟩
                · rw [if_neg c6] at H
                  exact absurd H (by simp)
              · rw [if_neg c4] at H
                have c4b0 : decide ((wrap64 (x4_1 + x5_2)) < (l0.length : Int)) = false := decide_eq_false c4
                clear c4
                have H' := Aside0.mk H
                clear H
                go_wp2
                go_meet
                case rel => exact ⟨_, (false), (by first | rfl | (simp; done) | (simp [*]; done)), H', ⟨by have := HK1.out; have := HK2.out; first | omega | exact Nat.le_refl _⟩, ⟨by (with_reducible repeat (first | apply Kd.R_alloc | apply Kd.R_drewN | apply Kd.R_drew)); exact HO_3.out⟩, ⟨by repeat (first | (with_reducible first | exact HB.out | apply below_alloc | apply pw_below_drewN | apply below_drew1) | exact HB.out)⟩⟩
            · rw [if_neg c3] at H
              have c3b0 : decide (x5_2 < 254) = false := decide_eq_false c3
              clear c3
              (first | rw [c3b0] | (simp only [i64_w, i32_w]; rw [c3b0]) | skip)
              have H' := Aside0.mk H
              clear H
              go_wp2
              go_meet
              case rel => exact ⟨_, (false), (by first | rfl | (simp; done) | (simp [*]; done)), H', ⟨by have := HK1.out; have := HK2.out; first | omega | exact Nat.le_refl _⟩, ⟨by (with_reducible repeat (first | apply Kd.R_alloc | apply Kd.R_drewN | apply Kd.R_drew)); exact HO_3.out⟩, ⟨by repeat (first | (with_reducible first | exact HB.out | apply below_alloc | apply pw_below_drewN | apply below_drew1) | exact HB.out)⟩⟩
          case rest =>
            clear HC2
            try clear p2
            try clear q2
            try clear hx2
            try clear c3
            try clear c3b0
            try clear c4
            try clear c4b0
            try clear c5
            try clear c6
            try clear c6b0
            try clear p6
            try clear hx216_0
            try clear p216
            try clear q216
            obtain ⟨kq, x24_1, rfl, HA, HJ1, HO_3, HB⟩ := hcut
            cases kq with
            | zero => exact absurd HA.out (by simp [trickleref03_Encode.j2])
            | succ kj1 =>
              have H := HA.out
              clear HA
              simp only [trickleref03_Encode.j2] at H
              by_cases c7 : x24_1 = true
              · subst c7
                have H1 : (trickleref03_Encode.l1 kj1 l0 x3_1 x4_1 (wrap64 (x5_2 + 1))) = some r := by rw [if_pos rfl] at H; exact H
                clear H
                have H := H1
                clear H1
                have H' := Aside0.mk H
                clear H
                go_wp2
                go_roundg kj1
                case measure => have := HK1.out; have := HK2.out; have := HJ1.out; omega
                case rel => exact ⟨(wrap64 (x5_2 + 1)), (by first | rfl | (simp; done) | (simp [*]; done)), H', ⟨by have := HK1.out; have := HK2.out; have := HJ1.out; omega⟩, ⟨by (with_reducible repeat (first | apply Kd.R_alloc | apply Kd.R_drewN | apply Kd.R_drew)); exact HO_3.out⟩, ⟨by repeat (first | (with_reducible first | exact HB.out | apply below_alloc | apply pw_below_drewN | apply below_drew1) | exact HB.out)⟩⟩
              · replace c7 := Bool.eq_false_iff.mpr c7
                subst c7
                have H1 : (if x3_1.length < 140737488355328 then ((some (x3_1 ++ [(wrap64 (x5_2 + 1)) % 256] : List Int)).bind fun y217 => (if 0 ≤ x4_1 then (if x4_1 ≤ (wrap64 (x4_1 + x5_2)) then (if (wrap64 (x4_1 + x5_2)) ≤ (l0.length : Int) then (if y217.length + ((l0.take ((wrap64 (x4_1 + x5_2)) : Int).toNat).drop (x4_1 : Int).toNat).length < 140737488355328 then ((some (y217 ++ ((l0.take ((wrap64 (x4_1 + x5_2)) : Int).toNat).drop (x4_1 : Int).toNat) : List Int)).bind fun y221 => (if (wrap64 (x4_1 + x5_2)) = (l0.length : Int) then (if y221.length < 140737488355328 then (some (y221 ++ [0])) else (none)) else (if x5_2 < 254 then (trickleref03_Encode.l0 kj1 l0 y221 (wrap64 ((wrap64 (x4_1 + x5_2)) + 1))) else (trickleref03_Encode.l0 kj1 l0 y221 (wrap64 (x4_1 + x5_2)))))) else (none)) else (none)) else (none)) else (none))) else (none)) = some r := by rw [if_neg (show ¬ (false = true) by decide)] at H; exact H
                clear H
                have H := H1
                clear H1
                by_cases c8 : x3_1.length < 140737488355328
                · rw [if_pos c8] at H
                  have LMc8 := Aside0.mk c8
                  clear c8
                  obtain ⟨y217, hy217⟩ : ∃ y_ : List Int, y_ = (x3_1 ++ [(wrap64 (x5_2 + 1)) % 256]) := ⟨_, rfl⟩
                  replace H : (if 0 ≤ x4_1 then (if x4_1 ≤ (wrap64 (x4_1 + x5_2)) then (if (wrap64 (x4_1 + x5_2)) ≤ (l0.length : Int) then (if y217.length + ((l0.take ((wrap64 (x4_1 + x5_2)) : Int).toNat).drop (x4_1 : Int).toNat).length < 140737488355328 then ((some (y217 ++ ((l0.take ((wrap64 (x4_1 + x5_2)) : Int).toNat).drop (x4_1 : Int).toNat) : List Int)).bind fun y221 => (if (wrap64 (x4_1 + x5_2)) = (l0.length : Int) then (if y221.length < 140737488355328 then (some (y221 ++ [0])) else (none)) else (if x5_2 < 254 then (trickleref03_Encode.l0 kj1 l0 y221 (wrap64 ((wrap64 (x4_1 + x5_2)) + 1))) else (trickleref03_Encode.l0 kj1 l0 y221 (wrap64 (x4_1 + x5_2)))))) else (none)) else (none)) else (none)) else (none)) = some r := by first | (rw [hy217]; with_reducible exact H) | (have H2_ := (Option.bind_some _ _).symm.trans H; rw [hy217]; with_reducible exact H2_) | (have H2_ := (Option.bind_some _ _).symm.trans H; with_reducible exact H2_) | with_reducible exact H | (rw [hy217]; exact H) | exact H
                  have Ny217 := Aside0.mk hy217
                  clear hy217
                  by_cases c9 : 0 ≤ x4_1
                  · rw [if_pos c9] at H
                    have c9b0 := eq_true c9
                    have c9b1 : decide (0 ≤ x4_1) = true := decide_eq_true c9
                    clear c9
                    by_cases c10 : x4_1 ≤ (wrap64 (x4_1 + x5_2))
                    · rw [if_pos c10] at H
                      have c10b0 := eq_true c10
                      have c10b1 : decide (x4_1 ≤ (wrap64 (x4_1 + x5_2))) = true := decide_eq_true c10
                      by_cases c11 : (wrap64 (x4_1 + x5_2)) ≤ (l0.length : Int)
                      · rw [if_pos c11] at H
                        have c11b0 := eq_true c11
                        have c11b1 : decide ((wrap64 (x4_1 + x5_2)) ≤ (l0.length : Int)) = true := decide_eq_true c11
                        by_cases c12 : y217.length + ((l0.take ((wrap64 (x4_1 + x5_2)) : Int).toNat).drop (x4_1 : Int).toNat).length < 140737488355328
                        · rw [if_pos c12] at H
                          have LMc12 := Aside0.mk c12
                          clear c12
                          obtain ⟨y221, hy221⟩ : ∃ y_ : List Int, y_ = (y217 ++ ((l0.take ((wrap64 (x4_1 + x5_2)) : Int).toNat).drop (x4_1 : Int).toNat)) := ⟨_, rfl⟩
                          replace H : (if (wrap64 (x4_1 + x5_2)) = (l0.length : Int) then (if y221.length < 140737488355328 then (some (y221 ++ [0])) else (none)) else (if x5_2 < 254 then (trickleref03_Encode.l0 kj1 l0 y221 (wrap64 ((wrap64 (x4_1 + x5_2)) + 1))) else (trickleref03_Encode.l0 kj1 l0 y221 (wrap64 (x4_1 + x5_2))))) = some r := by first | (rw [hy221]; with_reducible exact H) | (have H2_ := (Option.bind_some _ _).symm.trans H; rw [hy221]; with_reducible exact H2_) | (have H2_ := (Option.bind_some _ _).symm.trans H; with_reducible exact H2_) | with_reducible exact H | (rw [hy221]; exact H) | exact H
                          have Ny221 := Aside0.mk hy221
                          clear hy221
                          by_cases c13 : (wrap64 (x4_1 + x5_2)) = (l0.length : Int)
                          · rw [if_pos c13] at H
                            have c13b0 : ((wrap64 (x4_1 + x5_2)) == (l0.length : Int)) = true := beq_iff_eq.mpr c13
                            have c13b1 : ((wrap64 (x4_1 + x5_2)) != (l0.length : Int)) = false := bne_eq_false_iff_eq.mpr c13
                            clear c13
                            by_cases c14 : y221.length < 140737488355328
                            · rw [if_pos c14] at H
                              have LMc14 := Aside0.mk c14
                              clear c14
                              obtain ⟨y224, hy224⟩ : ∃ y_ : List Int, y_ = (y221 ++ [0]) := ⟨_, rfl⟩
                              replace H : (some y224) = some r := by first | (rw [hy224]; with_reducible exact H) | (have H2_ := (Option.bind_some _ _).symm.trans H; rw [hy224]; with_reducible exact H2_) | (have H2_ := (Option.bind_some _ _).symm.trans H; with_reducible exact H2_) | with_reducible exact H | (rw [hy224]; exact H) | exact H
                              have Ny224 := Aside0.mk hy224
                              clear hy224
                              obtain rfl := Option.some.inj H
                              go_wp2_with (first | ((with_reducible refine gate_builtin (b := .append) (xs := #[.tmp 27, .tmp 31]) rfl ?_); (try (refine gate_guard (by rfl) ?_; dsimp only)); at_builtin; refine Kd.R_append (Kd.int .u8) (w0 := w) w.heap.size rfl (.tmp 27) (.tmp 31) 24 5 (.int .u8 0) 1 rfl Tryd.underlying24 info5 rfl (by decide) (by omega) u3 x3_1 ((wrap64 (x5_2 + 1)) % 256) [.int .u8 ((wrap64 (x5_2 + 1)) % 256)] (fun _ => True) (fun _ => False) rfl rfl ?aP (fun _ hk => hk.elim) ?aF ?aO ?aB ?aS ?aL ?_; (case aP => exact rfl); (case aB => exact (by repeat (first | (with_reducible first | exact HB.out | apply below_alloc | apply pw_below_drewN | apply below_drew1) | exact HB.out))); (case aF => exact (fun _ _ => trivial)); (case aO => exact (by (with_reducible repeat (first | apply Kd.R_alloc | apply Kd.R_drewN | apply Kd.R_drew)); exact HO_3.out)); (case aS => exact (below_size (by repeat (first | (with_reducible first | exact HB.out | apply below_alloc | apply pw_below_drewN | apply below_drew1) | exact HB.out)))); (case aL => have := LMc8.out; omega); intro v218 w15 ho hb hg hat; rw [← Ny217.out] at ho; have n0_ := Aside0.mk (hb); have n1_ := Aside0.mk (ho); clear HB; clear HO_3; have HB := n0_; have HO219 := n1_; clear n0_ n1_; clear ho hb hg hat; obtain ⟨i016, hi016, _, hsz16, _⟩ := info_parts info5; obtain ⟨A16, hcut16, hA16, hC16⟩ := print_mid_of (P := Tryd.prog) (Value.int .u8) 0 24 5 .i64 .i64 Tryd.underlying24 hi016 hsz16 A0 c0 l0 x4_1 (wrap64 (x4_1 + x5_2)) (of_decide_eq_true (by first | (with_reducible assumption) | assumption)) (by first | omega | exact of_decide_eq_true (by first | (with_reducible assumption) | assumption)) (of_decide_eq_true (by first | (with_reducible assumption) | assumption)) HC0.out; have HR220 := Aside0.mk (Kd.C_of_reads (h1 := fun _ => rfl) (hA16 _ (Kd.reads_of_C HR0.out))); have HC220 := Aside0.mk hC16; clear hA16 hC16 hi016 hsz16) | ((with_reducible refine gate_builtin (b := .append) (xs := #[.tmp 33, .tmp 39]) rfl ?_); (try (refine gate_guard (by rfl) ?_; dsimp only)); at_builtin; refine Kd.R_append_rows (Kd.int .u8) (w0 := w) w.heap.size rfl (.tmp 33) (.tmp 39) 24 5 (.int .u8 0) 1 rfl Tryd.underlying24 info5 rfl (by decide) (by omega) v218 y217 ((l0.take ((wrap64 (x4_1 + x5_2)) : Int).toNat).drop (x4_1 : Int).toNat) _ _ _ (fun _ => True) (fun _ => False) rfl rfl ?aO ?aR (fun _ _ h => h) (fun _ h => h.elim) ?aF ?aB ?aS ?aL ?_; (case aR => first | (rw [← show ((l0.take ((wrap64 (x4_1 + x5_2)) : Int).toNat).drop (x4_1 : Int).toNat).length = ((wrap64 (x4_1 + x5_2)).toNat - x4_1.toNat) from (by rw [List.length_drop, List.length_take]; have h_ : ((wrap64 (x4_1 + x5_2)) : Int) ≤ (l0.length : Int) := of_decide_eq_true (by first | (with_reducible assumption) | assumption); omega)]; repeat (first | exact (Kd.C_below HR220.out HB.out) | (with_reducible refine Kd.C_alloc ?_ _) | (with_reducible refine Kd.C_drewN ?_ _) | (with_reducible refine Kd.C_drew ?_))) | (repeat (first | exact (Kd.C_below HR220.out HB.out) | (with_reducible refine Kd.C_alloc ?_ _) | (with_reducible refine Kd.C_drewN ?_ _) | (with_reducible refine Kd.C_drew ?_)))); (case aB => exact (by repeat (first | (with_reducible first | exact HB.out | apply below_alloc | apply pw_below_drewN | apply below_drew1) | exact HB.out))); (case aF => exact (fun _ _ => trivial)); (case aO => exact (by (with_reducible repeat (first | apply Kd.R_alloc | apply Kd.R_drewN | apply Kd.R_drew)); exact HO219.out)); (case aS => exact (below_size (by repeat (first | (with_reducible first | exact HB.out | apply below_alloc | apply pw_below_drewN | apply below_drew1) | exact HB.out)))); (case aL => have := LMc12.out; have hlx_ := (show ((l0.take ((wrap64 (x4_1 + x5_2)) : Int).toNat).drop (x4_1 : Int).toNat).length = ((wrap64 (x4_1 + x5_2)).toNat - x4_1.toNat) from (by rw [List.length_drop, List.length_take]; have h_ : ((wrap64 (x4_1 + x5_2)) : Int) ≤ (l0.length : Int) := of_decide_eq_true (by first | (with_reducible assumption) | assumption); omega)); omega); intro v222 w17 ho hb hg hat; rw [← Ny221.out] at ho; have n0_ := Aside0.mk (hb); have n1_ := Aside0.mk (ho); clear HB; clear HO219; have HB := n0_; have HO223 := n1_; clear n0_ n1_; clear ho hb hg hat) | ((with_reducible refine gate_builtin (b := .append) (xs := #[.tmp 48, .tmp 49]) rfl ?_); (try (refine gate_guard (by rfl) ?_; dsimp only)); at_builtin; refine Kd.R_append (Kd.int .u8) (w0 := w) w.heap.size rfl (.tmp 48) (.tmp 49) 24 5 (.int .u8 0) 1 rfl Tryd.underlying24 info5 rfl (by decide) (by omega) v222 y221 0 [.int .u8 0] (fun _ => True) (fun _ => False) rfl rfl ?aP (fun _ hk => hk.elim) ?aF ?aO ?aB ?aS ?aL ?_; (case aP => exact rfl); (case aB => exact (by repeat (first | (with_reducible first | exact HB.out | apply below_alloc | apply pw_below_drewN | apply below_drew1) | exact HB.out))); (case aF => exact (fun _ _ => trivial)); (case aO => exact (by (with_reducible repeat (first | apply Kd.R_alloc | apply Kd.R_drewN | apply Kd.R_drew)); exact HO223.out)); (case aS => exact (below_size (by repeat (first | (with_reducible first | exact HB.out | apply below_alloc | apply pw_below_drewN | apply below_drew1) | exact HB.out)))); (case aL => have := LMc14.out; omega); intro v225 w18 ho hb hg hat; rw [← Ny224.out] at ho; have n0_ := Aside0.mk (hb); have n1_ := Aside0.mk (ho); clear HB; clear HO223; have HB := n0_; have HO226 := n1_; clear n0_ n1_; clear ho hb hg hat))
                              go_ret
                              exact ⟨_, by first | rfl | (simp [errW_none, errW_some] <;> rfl) | (simp [*, errW_none, errW_some] <;> rfl), by (with_reducible repeat (first | apply Kd.R_alloc | apply Kd.R_drewN | apply Kd.R_drew)); exact HO226.out, by repeat (first | (with_reducible first | exact HB.out | apply below_alloc | apply pw_below_drewN | apply below_drew1) | exact HB.out)⟩
                            · rw [if_neg c14] at H
                              exact absurd H (by simp)
                          · rw [if_neg c13] at H
                            have c13b0 : ((wrap64 (x4_1 + x5_2)) == (l0.length : Int)) = false := beq_eq_false_iff_ne.mpr c13
                            have c13b1 : ((wrap64 (x4_1 + x5_2)) != (l0.length : Int)) = true := bne_iff_ne.mpr c13
                            by_cases c19 : x5_2 < 254
                            · rw [if_pos c19] at H
                              have c19b0 : decide (x5_2 < 254) = true := decide_eq_true c19
                              clear c19
                              have H' := Aside0.mk H
                              clear H
                              go_wp2_with (first | ((with_reducible refine gate_builtin (b := .append) (xs := #[.tmp 27, .tmp 31]) rfl ?_); (try (refine gate_guard (by rfl) ?_; dsimp only)); at_builtin; refine Kd.R_append (Kd.int .u8) (w0 := w) w.heap.size rfl (.tmp 27) (.tmp 31) 24 5 (.int .u8 0) 1 rfl Tryd.underlying24 info5 rfl (by decide) (by omega) u3 x3_1 ((wrap64 (x5_2 + 1)) % 256) [.int .u8 ((wrap64 (x5_2 + 1)) % 256)] (fun _ => True) (fun _ => False) rfl rfl ?aP (fun _ hk => hk.elim) ?aF ?aO ?aB ?aS ?aL ?_; (case aP => exact rfl); (case aB => exact (by repeat (first | (with_reducible first | exact HB.out | apply below_alloc | apply pw_below_drewN | apply below_drew1) | exact HB.out))); (case aF => exact (fun _ _ => trivial)); (case aO => exact (by (with_reducible repeat (first | apply Kd.R_alloc | apply Kd.R_drewN | apply Kd.R_drew)); exact HO_3.out)); (case aS => exact (below_size (by repeat (first | (with_reducible first | exact HB.out | apply below_alloc | apply pw_below_drewN | apply below_drew1) | exact HB.out)))); (case aL => have := LMc8.out; omega); intro v218 w20 ho hb hg hat; rw [← Ny217.out] at ho; have n0_ := Aside0.mk (hb); have n1_ := Aside0.mk (ho); clear HB; clear HO_3; have HB := n0_; have HO219 := n1_; clear n0_ n1_; clear ho hb hg hat; obtain ⟨i021, hi021, _, hsz21, _⟩ := info_parts info5; obtain ⟨A21, hcut21, hA21, hC21⟩ := print_mid_of (P := Tryd.prog) (Value.int .u8) 0 24 5 .i64 .i64 Tryd.underlying24 hi021 hsz21 A0 c0 l0 x4_1 (wrap64 (x4_1 + x5_2)) (of_decide_eq_true (by first | (with_reducible assumption) | assumption)) (by first | omega | exact of_decide_eq_true (by first | (with_reducible assumption) | assumption)) (of_decide_eq_true (by first | (with_reducible assumption) | assumption)) HC0.out; have HR220 := Aside0.mk (Kd.C_of_reads (h1 := fun _ => rfl) (hA21 _ (Kd.reads_of_C HR0.out))); have HC220 := Aside0.mk hC21; clear hA21 hC21 hi021 hsz21) | ((with_reducible refine gate_builtin (b := .append) (xs := #[.tmp 33, .tmp 39]) rfl ?_); (try (refine gate_guard (by rfl) ?_; dsimp only)); at_builtin; refine Kd.R_append_rows (Kd.int .u8) (w0 := w) w.heap.size rfl (.tmp 33) (.tmp 39) 24 5 (.int .u8 0) 1 rfl Tryd.underlying24 info5 rfl (by decide) (by omega) v218 y217 ((l0.take ((wrap64 (x4_1 + x5_2)) : Int).toNat).drop (x4_1 : Int).toNat) _ _ _ (fun _ => True) (fun _ => False) rfl rfl ?aO ?aR (fun _ _ h => h) (fun _ h => h.elim) ?aF ?aB ?aS ?aL ?_; (case aR => first | (rw [← show ((l0.take ((wrap64 (x4_1 + x5_2)) : Int).toNat).drop (x4_1 : Int).toNat).length = ((wrap64 (x4_1 + x5_2)).toNat - x4_1.toNat) from (by rw [List.length_drop, List.length_take]; have h_ : ((wrap64 (x4_1 + x5_2)) : Int) ≤ (l0.length : Int) := of_decide_eq_true (by first | (with_reducible assumption) | assumption); omega)]; repeat (first | exact (Kd.C_below HR220.out HB.out) | (with_reducible refine Kd.C_alloc ?_ _) | (with_reducible refine Kd.C_drewN ?_ _) | (with_reducible refine Kd.C_drew ?_))) | (repeat (first | exact (Kd.C_below HR220.out HB.out) | (with_reducible refine Kd.C_alloc ?_ _) | (with_reducible refine Kd.C_drewN ?_ _) | (with_reducible refine Kd.C_drew ?_)))); (case aB => exact (by repeat (first | (with_reducible first | exact HB.out | apply below_alloc | apply pw_below_drewN | apply below_drew1) | exact HB.out))); (case aF => exact (fun _ _ => trivial)); (case aO => exact (by (with_reducible repeat (first | apply Kd.R_alloc | apply Kd.R_drewN | apply Kd.R_drew)); exact HO219.out)); (case aS => exact (below_size (by repeat (first | (with_reducible first | exact HB.out | apply below_alloc | apply pw_below_drewN | apply below_drew1) | exact HB.out)))); (case aL => have := LMc12.out; have hlx_ := (show ((l0.take ((wrap64 (x4_1 + x5_2)) : Int).toNat).drop (x4_1 : Int).toNat).length = ((wrap64 (x4_1 + x5_2)).toNat - x4_1.toNat) from (by rw [List.length_drop, List.length_take]; have h_ : ((wrap64 (x4_1 + x5_2)) : Int) ≤ (l0.length : Int) := of_decide_eq_true (by first | (with_reducible assumption) | assumption); omega)); omega); intro v222 w22 ho hb hg hat; rw [← Ny221.out] at ho; have n0_ := Aside0.mk (hb); have n1_ := Aside0.mk (ho); clear HB; clear HO219; have HB := n0_; have HO223 := n1_; clear n0_ n1_; clear ho hb hg hat))
                              go_roundg kj1
                              case measure => have := HK1.out; have := HK2.out; have := HJ1.out; omega
                              case rel => exact ⟨(y221), (wrap64 ((wrap64 (x4_1 + x5_2)) + 1)), (by first | rfl | (simp; done) | (simp [*]; done)), H', ⟨by have := HK1.out; have := HK2.out; have := HJ1.out; omega⟩, ⟨by (with_reducible repeat (first | apply Kd.R_alloc | apply Kd.R_drewN | apply Kd.R_drew)); exact HO223.out⟩, ⟨by repeat (first | (with_reducible first | exact HB.out | apply below_alloc | apply pw_below_drewN | apply below_drew1) | exact HB.out)⟩⟩
                            · rw [if_neg c19] at H
                              have c19b0 : decide (x5_2 < 254) = false := decide_eq_false c19
                              clear c19
                              have H' := Aside0.mk H
                              clear H
                              go_wp2_with (first | ((with_reducible refine gate_builtin (b := .append) (xs := #[.tmp 27, .tmp 31]) rfl ?_); (try (refine gate_guard (by rfl) ?_; dsimp only)); at_builtin; refine Kd.R_append (Kd.int .u8) (w0 := w) w.heap.size rfl (.tmp 27) (.tmp 31) 24 5 (.int .u8 0) 1 rfl Tryd.underlying24 info5 rfl (by decide) (by omega) u3 x3_1 ((wrap64 (x5_2 + 1)) % 256) [.int .u8 ((wrap64 (x5_2 + 1)) % 256)] (fun _ => True) (fun _ => False) rfl rfl ?aP (fun _ hk => hk.elim) ?aF ?aO ?aB ?aS ?aL ?_; (case aP => exact rfl); (case aB => exact (by repeat (first | (with_reducible first | exact HB.out | apply below_alloc | apply pw_below_drewN | apply below_drew1) | exact HB.out))); (case aF => exact (fun _ _ => trivial)); (case aO => exact (by (with_reducible repeat (first | apply Kd.R_alloc | apply Kd.R_drewN | apply Kd.R_drew)); exact HO_3.out)); (case aS => exact (below_size (by repeat (first | (with_reducible first | exact HB.out | apply below_alloc | apply pw_below_drewN | apply below_drew1) | exact HB.out)))); (case aL => have := LMc8.out; omega); intro v218 w23 ho hb hg hat; rw [← Ny217.out] at ho; have n0_ := Aside0.mk (hb); have n1_ := Aside0.mk (ho); clear HB; clear HO_3; have HB := n0_; have HO219 := n1_; clear n0_ n1_; clear ho hb hg hat; obtain ⟨i024, hi024, _, hsz24, _⟩ := info_parts info5; obtain ⟨A24, hcut24, hA24, hC24⟩ := print_mid_of (P := Tryd.prog) (Value.int .u8) 0 24 5 .i64 .i64 Tryd.underlying24 hi024 hsz24 A0 c0 l0 x4_1 (wrap64 (x4_1 + x5_2)) (of_decide_eq_true (by first | (with_reducible assumption) | assumption)) (by first | omega | exact of_decide_eq_true (by first | (with_reducible assumption) | assumption)) (of_decide_eq_true (by first | (with_reducible assumption) | assumption)) HC0.out; have HR220 := Aside0.mk (Kd.C_of_reads (h1 := fun _ => rfl) (hA24 _ (Kd.reads_of_C HR0.out))); have HC220 := Aside0.mk hC24; clear hA24 hC24 hi024 hsz24) | ((with_reducible refine gate_builtin (b := .append) (xs := #[.tmp 33, .tmp 39]) rfl ?_); (try (refine gate_guard (by rfl) ?_; dsimp only)); at_builtin; refine Kd.R_append_rows (Kd.int .u8) (w0 := w) w.heap.size rfl (.tmp 33) (.tmp 39) 24 5 (.int .u8 0) 1 rfl Tryd.underlying24 info5 rfl (by decide) (by omega) v218 y217 ((l0.take ((wrap64 (x4_1 + x5_2)) : Int).toNat).drop (x4_1 : Int).toNat) _ _ _ (fun _ => True) (fun _ => False) rfl rfl ?aO ?aR (fun _ _ h => h) (fun _ h => h.elim) ?aF ?aB ?aS ?aL ?_; (case aR => first | (rw [← show ((l0.take ((wrap64 (x4_1 + x5_2)) : Int).toNat).drop (x4_1 : Int).toNat).length = ((wrap64 (x4_1 + x5_2)).toNat - x4_1.toNat) from (by rw [List.length_drop, List.length_take]; have h_ : ((wrap64 (x4_1 + x5_2)) : Int) ≤ (l0.length : Int) := of_decide_eq_true (by first | (with_reducible assumption) | assumption); omega)]; repeat (first | exact (Kd.C_below HR220.out HB.out) | (with_reducible refine Kd.C_alloc ?_ _) | (with_reducible refine Kd.C_drewN ?_ _) | (with_reducible refine Kd.C_drew ?_))) | (repeat (first | exact (Kd.C_below HR220.out HB.out) | (with_reducible refine Kd.C_alloc ?_ _) | (with_reducible refine Kd.C_drewN ?_ _) | (with_reducible refine Kd.C_drew ?_)))); (case aB => exact (by repeat (first | (with_reducible first | exact HB.out | apply below_alloc | apply pw_below_drewN | apply below_drew1) | exact HB.out))); (case aF => exact (fun _ _ => trivial)); (case aO => exact (by (with_reducible repeat (first | apply Kd.R_alloc | apply Kd.R_drewN | apply Kd.R_drew)); exact HO219.out)); (case aS => exact (below_size (by repeat (first | (with_reducible first | exact HB.out | apply below_alloc | apply pw_below_drewN | apply below_drew1) | exact HB.out)))); (case aL => have := LMc12.out; have hlx_ := (show ((l0.take ((wrap64 (x4_1 + x5_2)) : Int).toNat).drop (x4_1 : Int).toNat).length = ((wrap64 (x4_1 + x5_2)).toNat - x4_1.toNat) from (by rw [List.length_drop, List.length_take]; have h_ : ((wrap64 (x4_1 + x5_2)) : Int) ≤ (l0.length : Int) := of_decide_eq_true (by first | (with_reducible assumption) | assumption); omega)); omega); intro v222 w25 ho hb hg hat; rw [← Ny221.out] at ho; have n0_ := Aside0.mk (hb); have n1_ := Aside0.mk (ho); clear HB; clear HO219; have HB := n0_; have HO223 := n1_; clear n0_ n1_; clear ho hb hg hat))
                              go_roundg kj1
                              case measure => have := HK1.out; have := HK2.out; have := HJ1.out; omega
                              case rel => exact ⟨(y221), (wrap64 (x4_1 + x5_2)), (by first | rfl | (simp; done) | (simp [*]; done)), H', ⟨by have := HK1.out; have := HK2.out; have := HJ1.out; omega⟩, ⟨by (with_reducible repeat (first | apply Kd.R_alloc | apply Kd.R_drewN | apply Kd.R_drew)); exact HO223.out⟩, ⟨by repeat (first | (with_reducible first | exact HB.out | apply below_alloc | apply pw_below_drewN | apply below_drew1) | exact HB.out)⟩⟩
                        · rw [if_neg c12] at H
                          exact absurd H (by simp)
                      · rw [if_neg c11] at H
                        exact absurd H (by simp)
                    · rw [if_neg c10] at H
                      exact absurd H (by simp)
                  · rw [if_neg c9] at H
                    exact absurd H (by simp)
                · rw [if_neg c8] at H
                  exact absurd H (by simp)

/-! ### trickleref43_Stream: function 36 -/
def trickleref43_Stream.l0 : Nat → List (List Int) → List Int → Int → Option (List Int)
  | 0, _, _, _ => none
  | k + 1, x0, x3, x4 => if x4 < (x0.length : Int) then (if 0 ≤ x4 then ((trickleref03_Encode.f k (rd_L1 x0 x4)).bind fun t228 => (if x3.length + t228.length < 140737488355328 then (trickleref43_Stream.l0 k x0 (x3 ++ t228) (wrap64 (x4 + 1))) else (none))) else (none)) else (some x3)
def trickleref43_Stream.f (k : Nat) (l0 : List (List Int)) : Option (List Int) := trickleref43_Stream.l0 k l0 ([] : List Int) 0
set_option maxHeartbeats 8000000 in
set_option maxRecDepth 100000 in
theorem trickleref43_Stream.calls (k : Nat) (A0 : Option Addr) (c0 : Nat) (l0 : List (List Int)) (r : List Int) (w : World) (hr0 : Kd.C (Kd.slice 5 (Kd.int .u8)) w A0 l0.length l0) (hc0 : l0.length ≤ c0) (h : trickleref43_Stream.f k l0 = some r) :
    Calls Tryd.prog 36 #[.slice A0 l0.length c0] w fun e w' => ∃ v0_ : Value, e = .returned (v0_) ∧ Kd.R (Kd.int .u8) 5 w' w.heap.size (fun _ => True) v0_ r ∧ Below w.heap.size w w' := by
  have HR0 := Aside0.mk hr0
  have HC0 := Aside0.mk hc0
  clear hr0 hc0
  have HB := Aside0.mk (Below.refl w.heap.size w)
  have H : (trickleref43_Stream.l0 k l0 ([] : List Int) 0) = some r := h
  clear h
  have H' := Aside0.mk H
  clear H
  go_enter Tryd.func36, Tryd.ntmps36
  go_wp2
  go_loopg [3, 4] k (fun kq v3 v4 w' => ∃ (x3_1 : List Int) (x4_1 : Int), v4 = .int .i64 x4_1 ∧ Aside0 (trickleref43_Stream.l0 kq l0 x3_1 x4_1 = some r) ∧ Aside0 (kq ≤ k) ∧ Aside0 (Kd.R (Kd.int .u8) 5 w' w.heap.size (fun _ => True) v3 x3_1) ∧ Aside0 (Below w.heap.size w w'))
  case atStart => exact ⟨(([] : List Int)), (0), (by first | rfl | (simp; done) | (simp [*]; done)), H', ⟨Nat.le_refl _⟩, ⟨by first | exact Kd.R_nil _ _ _ _ _ | exact Kd.N_nil _ _ _ _ _ | exact Kd.V_nil _ _ _ _ _ | exact Kd.Q_nil _ _ _ _ _ | exact Kd.S_nil _ _ _ _ _⟩, ⟨by repeat (first | (with_reducible first | exact HB.out | apply below_alloc | apply pw_below_drewN | apply below_drew1) | exact HB.out)⟩⟩
  case round =>
    clear H'
    obtain ⟨x3_1, x4_1, rfl, HA, HK1, HO_3, HB⟩ := hrel
    cases gk with
    | zero => exact absurd HA.out (by simp [trickleref43_Stream.l0])
    | succ k1 =>
      have H := HA.out
      clear HA
      simp only [trickleref43_Stream.l0] at H
      by_cases c2 : x4_1 < (l0.length : Int)
      · rw [if_pos c2] at H
        have c2b0 : decide (x4_1 < (l0.length : Int)) = true := decide_eq_true c2
        clear c2
        by_cases c3 : 0 ≤ x4_1
        · rw [if_pos c3] at H
          have c3b0 : decide (0 ≤ x4_1) = true := decide_eq_true c3
          clear c3
          replace H := Option.bind_eq_some_iff.mp H
          obtain ⟨t228, A40, H⟩ := H
          replace H : (if x3_1.length + t228.length < 140737488355328 then (trickleref43_Stream.l0 k1 l0 (x3_1 ++ t228) (wrap64 (x4_1 + 1))) else (none)) = some r := H
          have A4 := Aside0.mk A40
          clear A40
          by_cases c5 : x3_1.length + t228.length < 140737488355328
          · rw [if_pos c5] at H
            have LMc5 := Aside0.mk c5
            clear c5
            obtain ⟨y231, hy231⟩ : ∃ y_ : List Int, y_ = (x3_1 ++ t228) := ⟨_, rfl⟩
            replace H : (trickleref43_Stream.l0 k1 l0 y231 (wrap64 (x4_1 + 1))) = some r := by first | (rw [hy231]; with_reducible exact H) | (have H2_ := (Option.bind_some _ _).symm.trans H; rw [hy231]; with_reducible exact H2_) | (have H2_ := (Option.bind_some _ _).symm.trans H; with_reducible exact H2_) | with_reducible exact H | (rw [hy231]; exact H) | exact H
            have Ny231 := Aside0.mk hy231
            clear hy231
            have H' := Aside0.mk H
            clear H
            have p227 : 0 ≤ (x4_1 : Int) := of_decide_eq_true (by first | (with_reducible assumption) | assumption)
            have q227 : x4_1 < (l0.length : Int) := of_decide_eq_true (by first | (with_reducible assumption) | assumption)
            obtain ⟨ad227, A227_0, c227_0, e227, hx227_0, hl227_0, hi227_0⟩ := at_L1 HR0.out x4_1 p227 q227
            cases e227
            replace hx227_0 := (HB.out.cell (World.block_lt_of_cell? w _ hx227_0)).trans hx227_0
            have HR227_0 := Aside0.mk hi227_0
            have HC227_0 := Aside0.mk hl227_0
            clear hi227_0 hl227_0
            replace p227 := eq_true p227
            replace q227 := eq_true q227
            go_wp2_with (first | ((with_reducible refine gate_callee (f := 57) rfl ?_); refine goesL_ (some 16) rfl rfl Tryd.func57 (by kernel_rfl) rfl #[.slice A227_0 (rd_L1 l0 x4_1).length c227_0] rfl (by (try simp only [List.map_toArray, List.map_cons, List.map_nil]); first | done | rfl | (simp only [List.length_drop, List.length_take]; rfl)) ?_; (with_reducible refine (trickleref03_Encode.calls k1 _ _ (rd_L1 l0 x4_1) t228 _ ?side1 ?side2 A4.out).mono ?_); (case side1 => repeat (first | exact (Kd.C_below HR227_0.out HB.out) | (with_reducible refine Kd.C_alloc ?_ _) | (with_reducible refine Kd.C_drewN ?_ _) | (with_reducible refine Kd.C_drew ?_))); (case side2 => exact HC227_0.out); rintro e w6 ⟨v229, rfl, ho0, hb⟩; refine ⟨_, rfl, ?_⟩; have n0_ := Aside0.mk (Kd.R_elder' (by (with_reducible repeat (first | apply Kd.R_alloc | apply Kd.R_drewN | apply Kd.R_drew)); exact HO_3.out) (Kd.R_base ho0) hb); have n1_ := Aside0.mk (Kd.R_lower (Kd.R_new' ho0 (Kd.R_lt (by (with_reducible repeat (first | apply Kd.R_alloc | apply Kd.R_drewN | apply Kd.R_drew)); exact HO_3.out))) (below_size (by repeat (first | (with_reducible first | exact HB.out | apply below_alloc | apply pw_below_drewN | apply below_drew1) | exact HB.out)))); have n2_ := Aside0.mk (below_step (by repeat (first | (with_reducible first | exact HB.out | apply below_alloc | apply pw_below_drewN | apply below_drew1) | exact HB.out)) hb); clear HO_3; clear HB; have HO_3 := n0_; have HO230 := n1_; have HB := n2_; clear n0_ n1_ n2_; (try clear hb); (try clear hb2); (try clear hk); (try clear hi); (try clear ho0); obtain ⟨Ao8, co8, eo8⟩ := Kd.R_slice HO230.out; subst eo8) | ((with_reducible refine gate_builtin (b := .append) (xs := #[.tmp 11, .tmp 16]) rfl ?_); at_builtin; refine Kd.R_append_rows (Kd.int .u8) (w0 := w) w.heap.size rfl (.tmp 11) (.tmp 16) 24 5 (.int .u8 0) 1 rfl Tryd.underlying24 info5 rfl (by decide) (by omega) u3 x3_1 t228 _ _ _ (fun k_ => some k_ ≠ (.slice Ao8 t228.length co8 : Value).ownBlock) (fun _ => False) rfl rfl ?aO ?aR (fun _ _ h => h) (fun _ h => h.elim) ?aF ?aB ?aS ?aL ?_; (case aR => repeat (first | exact (Kd.R_reads' HO230.out).2.2 | (with_reducible refine Kd.C_alloc ?_ _) | (with_reducible refine Kd.C_drewN ?_ _) | (with_reducible refine Kd.C_drew ?_))); (case aB => exact (by repeat (first | (with_reducible first | exact HB.out | apply below_alloc | apply pw_below_drewN | apply below_drew1) | exact HB.out))); (case aF => exact (fun k_ hk => Kd.fresh' (Kd.R_lt (by (with_reducible repeat (first | apply Kd.R_alloc | apply Kd.R_drewN | apply Kd.R_drew)); exact HO230.out)) k_ hk)); (case aO => exact (by (with_reducible repeat (first | apply Kd.R_alloc | apply Kd.R_drewN | apply Kd.R_drew)); exact Kd.R_mono HO_3.out (fun _ hk => hk.2))); (case aS => exact (below_size (by repeat (first | (with_reducible first | exact HB.out | apply below_alloc | apply pw_below_drewN | apply below_drew1) | exact HB.out)))); (case aL => have := LMc5.out; omega); intro v232 w7 ho hb hg hat; rw [← Ny231.out] at ho; have n0_ := Aside0.mk (Kd.R_after (ok := (fun _ => True)) (by (with_reducible repeat (first | apply Kd.R_alloc | apply Kd.R_drewN | apply Kd.R_drew)); exact HO230.out) hg hat); have n1_ := Aside0.mk (hb); have n2_ := Aside0.mk (ho); clear HO230; clear HB; clear HO_3; have HO230 := n0_; have HB := n1_; have HO233 := n2_; clear n0_ n1_ n2_; clear ho hb hg hat))
            go_roundg k1
            case measure => have := HK1.out; omega
            case rel => exact ⟨(y231), (wrap64 (x4_1 + 1)), (by first | rfl | (simp; done) | (simp [*]; done)), H', ⟨by have := HK1.out; omega⟩, ⟨by (with_reducible repeat (first | apply Kd.R_alloc | apply Kd.R_drewN | apply Kd.R_drew)); exact Kd.R_mono HO233.out (fun _ hk => trivial)⟩, ⟨by repeat (first | (with_reducible first | exact HB.out | apply below_alloc | apply pw_below_drewN | apply below_drew1) | exact HB.out)⟩⟩
          · rw [if_neg c5] at H
            exact absurd H (by simp)
        · rw [if_neg c3] at H
          exact absurd H (by simp)
      · rw [if_neg c2] at H
        have c2b0 : decide (x4_1 < (l0.length : Int)) = false := decide_eq_false c2
        clear c2
        obtain rfl := Option.some.inj H
        go_wp2
        go_ret
        exact ⟨_, by first | rfl | (simp [errW_none, errW_some] <;> rfl) | (simp [*, errW_none, errW_some] <;> rfl), by (with_reducible repeat (first | apply Kd.R_alloc | apply Kd.R_drewN | apply Kd.R_drew)); exact HO_3.out, by repeat (first | (with_reducible first | exact HB.out | apply below_alloc | apply pw_below_drewN | apply below_drew1) | exact HB.out)⟩

/-! ### trickleref03_Same: function 58 -/
def trickleref03_Same.f (l0 : List Int) (l1 : List Int) : Option (Bool) := some ((strOfNums l0).toList == (strOfNums l1).toList)
set_option maxHeartbeats 8000000 in
set_option maxRecDepth 100000 in
theorem trickleref03_Same.calls (A0 : Option Addr) (c0 : Nat) (l0 : List Int) (A1 : Option Addr) (c1 : Nat) (l1 : List Int) (r : Bool) (w : World) (hr0 : Kd.C (Kd.int .u8) w A0 l0.length l0) (hc0 : l0.length ≤ c0) (hr1 : Kd.C (Kd.int .u8) w A1 l1.length l1) (hc1 : l1.length ≤ c1) (h : trickleref03_Same.f l0 l1 = some r) :
    Calls Tryd.prog 58 #[.slice A0 l0.length c0, .slice A1 l1.length c1] w fun e w' => e = .returned (.bool r) ∧ Drawn0 w w' := by
  have HR0 := Aside0.mk hr0
  have HC0 := Aside0.mk hc0
  clear hr0 hc0
  have HR1 := Aside0.mk hr1
  have HC1 := Aside0.mk hc1
  clear hr1 hc1
  have H : (some ((strOfNums l0).toList == (strOfNums l1).toList)) = some r := h
  clear h
  obtain rfl := Option.some.inj H
  have hcv3 := Kd.C_string (P := Tryd.prog) (A := A0) (c := c0) Tryd.underlying24 Tryd.underlying5 Tryd.underlying9 HR0.out
  have hcv4 := Kd.C_string (P := Tryd.prog) (A := A1) (c := c1) Tryd.underlying24 Tryd.underlying5 Tryd.underlying9 HR1.out
  go_enter Tryd.func58, Tryd.ntmps58
  go_wp2
  go_ret
  exact ⟨by first | rfl | (simp; done) | (simp [*]; done), by repeat (first | exact Drawn0.refl _ | apply Drawn0.step)⟩

end Go.Proofs.YtfhnpphceeoeeaaDoor.PX
/- cobs.Encode computes cob. -/
namespace Go.Proofs.YtfhnpphceeoeeaaDoor.PX
open Go.RowKit Go.Proofs.YtfhnpphceeoeeaaDoorW.PrintWords Go.Proofs.YtfhnpphceeoeeaaDoorW.PrintLast Go.Proofs.YtfhnpphceeoeeaaDoorW.PrintMore
set_option linter.unusedVariables false
set_option linter.unusedSimpArgs false
theorem idxZ (l : List Int) (hb : Bytes l) : Lib.indexByte (Lib.bytesOf l) 0 = if cutZ l < l.length then (cutZ l : Int) else -1 := by
  induction l with
  | nil => rfl
  | cons x r ih =>
    have hx := hb x (by simp)
    have ih := ih (fun y hy => hb y (by simp [hy]))
    have hle := cutZ_le r
    have e : Lib.bytesOf (x :: r) = UInt8.ofNat x.toNat :: Lib.bytesOf r := rfl
    rw [e, Lib.indexByte, cutZ, List.length_cons]
    by_cases h0 : x = 0
    · subst h0
      rw [if_pos rfl, if_pos (show (UInt8.ofNat (Int.toNat 0) == 0) = true from rfl), if_pos (by omega)]; rfl
    · have hne : ¬ ((UInt8.ofNat x.toNat == 0) = true) := by
        rw [beq_iff_eq]
        intro h
        have h1 := congrArg UInt8.toNat h
        rw [UInt8.toNat_ofNat'] at h1
        have h2 : (0 : UInt8).toNat = 0 := rfl
        rw [h2] at h1
        omega
      rw [if_neg hne, if_neg h0, ih]
      by_cases h : cutZ r < r.length
      · rw [if_pos h, if_neg (by rw [beq_iff_eq]; omega), if_pos (by omega)]; omega
      · rw [if_neg h, if_neg (show ¬ (cutZ r + 1 < r.length + 1) by omega)]; rfl
theorem cutZ_take : ∀ (l : List Int) (m : Nat), cutZ (l.take m) = min (cutZ l) m
  | [], m => by simp [cutZ]
  | x :: r, 0 => by simp [cutZ]
  | x :: r, m + 1 => by
    rw [List.take_succ_cons, cutZ, cutZ]
    by_cases h : x = 0
    · rw [if_pos h, if_pos h, Nat.zero_min]
    · rw [if_neg h, if_neg h, cutZ_take r m]; omega
theorem encode_loop : ∀ (f : Nat) (l acc : List Int), l.length < f → Bytes l → acc.length + 2 * l.length ≤ 900000 → Ev (fun k => cobs_Encode.l0 k l acc) (acc ++ encC f l)
  | 0, l, acc, h, _, _ => by omega
  | f + 1, l, acc, h, hb, hn => by
    obtain ⟨h1, h2⟩ := run_le l
    have hcz := cutZ_le l
    have hmn : mn (l.length : Int) 254 = ((min l.length 254 : Nat) : Int) := by unfold mn; omega
    refine Ev.step (fun k => by rw [cobs_Encode.l0]) ?_
    rw [hmn, Int.toNat_natCast]
    refine Ev.pos (by omega) (Ev.pos (by omega) ?_)
    have hidx := idxZ (l.take (min l.length 254)) (fun x hx => hb x (List.mem_of_mem_take hx))
    rw [cutZ_take, List.length_take] at hidx
    refine Ev.const (a := if min (cutZ l) (min l.length 254) < min (min l.length 254) l.length then ((min (cutZ l) (min l.length 254) : Nat) : Int) else -1) (by unfold bytes_IndexByte.f; exact congrArg some hidx) ?_
    have hj : Ev (fun k => cobs_Encode.j1 k l acc ((run l : Nat) : Int)) (acc ++ encC (f + 1) l) := by
      have w : wrap64 ((run l : Int) + 1) % 256 = (run l : Int) + 1 := by rw [wrap_id (by omega) (by omega)]; omega
      refine Ev.step (fun k => by rw [cobs_Encode.j1]) ?_
      rw [w, Int.toNat_natCast]
      clear w
      refine Ev.pos (by omega) (Ev.someb ?_)
      refine Ev.pos (by omega) (Ev.pos (by omega) (Ev.someb ?_))
      have hlt : (l.take (run l)).length = run l := by rw [List.length_take]; omega
      refine Ev.pos (by rw [List.length_append, hlt, List.length_singleton]; omega) (Ev.someb (Ev.someb ?_))
      rw [encC]
      by_cases hl : l.length ≤ run l
      · rw [if_pos hl]
        refine Ev.pos (by rw [List.length_drop]; omega) (Ev.pos (by rw [List.length_append, List.length_append, hlt, List.length_singleton]; omega) (Ev.cast (Ev.now _) ?_))
        simp only [List.append_assoc, List.cons_append, List.nil_append]
      · rw [if_neg hl]
        have hr := rest1_lt l hl
        refine Ev.neg (by rw [List.length_drop]; omega) ?_
        have go : ∀ l', l' = rest1 l → Ev (fun k => cobs_Encode.l0 k l' (acc ++ [(run l : Int) + 1] ++ l.take (run l))) (acc ++ ((run l : Int) + 1) :: (l.take (run l) ++ encC f (rest1 l))) := by
          rintro l' rfl
          refine Ev.cast (encode_loop f (rest1 l) _ (by omega) ?_ ?_) ?_
          · intro x hx
            unfold rest1 at hx
            split at hx <;> exact hb x (List.mem_of_mem_drop hx)
          · rw [List.length_append, List.length_append, hlt, List.length_singleton]
            have : (rest1 l).length + run l ≤ l.length := by unfold rest1; split <;> rw [List.length_drop] <;> omega
            omega
          · simp only [List.append_assoc, List.cons_append, List.nil_append]
        by_cases h3 : run l < 254
        · refine Ev.pos (by omega) (Ev.pos (by rw [List.length_drop]; omega) (go _ ?_))
          unfold rest1
          rw [if_pos h3, List.drop_drop]
        · refine Ev.neg (by omega) (go _ ?_)
          unfold rest1
          rw [if_neg h3]
    have hrun : run l = min (cutZ l) 254 := rfl
    by_cases hc : min (cutZ l) (min l.length 254) < min (min l.length 254) l.length
    · rw [if_pos hc]
      refine Ev.neg (by omega) ?_
      have e : min (cutZ l) (min l.length 254) = run l := by omega
      rw [e]
      exact hj
    · rw [if_neg hc]
      refine Ev.pos (by omega) ?_
      have e : min l.length 254 = run l := by omega
      rw [e]
      exact hj
theorem cob_encode (l : List Int) (hb : Bytes l) (hn : l.length ≤ 10000) : Ev (fun k => cobs_Encode.f k l) (cob l) := by
  refine Ev.congr (fun k => by rw [cobs_Encode.f]) ?_
  have h := encode_loop (l.length + 1) l [] (Nat.lt_succ_self _) hb (by simp; omega)
  rw [List.nil_append] at h
  exact h
end Go.Proofs.YtfhnpphceeoeeaaDoor.PX
/- The reference's Encode computes cob. -/
namespace Go.Proofs.YtfhnpphceeoeeaaDoor.PX
open Go.RowKit Go.Proofs.YtfhnpphceeoeeaaDoorW.PrintWords Go.Proofs.YtfhnpphceeoeeaaDoorW.PrintLast Go.Proofs.YtfhnpphceeoeeaaDoorW.PrintMore
set_option linter.unusedVariables false
set_option linter.unusedSimpArgs false
/-- The inner loop counts the bytes of a group. -/
theorem count_loop (x0 acc : List Int) (p : Nat) (R : List Int) (hn : x0.length ≤ 1000000) (hp : p ≤ x0.length) (hend : Ev (fun k => trickleref03_Encode.j2 k x0 acc (p : Int) ((run (x0.drop p) : Nat) : Int) false) R) :
    ∀ (d i : Nat), i + d = run (x0.drop p) → Ev (fun k => trickleref03_Encode.l1 k x0 acc (p : Int) (i : Int)) R
  | 0, i, hi => by
    obtain ⟨h1, h2⟩ := run_le (x0.drop p)
    rw [List.length_drop] at h1
    have e : i = run (x0.drop p) := by omega
    have w : wrap64 ((p : Int) + (i : Int)) = ((p + i : Nat) : Int) := by rw [wrap_id (by omega) (by omega)]; omega
    refine Ev.step (fun k => by rw [trickleref03_Encode.l1]) ?_
    rw [w]
    clear w
    rw [← e] at hend
    by_cases h254 : i < 254
    · refine Ev.pos (by omega) ?_
      by_cases hl : p + i < x0.length
      · refine Ev.pos (by omega) (Ev.pos (by omega) ?_)
        have hz : run (x0.drop p) = cutZ (x0.drop p) := by unfold run at e ⊢; omega
        have hat := cutZ_at (x0.drop p) (by rw [List.length_drop]; omega)
        have hrd : rd x0 ((p + i : Nat) : Int) = 0 := by
          rw [rd_nat x0 _ hl]
          rw [List.getElem_drop] at hat
          simp only [e, hz]
          exact hat
        rw [hrd, show ((0 : Int) != 0) = false from rfl]
        exact hend
      · exact Ev.neg (by omega) hend
    · exact Ev.neg (by omega) hend
  | d + 1, i, hi => by
    obtain ⟨h1, h2⟩ := run_le (x0.drop p)
    rw [List.length_drop] at h1
    have hl : p + i < x0.length := by omega
    have w : wrap64 ((p : Int) + (i : Int)) = ((p + i : Nat) : Int) := by rw [wrap_id (by omega) (by omega)]; omega
    have w2 : wrap64 ((i : Int) + 1) = ((i + 1 : Nat) : Int) := by rw [wrap_id (by omega) (by omega)]; omega
    have hne := cutZ_ne (x0.drop p) i (by rw [List.length_drop]; omega) (by unfold run at hi; omega)
    rw [List.getElem_drop] at hne
    refine Ev.step (fun k => by rw [trickleref03_Encode.l1]) ?_
    rw [w, rd_nat x0 _ hl]
    clear w
    refine Ev.pos (by omega) (Ev.pos (by omega) (Ev.pos (by omega) ?_))
    rw [show (x0[p + i] != 0) = true from bne_iff_ne.mpr hne]
    refine Ev.step (fun k => by rw [trickleref03_Encode.j2]) ?_
    rw [w2]
    exact Ev.pos rfl (count_loop x0 acc p R hn hp hend d (i + 1) (by omega))
theorem rencode_loop (x0 : List Int) (hn : x0.length ≤ 10000) : ∀ (f p : Nat) (acc : List Int), p ≤ x0.length → x0.length - p < f → acc.length + 2 * (x0.length - p) ≤ 900000 → Ev (fun k => trickleref03_Encode.l0 k x0 acc (p : Int)) (acc ++ encC f (x0.drop p))
  | 0, p, acc, hp, h, _ => by omega
  | f + 1, p, acc, hp, h, ha => by
    obtain ⟨h1, h2⟩ := run_le (x0.drop p)
    rw [List.length_drop] at h1
    refine Ev.step (fun k => by rw [trickleref03_Encode.l0]) ?_
    refine count_loop x0 acc p _ (by omega) hp ?_ (run (x0.drop p)) 0 (Nat.zero_add _)
    have w : wrap64 ((p : Int) + ((run (x0.drop p) : Nat) : Int)) = ((p + run (x0.drop p) : Nat) : Int) := by rw [wrap_id (by omega) (by omega)]; omega
    have w2 : wrap64 (((run (x0.drop p) : Nat) : Int) + 1) % 256 = ((run (x0.drop p) : Nat) : Int) + 1 := by rw [wrap_id (by omega) (by omega)]; omega
    have w3 : wrap64 (((p + run (x0.drop p) : Nat) : Int) + 1) = ((p + run (x0.drop p) + 1 : Nat) : Int) := by rw [wrap_id (by omega) (by omega)]; omega
    have hcut : (x0.take (p + run (x0.drop p))).drop p = (x0.drop p).take (run (x0.drop p)) := by rw [List.drop_take, Nat.add_sub_cancel_left]
    have hlt : ((x0.drop p).take (run (x0.drop p))).length = run (x0.drop p) := by rw [List.length_take, List.length_drop]; omega
    refine Ev.step (fun k => by rw [trickleref03_Encode.j2]) ?_
    rw [w, w2, w3, Int.toNat_natCast, Int.toNat_natCast, hcut]
    clear w w2 w3
    refine Ev.neg (by decide) (Ev.pos (by omega) (Ev.someb ?_))
    refine Ev.pos (by omega) (Ev.pos (by omega) (Ev.pos (by omega) ?_))
    refine Ev.pos (by rw [List.length_append, hlt, List.length_singleton]; omega) (Ev.someb ?_)
    have hL : (x0.drop p).length = x0.length - p := List.length_drop ..
    rw [encC]
    by_cases hl : (x0.drop p).length ≤ run (x0.drop p)
    · rw [if_pos hl]
      refine Ev.pos (by omega) (Ev.pos (by rw [List.length_append, List.length_append, hlt, List.length_singleton]; omega) (Ev.cast (Ev.now _) ?_))
      simp only [List.append_assoc, List.cons_append, List.nil_append]
    · rw [if_neg hl]
      refine Ev.neg (by omega) ?_
      by_cases h3 : run (x0.drop p) < 254
      · refine Ev.pos (by omega) ?_
        rw [if_pos h3, List.drop_drop]
        refine Ev.cast (rencode_loop x0 hn f (p + run (x0.drop p) + 1) _ (by omega) (by omega) (by rw [List.length_append, List.length_append, hlt, List.length_singleton]; omega)) ?_
        rw [Nat.add_assoc p]
        simp only [List.append_assoc, List.cons_append, List.nil_append]
      · refine Ev.neg (by omega) ?_
        rw [if_neg h3, List.drop_drop]
        refine Ev.cast (rencode_loop x0 hn f (p + run (x0.drop p)) _ (by omega) (by omega) (by rw [List.length_append, List.length_append, hlt, List.length_singleton]; omega)) ?_
        simp only [List.append_assoc, List.cons_append, List.nil_append]
theorem cob_rencode (l : List Int) (hn : l.length ≤ 10000) : Ev (fun k => trickleref03_Encode.f k l) (cob l) := by
  refine Ev.congr (fun k => by rw [trickleref03_Encode.f]) ?_
  have h := rencode_loop l hn (l.length + 1) 0 [] (by omega) (by omega) (by simp; omega)
  rw [List.nil_append, List.drop_zero] at h
  exact h
end Go.Proofs.YtfhnpphceeoeeaaDoor.PX
