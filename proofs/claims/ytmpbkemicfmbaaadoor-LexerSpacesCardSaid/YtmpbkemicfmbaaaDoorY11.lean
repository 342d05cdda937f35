/- Parts of the proof, merged in build order: MSpaces, PureLexerSpaces. -/
import Derived.Test.YtmpbkemicfmbaaaDoorY1
import Derived.Test.YtmpbkemicfmbaaaDoorY4
import Derived.Test.YtmpbkemicfmbaaaDoorY5
import Derived.Test.YtmpbkemicfmbaaaDoorY9
-- Written by a program of this session (wip/xprint.py, over the kit's print tool). Lean checks it.
namespace Go.Proofs.YtmpbkemicfmbaaaDoor.PX
open Go.RowKit Go.Proofs.YtmpbkemicfmbaaaDoorW.PrintWords Go.Proofs.YtmpbkemicfmbaaaDoorW.PrintLast Go.Proofs.YtmpbkemicfmbaaaDoorW.PrintMore
attribute [local go_sem] max2_int min2_int max_two min_two max_three min_three max_four min_four   -- for this text's walks alone
set_option linter.unusedVariables false
set_option linter.unusedSimpArgs false

/-! ### tricklelaw15_LexerSpaces: function 7 -/
def tricklelaw15_LexerSpaces.j0 : Nat → ByteArray → ByteArray → Bool → Option (Bool)
  | 0, _, _, _ => none
  | k + 1, x0, x1, x16 => if x16 = true then (some true) else ((lexer_Scan.f k x0).bind fun t268 => ((tricklelaw15_plain.f k t268).bind fun t271 => ((lexer_Scan.f k x1).bind fun t274 => ((tricklelaw15_plain.f k t274).bind fun t277 => (if (t271.length : Int) = 0 then (some false) else (if x0.size + 1 ≤ 9223372036854775807 then (if (x0 ++ (⟨#[10]⟩ : ByteArray)).size + x1.size ≤ 9223372036854775807 then ((lexer_Scan.f k ((x0 ++ (⟨#[10]⟩ : ByteArray)) ++ x1)).bind fun t280 => ((tricklelaw15_plain.f k t280).bind fun t283 => ((some (([] : List (S32)) : List (S32))).bind fun y286 => (if 0 ≤ (wrap64 ((t271.length : Int) - 1)) then (if (wrap64 ((t271.length : Int) - 1)) ≤ (t271.length : Int) then ((some (t271.take ((wrap64 ((t271.length : Int) - 1)) : Int).toNat : List (S32))).bind fun y289 => (if y286.length + y289.length < 3518437208883 then ((some (y286 ++ y289 : List (S32))).bind fun y293 => (if y293.length + t277.length < 3518437208883 then ((trickleref15_Same.f k t283 (y293 ++ t277) false).bind fun t299 => (some t299)) else (none))) else (none))) else (none)) else (none))))) else (none)) else (none)))))))
def tricklelaw15_LexerSpaces.f (k : Nat) (a0 : ByteArray) (a1 : ByteArray) : Option (Bool) := (tricklelaw15_wakes.f k).bind fun t267 => (if t267 = true then (if (a0.size : Int) > 300 then (tricklelaw15_LexerSpaces.j0 k a0 a1 true) else (tricklelaw15_LexerSpaces.j0 k a0 a1 (decide ((a1.size : Int) > 300)))) else (some false))
def tricklelaw15_LexerSpaces.T8 : Bool × List (List Nat × List Nat) := (true, [([], []), ([0], [0]), ([], []), ([1, 2], [1, 2]), ([3], [3]), ([4, 4], [4]), ([], []), ([], []), ([], []), ([8], [8]), ([9], [9]), ([7, 10], [7, 10]), ([6, 11, 5], [6, 11]), ([], []), ([12, 13, 12], [12, 13]), ([5, 14, 14], [5, 14]), ([15, 15, 0, 1, 2, 3, 4, 5, 6, 7, 8, 9, 10, 11, 12, 13, 14, 15], [15])])
def tricklelaw15_LexerSpaces.B8 : List Nat := [0, 1, 0, 7, 15, 31, 0, 0, 0, 256, 768, 1920, 4095, 0, 16383, 32767, 65535]
theorem tricklelaw15_LexerSpaces.tab8 : rtab .any (opsOf Tryd.f7 8) = tricklelaw15_LexerSpaces.T8 := by kernel_rfl
theorem tricklelaw15_LexerSpaces.bits8 : waitsOk tricklelaw15_LexerSpaces.T8.2 tricklelaw15_LexerSpaces.B8 = true := by kernel_rfl
set_option maxHeartbeats 8000000 in
set_option maxRecDepth 100000 in
theorem tricklelaw15_LexerSpaces.calls (k : Nat) (a0 : ByteArray) (a1 : ByteArray) (r : Bool) (w : World) (hG : GW w) (h : tricklelaw15_LexerSpaces.f k a0 a1 = some r) :
    Calls Tryd.prog 7 #[.string a0, .string a1] w fun e w' => e = .returned (.bool r) ∧ Below w.heap.size w w' := by
  have HG := Aside0.mk hG
  clear hG
  have HB := Aside0.mk (Below.refl w.heap.size w)
  have H : ((tricklelaw15_wakes.f k).bind fun t267 => (if t267 = true then (if (a0.size : Int) > 300 then (tricklelaw15_LexerSpaces.j0 k a0 a1 true) else (tricklelaw15_LexerSpaces.j0 k a0 a1 (decide ((a1.size : Int) > 300)))) else (some false))) = some r := h
  clear h
  replace H := Option.bind_eq_some_iff.mp H
  obtain ⟨t267, A30, H⟩ := H
  replace H : (if t267 = true then (if (a0.size : Int) > 300 then (tricklelaw15_LexerSpaces.j0 k a0 a1 true) else (tricklelaw15_LexerSpaces.j0 k a0 a1 (decide ((a1.size : Int) > 300)))) else (some false)) = some r := H
  have A3 := Aside0.mk A30
  clear A30
  by_cases c4 : t267 = true
  · subst c4
    have H1 : (if (a0.size : Int) > 300 then (tricklelaw15_LexerSpaces.j0 k a0 a1 true) else (tricklelaw15_LexerSpaces.j0 k a0 a1 (decide ((a1.size : Int) > 300)))) = some r := by rw [if_pos rfl] at H; exact H
    clear H
    have H := H1
    clear H1
    have HC5 := Aside0.mk H
    clear H
    go_enter Tryd.func7, Tryd.ntmps7
    go_upto_region 3 with (first | ((with_reducible refine gate_callee (f := 10) rfl ?_); refine goesL_ (some 7) rfl rfl Tryd.func10 (by kernel_rfl) rfl #[] rfl (by (try simp only [List.map_toArray, List.map_cons, List.map_nil]); first | done | rfl | (simp only [List.length_drop, List.length_take]; rfl)) ?_; (with_reducible refine (tricklelaw15_wakes.calls k  true _ ?side1 A3.out).mono ?_); (case side1 => refine GW.below HG.out ?_; repeat (first | (with_reducible first | exact HB.out | apply below_alloc | apply pw_below_drewN | apply below_drew1) | exact HB.out)); rintro e w6 ⟨rfl, hb⟩; refine ⟨_, rfl, ?_⟩; have n0_ := Aside0.mk (below_step (by repeat (first | (with_reducible first | exact HB.out | apply below_alloc | apply pw_below_drewN | apply below_drew1) | exact HB.out)) hb); clear HB; have HB := n0_; clear n0_; (try clear hb); (try clear hb2); (try clear hk); (try clear hi)))
    (try simp only [Act.put, List.setIfInBounds_toArray, List.set_cons_zero, List.set_cons_succ])
    go_cut [16] (fun v16 wc => ∃ (kq : Nat) (x16_4 : Bool), v16 = .bool x16_4 ∧ Aside0 (tricklelaw15_LexerSpaces.j0 kq a0 a1 x16_4 = some r) ∧ Aside0 (kq ≤ k) ∧ Aside0 (Below w.heap.size w wc))
    case first =>
      have H := HC5.out
      clear HC5
      by_cases c7 : (a0.size : Int) > 300
      · rw [if_pos c7] at H
        have c7b0 : decide (300 < (a0.size : Int)) = true := decide_eq_true c7
        have c7b1 : decide (300 < a0.size) = true := decide_eq_true (by omega)
        clear c7
        (first | rw [c7b0] | (simp only [i64_w, i32_w]; rw [c7b0]) | skip)
        have H' := Aside0.mk H
        clear H
        go_wp2
        go_meet
        case rel => exact ⟨_, (true), (by first | rfl | (simp; done) | (simp [*]; done)), H', ⟨by first | omega | exact Nat.le_refl _⟩, ⟨by repeat (first | (with_reducible first | exact HB.out | apply below_alloc | apply pw_below_drewN | apply below_drew1) | exact HB.out)⟩⟩
      · rw [if_neg c7] at H
        have c7b0 : decide (300 < (a0.size : Int)) = false := decide_eq_false c7
        have c7b1 : decide (300 < a0.size) = false := decide_eq_false (by omega)
        clear c7
        (first | rw [c7b0] | (simp only [i64_w, i32_w]; rw [c7b0]) | skip)
        have H' := Aside0.mk H
        clear H
        go_wp2
        go_meet
        case rel => exact ⟨_, (decide ((a1.size : Int) > 300)), (by first | rfl | (simp; done) | (simp [*]; done)), H', ⟨by first | omega | exact Nat.le_refl _⟩, ⟨by repeat (first | (with_reducible first | exact HB.out | apply below_alloc | apply pw_below_drewN | apply below_drew1) | exact HB.out)⟩⟩
    case rest =>
      clear HC5
      try clear c1
      try clear p2
      try clear c4
      try clear c7
      try clear c7b0
      try clear c7b1
      obtain ⟨kq, x16_4, rfl, HA, HJ4, HB⟩ := hcut
      cases kq with
      | zero => exact absurd HA.out (by simp [tricklelaw15_LexerSpaces.j0])
      | succ kj4 =>
        have H := HA.out
        clear HA
        simp only [tricklelaw15_LexerSpaces.j0] at H
        by_cases c8 : x16_4 = true
        · subst c8
          have H1 : (some true) = some r := by rw [if_pos rfl] at H; exact H
          clear H
          have H := H1
          clear H1
          obtain rfl := Option.some.inj H
          go_wp2
          go_ret
          exact ⟨by first | rfl | (simp [errW_none, errW_some] <;> rfl) | (simp [*, errW_none, errW_some] <;> rfl), by repeat (first | (with_reducible first | exact HB.out | apply below_alloc | apply pw_below_drewN | apply below_drew1) | exact HB.out)⟩
        · replace c8 := Bool.eq_false_iff.mpr c8
          subst c8
          have H1 : ((lexer_Scan.f kj4 a0).bind fun t268 => ((tricklelaw15_plain.f kj4 t268).bind fun t271 => ((lexer_Scan.f kj4 a1).bind fun t274 => ((tricklelaw15_plain.f kj4 t274).bind fun t277 => (if (t271.length : Int) = 0 then (some false) else (if a0.size + 1 ≤ 9223372036854775807 then (if (a0 ++ (⟨#[10]⟩ : ByteArray)).size + a1.size ≤ 9223372036854775807 then ((lexer_Scan.f kj4 ((a0 ++ (⟨#[10]⟩ : ByteArray)) ++ a1)).bind fun t280 => ((tricklelaw15_plain.f kj4 t280).bind fun t283 => ((some (([] : List (S32)) : List (S32))).bind fun y286 => (if 0 ≤ (wrap64 ((t271.length : Int) - 1)) then (if (wrap64 ((t271.length : Int) - 1)) ≤ (t271.length : Int) then ((some (t271.take ((wrap64 ((t271.length : Int) - 1)) : Int).toNat : List (S32))).bind fun y289 => (if y286.length + y289.length < 3518437208883 then ((some (y286 ++ y289 : List (S32))).bind fun y293 => (if y293.length + t277.length < 3518437208883 then ((trickleref15_Same.f kj4 t283 (y293 ++ t277) false).bind fun t299 => (some t299)) else (none))) else (none))) else (none)) else (none))))) else (none)) else (none))))))) = some r := by rw [if_neg (show ¬ (false = true) by decide)] at H; exact H
          clear H
          have H := H1
          clear H1
          replace H := Option.bind_eq_some_iff.mp H
          obtain ⟨t268, A90, H⟩ := H
          replace H : ((tricklelaw15_plain.f kj4 t268).bind fun t271 => ((lexer_Scan.f kj4 a1).bind fun t274 => ((tricklelaw15_plain.f kj4 t274).bind fun t277 => (if (t271.length : Int) = 0 then (some false) else (if a0.size + 1 ≤ 9223372036854775807 then (if (a0 ++ (⟨#[10]⟩ : ByteArray)).size + a1.size ≤ 9223372036854775807 then ((lexer_Scan.f kj4 ((a0 ++ (⟨#[10]⟩ : ByteArray)) ++ a1)).bind fun t280 => ((tricklelaw15_plain.f kj4 t280).bind fun t283 => ((some (([] : List (S32)) : List (S32))).bind fun y286 => (if 0 ≤ (wrap64 ((t271.length : Int) - 1)) then (if (wrap64 ((t271.length : Int) - 1)) ≤ (t271.length : Int) then ((some (t271.take ((wrap64 ((t271.length : Int) - 1)) : Int).toNat : List (S32))).bind fun y289 => (if y286.length + y289.length < 3518437208883 then ((some (y286 ++ y289 : List (S32))).bind fun y293 => (if y293.length + t277.length < 3518437208883 then ((trickleref15_Same.f kj4 t283 (y293 ++ t277) false).bind fun t299 => (some t299)) else (none))) else (none))) else (none)) else (none))))) else (none)) else (none)))))) = some r := H
          have A9 := Aside0.mk A90
          clear A90
          replace H := Option.bind_eq_some_iff.mp H
          obtain ⟨t271, A100, H⟩ := H
          replace H : ((lexer_Scan.f kj4 a1).bind fun t274 => ((tricklelaw15_plain.f kj4 t274).bind fun t277 => (if (t271.length : Int) = 0 then (some false) else (if a0.size + 1 ≤ 9223372036854775807 then (if (a0 ++ (⟨#[10]⟩ : ByteArray)).size + a1.size ≤ 9223372036854775807 then ((lexer_Scan.f kj4 ((a0 ++ (⟨#[10]⟩ : ByteArray)) ++ a1)).bind fun t280 => ((tricklelaw15_plain.f kj4 t280).bind fun t283 => ((some (([] : List (S32)) : List (S32))).bind fun y286 => (if 0 ≤ (wrap64 ((t271.length : Int) - 1)) then (if (wrap64 ((t271.length : Int) - 1)) ≤ (t271.length : Int) then ((some (t271.take ((wrap64 ((t271.length : Int) - 1)) : Int).toNat : List (S32))).bind fun y289 => (if y286.length + y289.length < 3518437208883 then ((some (y286 ++ y289 : List (S32))).bind fun y293 => (if y293.length + t277.length < 3518437208883 then ((trickleref15_Same.f kj4 t283 (y293 ++ t277) false).bind fun t299 => (some t299)) else (none))) else (none))) else (none)) else (none))))) else (none)) else (none))))) = some r := H
          have A10 := Aside0.mk A100
          clear A100
          replace H := Option.bind_eq_some_iff.mp H
          obtain ⟨t274, A110, H⟩ := H
          replace H : ((tricklelaw15_plain.f kj4 t274).bind fun t277 => (if (t271.length : Int) = 0 then (some false) else (if a0.size + 1 ≤ 9223372036854775807 then (if (a0 ++ (⟨#[10]⟩ : ByteArray)).size + a1.size ≤ 9223372036854775807 then ((lexer_Scan.f kj4 ((a0 ++ (⟨#[10]⟩ : ByteArray)) ++ a1)).bind fun t280 => ((tricklelaw15_plain.f kj4 t280).bind fun t283 => ((some (([] : List (S32)) : List (S32))).bind fun y286 => (if 0 ≤ (wrap64 ((t271.length : Int) - 1)) then (if (wrap64 ((t271.length : Int) - 1)) ≤ (t271.length : Int) then ((some (t271.take ((wrap64 ((t271.length : Int) - 1)) : Int).toNat : List (S32))).bind fun y289 => (if y286.length + y289.length < 3518437208883 then ((some (y286 ++ y289 : List (S32))).bind fun y293 => (if y293.length + t277.length < 3518437208883 then ((trickleref15_Same.f kj4 t283 (y293 ++ t277) false).bind fun t299 => (some t299)) else (none))) else (none))) else (none)) else (none))))) else (none)) else (none)))) = some r := H
          have A11 := Aside0.mk A110
          clear A110
          replace H := Option.bind_eq_some_iff.mp H
          obtain ⟨t277, A120, H⟩ := H
          replace H : (if (t271.length : Int) = 0 then (some false) else (if a0.size + 1 ≤ 9223372036854775807 then (if (a0 ++ (⟨#[10]⟩ : ByteArray)).size + a1.size ≤ 9223372036854775807 then ((lexer_Scan.f kj4 ((a0 ++ (⟨#[10]⟩ : ByteArray)) ++ a1)).bind fun t280 => ((tricklelaw15_plain.f kj4 t280).bind fun t283 => ((some (([] : List (S32)) : List (S32))).bind fun y286 => (if 0 ≤ (wrap64 ((t271.length : Int) - 1)) then (if (wrap64 ((t271.length : Int) - 1)) ≤ (t271.length : Int) then ((some (t271.take ((wrap64 ((t271.length : Int) - 1)) : Int).toNat : List (S32))).bind fun y289 => (if y286.length + y289.length < 3518437208883 then ((some (y286 ++ y289 : List (S32))).bind fun y293 => (if y293.length + t277.length < 3518437208883 then ((trickleref15_Same.f kj4 t283 (y293 ++ t277) false).bind fun t299 => (some t299)) else (none))) else (none))) else (none)) else (none))))) else (none)) else (none))) = some r := H
          have A12 := Aside0.mk A120
          clear A120
          by_cases c13 : (t271.length : Int) = 0
          · rw [if_pos c13] at H
            have c13b0 : ((t271.length : Int) == 0) = true := beq_iff_eq.mpr c13
            have c13b1 : ((t271.length : Int) != 0) = false := bne_eq_false_iff_eq.mpr c13
            clear c13
            obtain rfl := Option.some.inj H
            go_wp2_with (first | ((with_reducible refine gate_callee (f := 13) rfl ?_); refine goesL_ (some 18) rfl rfl Tryd.func13 (by kernel_rfl) rfl #[.string a0] rfl (by (try simp only [List.map_toArray, List.map_cons, List.map_nil]); first | done | rfl | (simp only [List.length_drop, List.length_take]; rfl)) ?_; (with_reducible refine (lexer_Scan.calls kj4 a0 t268 _ ?side1 A9.out).mono ?_); (case side1 => refine GW.below HG.out ?_; repeat (first | (with_reducible first | exact HB.out | apply below_alloc | apply pw_below_drewN | apply below_drew1) | exact HB.out)); rintro e w14 ⟨v269, rfl, ho0, hb⟩; refine ⟨_, rfl, ?_⟩; have n0_ := Aside0.mk (Kd.R_lower ho0 (below_size (by repeat (first | (with_reducible first | exact HB.out | apply below_alloc | apply pw_below_drewN | apply below_drew1) | exact HB.out)))); have n1_ := Aside0.mk (below_step (by repeat (first | (with_reducible first | exact HB.out | apply below_alloc | apply pw_below_drewN | apply below_drew1) | exact HB.out)) hb); clear HB; have HO270 := n0_; have HB := n1_; clear n0_ n1_; (try clear hb); (try clear hb2); (try clear hk); (try clear hi); (try clear ho0); obtain ⟨Ao15, co15, eo15⟩ := Kd.R_slice HO270.out; subst eo15) | ((with_reducible refine gate_callee (f := 12) rfl ?_); refine goesL_ (some 19) rfl rfl Tryd.func12 (by kernel_rfl) rfl #[.slice Ao15 t268.length co15] rfl (by (try simp only [List.map_toArray, List.map_cons, List.map_nil]); first | done | rfl | (simp only [List.length_drop, List.length_take]; rfl)) ?_; (with_reducible refine (tricklelaw15_plain.calls kj4 _ _ t268 t271 _ ?side1 ?side2 A10.out).mono ?_); (case side1 => repeat (first | exact (Kd.R_reads' HO270.out).2.2 | (with_reducible refine Kd.C_alloc ?_ _) | (with_reducible refine Kd.C_drewN ?_ _) | (with_reducible refine Kd.C_drew ?_))); (case side2 => exact (Kd.R_reads' HO270.out).2.1); rintro e w16 ⟨v272, rfl, ho0, hb⟩; refine ⟨_, rfl, ?_⟩; have n0_ := Aside0.mk (Kd.R_below (by (with_reducible repeat (first | apply Kd.R_alloc | apply Kd.R_drewN | apply Kd.R_drew)); exact HO270.out) hb); have n1_ := Aside0.mk (Kd.R_lower ho0 (below_size (by repeat (first | (with_reducible first | exact HB.out | apply below_alloc | apply pw_below_drewN | apply below_drew1) | exact HB.out)))); have n2_ := Aside0.mk (below_step (by repeat (first | (with_reducible first | exact HB.out | apply below_alloc | apply pw_below_drewN | apply below_drew1) | exact HB.out)) hb); clear HO270; clear HB; have HO270 := n0_; have HO273 := n1_; have HB := n2_; clear n0_ n1_ n2_; (try clear hb); (try clear hb2); (try clear hk); (try clear hi); (try clear ho0)) | ((with_reducible refine gate_callee (f := 13) rfl ?_); refine goesL_ (some 21) rfl rfl Tryd.func13 (by kernel_rfl) rfl #[.string a1] rfl (by (try simp only [List.map_toArray, List.map_cons, List.map_nil]); first | done | rfl | (simp only [List.length_drop, List.length_take]; rfl)) ?_; (with_reducible refine (lexer_Scan.calls kj4 a1 t274 _ ?side1 A11.out).mono ?_); (case side1 => refine GW.below HG.out ?_; repeat (first | (with_reducible first | exact HB.out | apply below_alloc | apply pw_below_drewN | apply below_drew1) | exact HB.out)); rintro e w17 ⟨v275, rfl, ho0, hb⟩; refine ⟨_, rfl, ?_⟩; have n0_ := Aside0.mk (Kd.R_elder' (by (with_reducible repeat (first | apply Kd.R_alloc | apply Kd.R_drewN | apply Kd.R_drew)); exact HO270.out) (Kd.R_base ho0) hb); have n1_ := Aside0.mk (Kd.R_below (by (with_reducible repeat (first | apply Kd.R_alloc | apply Kd.R_drewN | apply Kd.R_drew)); exact HO273.out) hb); have n2_ := Aside0.mk (Kd.R_lower (Kd.R_new' ho0 (Kd.R_lt (by (with_reducible repeat (first | apply Kd.R_alloc | apply Kd.R_drewN | apply Kd.R_drew)); exact HO270.out))) (below_size (by repeat (first | (with_reducible first | exact HB.out | apply below_alloc | apply pw_below_drewN | apply below_drew1) | exact HB.out)))); have n3_ := Aside0.mk (below_step (by repeat (first | (with_reducible first | exact HB.out | apply below_alloc | apply pw_below_drewN | apply below_drew1) | exact HB.out)) hb); clear HO270; clear HO273; clear HB; have HO270 := n0_; have HO273 := n1_; have HO276 := n2_; have HB := n3_; clear n0_ n1_ n2_ n3_; (try clear hb); (try clear hb2); (try clear hk); (try clear hi); (try clear ho0); obtain ⟨Ao18, co18, eo18⟩ := Kd.R_slice HO276.out; subst eo18) | ((with_reducible refine gate_callee (f := 12) rfl ?_); refine goesL_ (some 22) rfl rfl Tryd.func12 (by kernel_rfl) rfl #[.slice Ao18 t274.length co18] rfl (by (try simp only [List.map_toArray, List.map_cons, List.map_nil]); first | done | rfl | (simp only [List.length_drop, List.length_take]; rfl)) ?_; (with_reducible refine (tricklelaw15_plain.calls kj4 _ _ t274 t277 _ ?side1 ?side2 A12.out).mono ?_); (case side1 => repeat (first | exact (Kd.R_reads' HO276.out).2.2 | (with_reducible refine Kd.C_alloc ?_ _) | (with_reducible refine Kd.C_drewN ?_ _) | (with_reducible refine Kd.C_drew ?_))); (case side2 => exact (Kd.R_reads' HO276.out).2.1); rintro e w19 ⟨v278, rfl, ho0, hb⟩; refine ⟨_, rfl, ?_⟩; have n0_ := Aside0.mk (Kd.R_below (by (with_reducible repeat (first | apply Kd.R_alloc | apply Kd.R_drewN | apply Kd.R_drew)); exact HO270.out) hb); have n1_ := Aside0.mk (Kd.R_elder' (by (with_reducible repeat (first | apply Kd.R_alloc | apply Kd.R_drewN | apply Kd.R_drew)); exact HO273.out) (Kd.R_base ho0) hb); have n2_ := Aside0.mk (Kd.R_below (by (with_reducible repeat (first | apply Kd.R_alloc | apply Kd.R_drewN | apply Kd.R_drew)); exact HO276.out) hb); have n3_ := Aside0.mk (Kd.R_lower (Kd.R_new' ho0 (Kd.R_lt (by (with_reducible repeat (first | apply Kd.R_alloc | apply Kd.R_drewN | apply Kd.R_drew)); exact HO273.out))) (below_size (by repeat (first | (with_reducible first | exact HB.out | apply below_alloc | apply pw_below_drewN | apply below_drew1) | exact HB.out)))); have n4_ := Aside0.mk (below_step (by repeat (first | (with_reducible first | exact HB.out | apply below_alloc | apply pw_below_drewN | apply below_drew1) | exact HB.out)) hb); clear HO270; clear HO273; clear HO276; clear HB; have HO270 := n0_; have HO273 := n1_; have HO276 := n2_; have HO279 := n3_; have HB := n4_; clear n0_ n1_ n2_ n3_ n4_; (try clear hb); (try clear hb2); (try clear hk); (try clear hi); (try clear ho0); obtain ⟨Ao20, co20, eo20⟩ := Kd.R_slice HO273.out; subst eo20))
            go_ret
            exact ⟨by first | rfl | (simp [errW_none, errW_some] <;> rfl) | (simp [*, errW_none, errW_some] <;> rfl), by repeat (first | (with_reducible first | exact HB.out | apply below_alloc | apply pw_below_drewN | apply below_drew1) | exact HB.out)⟩
          · rw [if_neg c13] at H
            have c13b0 : ((t271.length : Int) == 0) = false := beq_eq_false_iff_ne.mpr c13
            have c13b1 : ((t271.length : Int) != 0) = true := bne_iff_ne.mpr c13
            have c13b2 : ¬ (t271 = []) := fun h_ => c13 (by rw [h_]; rfl)
            by_cases c21 : a0.size + 1 ≤ 9223372036854775807
            · rw [if_pos c21] at H
              have c21b0 := eq_true c21
              have c21b1 : decide (a0.size + 1 ≤ 9223372036854775807) = true := decide_eq_true c21
              try have c21b2 : (9223372036854775807 < a0.size + 1) = False := eq_false (Nat.not_lt.2 c21)
              by_cases c22 : (a0 ++ (⟨#[10]⟩ : ByteArray)).size + a1.size ≤ 9223372036854775807
              · rw [if_pos c22] at H
                have c22b3 : (9223372036854775807 < a0.size + 1 + a1.size) = False := by
                  have h_ : (a0 ++ (⟨#[10]⟩ : ByteArray)).size = a0.size + 1 := by rw [ByteArray.size_append]; rfl
                  exact eq_false (by omega)
                have c22b0 := eq_true c22
                have c22b1 : decide ((a0 ++ (⟨#[10]⟩ : ByteArray)).size + a1.size ≤ 9223372036854775807) = true := decide_eq_true c22
                try have c22b2 : (9223372036854775807 < (a0 ++ (⟨#[10]⟩ : ByteArray)).size + a1.size) = False := eq_false (Nat.not_lt.2 c22)
                replace H := Option.bind_eq_some_iff.mp H
                obtain ⟨t280, A230, H⟩ := H
                replace H : ((tricklelaw15_plain.f kj4 t280).bind fun t283 => ((some (([] : List (S32)) : List (S32))).bind fun y286 => (if 0 ≤ (wrap64 ((t271.length : Int) - 1)) then (if (wrap64 ((t271.length : Int) - 1)) ≤ (t271.length : Int) then ((some (t271.take ((wrap64 ((t271.length : Int) - 1)) : Int).toNat : List (S32))).bind fun y289 => (if y286.length + y289.length < 3518437208883 then ((some (y286 ++ y289 : List (S32))).bind fun y293 => (if y293.length + t277.length < 3518437208883 then ((trickleref15_Same.f kj4 t283 (y293 ++ t277) false).bind fun t299 => (some t299)) else (none))) else (none))) else (none)) else (none)))) = some r := H
                have A23 := Aside0.mk A230
                clear A230
                replace H := Option.bind_eq_some_iff.mp H
                obtain ⟨t283, A240, H⟩ := H
                replace H : ((some (([] : List (S32)) : List (S32))).bind fun y286 => (if 0 ≤ (wrap64 ((t271.length : Int) - 1)) then (if (wrap64 ((t271.length : Int) - 1)) ≤ (t271.length : Int) then ((some (t271.take ((wrap64 ((t271.length : Int) - 1)) : Int).toNat : List (S32))).bind fun y289 => (if y286.length + y289.length < 3518437208883 then ((some (y286 ++ y289 : List (S32))).bind fun y293 => (if y293.length + t277.length < 3518437208883 then ((trickleref15_Same.f kj4 t283 (y293 ++ t277) false).bind fun t299 => (some t299)) else (none))) else (none))) else (none)) else (none))) = some r := H
                have A24 := Aside0.mk A240
                clear A240
                obtain ⟨y286, hy286⟩ : ∃ y_ : List (S32), y_ = (([] : List (S32))) := ⟨_, rfl⟩
                replace H : (if 0 ≤ (wrap64 ((t271.length : Int) - 1)) then (if (wrap64 ((t271.length : Int) - 1)) ≤ (t271.length : Int) then ((some (t271.take ((wrap64 ((t271.length : Int) - 1)) : Int).toNat : List (S32))).bind fun y289 => (if y286.length + y289.length < 3518437208883 then ((some (y286 ++ y289 : List (S32))).bind fun y293 => (if y293.length + t277.length < 3518437208883 then ((trickleref15_Same.f kj4 t283 (y293 ++ t277) false).bind fun t299 => (some t299)) else (none))) else (none))) else (none)) else (none)) = some r := by first | (rw [hy286]; with_reducible exact H) | (have H2_ := (Option.bind_some _ _).symm.trans H; rw [hy286]; with_reducible exact H2_) | (have H2_ := (Option.bind_some _ _).symm.trans H; with_reducible exact H2_) | with_reducible exact H | (rw [hy286]; exact H) | exact H
                have Ny286 := Aside0.mk hy286
                clear hy286
                obtain ⟨ji25, hji25⟩ : ∃ j_ : Int, (wrap64 ((t271.length : Int) - 1)) = j_ := ⟨_, rfl⟩
                replace H : (if 0 ≤ (ji25) then (if (ji25) ≤ (t271.length : Int) then ((some (t271.take ((ji25) : Int).toNat : List (S32))).bind fun y289 => (if y286.length + y289.length < 3518437208883 then ((some (y286 ++ y289 : List (S32))).bind fun y293 => (if y293.length + t277.length < 3518437208883 then ((trickleref15_Same.f kj4 t283 (y293 ++ t277) false).bind fun t299 => (some t299)) else (none))) else (none))) else (none)) else (none)) = some r := by first | (rw [hji25] at H; exact H) | (simp only [hji25] at H ⊢; exact H)
                (try rw [hji25] at A9)
                (try rw [hji25] at A10)
                (try rw [hji25] at A11)
                (try rw [hji25] at A12)
                (try rw [hji25] at A23)
                (try rw [hji25] at A24)
                have hji25w : (IntKind.i64.wrap ((t271.length : Int) - 1)) = ji25 := (i64_w _).trans hji25
                by_cases c26 : 0 ≤ (ji25)
                · rw [if_pos c26] at H
                  have c26b0 := eq_true c26
                  have c26b1 : decide (0 ≤ (ji25)) = true := decide_eq_true c26
                  clear c26
                  by_cases c27 : (ji25) ≤ (t271.length : Int)
                  · rw [if_pos c27] at H
                    have c27b0 := eq_true c27
                    have c27b1 : decide ((ji25) ≤ (t271.length : Int)) = true := decide_eq_true c27
                    clear c27
                    obtain ⟨y289, hy289⟩ : ∃ y_ : List (S32), y_ = (t271.take ((ji25) : Int).toNat) := ⟨_, rfl⟩
                    replace H : (if y286.length + y289.length < 3518437208883 then ((some (y286 ++ y289 : List (S32))).bind fun y293 => (if y293.length + t277.length < 3518437208883 then ((trickleref15_Same.f kj4 t283 (y293 ++ t277) false).bind fun t299 => (some t299)) else (none))) else (none)) = some r := by first | (rw [hy289]; with_reducible exact H) | (have H2_ := (Option.bind_some _ _).symm.trans H; rw [hy289]; with_reducible exact H2_) | (have H2_ := (Option.bind_some _ _).symm.trans H; with_reducible exact H2_) | with_reducible exact H | (rw [hy289]; exact H) | exact H
                    have Ny289 := Aside0.mk hy289
                    clear hy289
                    by_cases c28 : y286.length + y289.length < 3518437208883
                    · rw [if_pos c28] at H
                      have LMc28 := Aside0.mk c28
                      clear c28
                      obtain ⟨y293, hy293⟩ : ∃ y_ : List (S32), y_ = (y286 ++ y289) := ⟨_, rfl⟩
                      replace H : (if y293.length + t277.length < 3518437208883 then ((trickleref15_Same.f kj4 t283 (y293 ++ t277) false).bind fun t299 => (some t299)) else (none)) = some r := by first | (rw [hy293]; with_reducible exact H) | (have H2_ := (Option.bind_some _ _).symm.trans H; rw [hy293]; with_reducible exact H2_) | (have H2_ := (Option.bind_some _ _).symm.trans H; with_reducible exact H2_) | with_reducible exact H | (rw [hy293]; exact H) | exact H
                      have Ny293 := Aside0.mk hy293
                      clear hy293
                      by_cases c29 : y293.length + t277.length < 3518437208883
                      · rw [if_pos c29] at H
                        have LMc29 := Aside0.mk c29
                        clear c29
                        obtain ⟨y296, hy296⟩ : ∃ y_ : List (S32), y_ = (y293 ++ t277) := ⟨_, rfl⟩
                        replace H : ((trickleref15_Same.f kj4 t283 y296 false).bind fun t299 => (some t299)) = some r := by first | (rw [hy296]; with_reducible exact H) | (have H2_ := (Option.bind_some _ _).symm.trans H; rw [hy296]; with_reducible exact H2_) | (have H2_ := (Option.bind_some _ _).symm.trans H; with_reducible exact H2_) | with_reducible exact H | (rw [hy296]; exact H) | exact H
                        have Ny296 := Aside0.mk hy296
                        clear hy296
                        replace H := Option.bind_eq_some_iff.mp H
                        obtain ⟨t299, A300, H⟩ := H
                        replace H : (some t299) = some r := H
                        have A30 := Aside0.mk A300
                        clear A300
                        obtain rfl := Option.some.inj H
                        try go_wp2_with (first | ((with_reducible refine gate_callee (f := 13) rfl ?_); refine goesL_ (some 18) rfl rfl Tryd.func13 (by kernel_rfl) rfl #[.string a0] rfl (by (try simp only [List.map_toArray, List.map_cons, List.map_nil]); first | done | rfl | (simp only [List.length_drop, List.length_take]; rfl)) ?_; (with_reducible refine (lexer_Scan.calls kj4 a0 t268 _ ?side1 A9.out).mono ?_); (case side1 => refine GW.below HG.out ?_; repeat (first | (with_reducible first | exact HB.out | apply below_alloc | apply pw_below_drewN | apply below_drew1) | exact HB.out)); rintro e w31 ⟨v269, rfl, ho0, hb⟩; refine ⟨_, rfl, ?_⟩; have n0_ := Aside0.mk (Kd.R_lower ho0 (below_size (by repeat (first | (with_reducible first | exact HB.out | apply below_alloc | apply pw_below_drewN | apply below_drew1) | exact HB.out)))); have n1_ := Aside0.mk (below_step (by repeat (first | (with_reducible first | exact HB.out | apply below_alloc | apply pw_below_drewN | apply below_drew1) | exact HB.out)) hb); clear HB; have HO270 := n0_; have HB := n1_; clear n0_ n1_; (try clear hb); (try clear hb2); (try clear hk); (try clear hi); (try clear ho0); obtain ⟨Ao32, co32, eo32⟩ := Kd.R_slice HO270.out; subst eo32) | ((with_reducible refine gate_callee (f := 12) rfl ?_); refine goesL_ (some 19) rfl rfl Tryd.func12 (by kernel_rfl) rfl #[.slice Ao32 t268.length co32] rfl (by (try simp only [List.map_toArray, List.map_cons, List.map_nil]); first | done | rfl | (simp only [List.length_drop, List.length_take]; rfl)) ?_; (with_reducible refine (tricklelaw15_plain.calls kj4 _ _ t268 t271 _ ?side1 ?side2 A10.out).mono ?_); (case side1 => repeat (first | exact (Kd.R_reads' HO270.out).2.2 | (with_reducible refine Kd.C_alloc ?_ _) | (with_reducible refine Kd.C_drewN ?_ _) | (with_reducible refine Kd.C_drew ?_))); (case side2 => exact (Kd.R_reads' HO270.out).2.1); rintro e w33 ⟨v272, rfl, ho0, hb⟩; refine ⟨_, rfl, ?_⟩; have n0_ := Aside0.mk (Kd.R_below (by (with_reducible repeat (first | apply Kd.R_alloc | apply Kd.R_drewN | apply Kd.R_drew)); exact HO270.out) hb); have n1_ := Aside0.mk (Kd.R_lower ho0 (below_size (by repeat (first | (with_reducible first | exact HB.out | apply below_alloc | apply pw_below_drewN | apply below_drew1) | exact HB.out)))); have n2_ := Aside0.mk (below_step (by repeat (first | (with_reducible first | exact HB.out | apply below_alloc | apply pw_below_drewN | apply below_drew1) | exact HB.out)) hb); clear HO270; clear HB; have HO270 := n0_; have HO273 := n1_; have HB := n2_; clear n0_ n1_ n2_; (try clear hb); (try clear hb2); (try clear hk); (try clear hi); (try clear ho0)) | ((with_reducible refine gate_callee (f := 13) rfl ?_); refine goesL_ (some 21) rfl rfl Tryd.func13 (by kernel_rfl) rfl #[.string a1] rfl (by (try simp only [List.map_toArray, List.map_cons, List.map_nil]); first | done | rfl | (simp only [List.length_drop, List.length_take]; rfl)) ?_; (with_reducible refine (lexer_Scan.calls kj4 a1 t274 _ ?side1 A11.out).mono ?_); (case side1 => refine GW.below HG.out ?_; repeat (first | (with_reducible first | exact HB.out | apply below_alloc | apply pw_below_drewN | apply below_drew1) | exact HB.out)); rintro e w34 ⟨v275, rfl, ho0, hb⟩; refine ⟨_, rfl, ?_⟩; have n0_ := Aside0.mk (Kd.R_elder' (by (with_reducible repeat (first | apply Kd.R_alloc | apply Kd.R_drewN | apply Kd.R_drew)); exact HO270.out) (Kd.R_base ho0) hb); have n1_ := Aside0.mk (Kd.R_below (by (with_reducible repeat (first | apply Kd.R_alloc | apply Kd.R_drewN | apply Kd.R_drew)); exact HO273.out) hb); have n2_ := Aside0.mk (Kd.R_lower (Kd.R_new' ho0 (Kd.R_lt (by (with_reducible repeat (first | apply Kd.R_alloc | apply Kd.R_drewN | apply Kd.R_drew)); exact HO270.out))) (below_size (by repeat (first | (with_reducible first | exact HB.out | apply below_alloc | apply pw_below_drewN | apply below_drew1) | exact HB.out)))); have n3_ := Aside0.mk (below_step (by repeat (first | (with_reducible first | exact HB.out | apply below_alloc | apply pw_below_drewN | apply below_drew1) | exact HB.out)) hb); clear HO270; clear HO273; clear HB; have HO270 := n0_; have HO273 := n1_; have HO276 := n2_; have HB := n3_; clear n0_ n1_ n2_ n3_; (try clear hb); (try clear hb2); (try clear hk); (try clear hi); (try clear ho0); obtain ⟨Ao35, co35, eo35⟩ := Kd.R_slice HO276.out; subst eo35) | ((with_reducible refine gate_callee (f := 12) rfl ?_); refine goesL_ (some 22) rfl rfl Tryd.func12 (by kernel_rfl) rfl #[.slice Ao35 t274.length co35] rfl (by (try simp only [List.map_toArray, List.map_cons, List.map_nil]); first | done | rfl | (simp only [List.length_drop, List.length_take]; rfl)) ?_; (with_reducible refine (tricklelaw15_plain.calls kj4 _ _ t274 t277 _ ?side1 ?side2 A12.out).mono ?_); (case side1 => repeat (first | exact (Kd.R_reads' HO276.out).2.2 | (with_reducible refine Kd.C_alloc ?_ _) | (with_reducible refine Kd.C_drewN ?_ _) | (with_reducible refine Kd.C_drew ?_))); (case side2 => exact (Kd.R_reads' HO276.out).2.1); rintro e w36 ⟨v278, rfl, ho0, hb⟩; refine ⟨_, rfl, ?_⟩; have n0_ := Aside0.mk (Kd.R_below (by (with_reducible repeat (first | apply Kd.R_alloc | apply Kd.R_drewN | apply Kd.R_drew)); exact HO270.out) hb); have n1_ := Aside0.mk (Kd.R_elder' (by (with_reducible repeat (first | apply Kd.R_alloc | apply Kd.R_drewN | apply Kd.R_drew)); exact HO273.out) (Kd.R_base ho0) hb); have n2_ := Aside0.mk (Kd.R_below (by (with_reducible repeat (first | apply Kd.R_alloc | apply Kd.R_drewN | apply Kd.R_drew)); exact HO276.out) hb); have n3_ := Aside0.mk (Kd.R_lower (Kd.R_new' ho0 (Kd.R_lt (by (with_reducible repeat (first | apply Kd.R_alloc | apply Kd.R_drewN | apply Kd.R_drew)); exact HO273.out))) (below_size (by repeat (first | (with_reducible first | exact HB.out | apply below_alloc | apply pw_below_drewN | apply below_drew1) | exact HB.out)))); have n4_ := Aside0.mk (below_step (by repeat (first | (with_reducible first | exact HB.out | apply below_alloc | apply pw_below_drewN | apply below_drew1) | exact HB.out)) hb); clear HO270; clear HO273; clear HO276; clear HB; have HO270 := n0_; have HO273 := n1_; have HO276 := n2_; have HO279 := n3_; have HB := n4_; clear n0_ n1_ n2_ n3_ n4_; (try clear hb); (try clear hb2); (try clear hk); (try clear hi); (try clear ho0); obtain ⟨Ao37, co37, eo37⟩ := Kd.R_slice HO273.out; subst eo37; obtain ⟨Ao38, co38, eo38⟩ := Kd.R_slice HO279.out; subst eo38))
                        have n0_ := Aside0.mk (Kd.R_drew HO270.out)
                        have n1_ := Aside0.mk (Kd.R_drew HO273.out)
                        have n2_ := Aside0.mk (Kd.R_drew HO276.out)
                        have n3_ := Aside0.mk (Kd.R_drew HO279.out)
                        have n4_ := Aside0.mk (below_drew1 HB.out)
                        clear HO270
                        clear HO273
                        clear HO276
                        clear HO279
                        clear HB
                        have HO270 := n0_
                        have HO273 := n1_
                        have HO276 := n2_
                        have HO279 := n3_
                        have HB := n4_
                        clear n0_ n1_ n2_ n3_ n4_
                        have q40 : ((ji25) : Int) ≤ ((t271.length : Int) : Int) := of_decide_eq_true (by first | (with_reducible assumption) | assumption)
                        obtain ⟨i040, hi040, _, hsz40, _⟩ := info_parts info32
                        have hroom40 : t271.length ≤ co37 := (Kd.R_reads' HO273.out).2.1
                        have hC40 : Kd.C k32 _ Ao37 t271.length t271 := (Kd.R_reads' HO273.out).2.2
                        have hcut40 := cut_to (P := Tryd.prog) 24 32 .i64 Tryd.underlying24 hi040 Ao37 t271.length co37 (ji25) (of_decide_eq_true (by first | (with_reducible assumption) | assumption)) q40 hroom40
                        have hr40 := Kd.C_take (m := ((ji25) : Int).toNat) hC40 (by omega)
                        have hy40 : y289.length = ((ji25) : Int).toNat := (by rw [Ny289.out, List.length_take]; omega)
                        rw [← Ny289.out] at hr40
                        rw [← hy40] at hcut40
                        have HR292 := Aside0.mk hr40
                        have HC292 := Aside0.mk (show y289.length ≤ co37 from by omega)
                        clear hr40 hC40 hroom40 hi040 hsz40
                        have KY40 := Aside0.mk hy40
                        clear hy40
                        have KL40 := Aside0.mk (show ((ji25) : Int).toNat ≤ t271.length from by omega)
                        replace q40 := eq_true q40
                        refine start_ (n := 17) (S := fun w' => True) (ds := []) #[false, false, false, false, false, false, false, false, false, false, false, false, false, false, false, false, false] (by kernel_rfl) rfl rfl trivial (fun hHeld => ?_); refine with_tabW tricklelaw15_LexerSpaces.tab8 tricklelaw15_LexerSpaces.bits8 (fun HT_ HW_ => ?_)
                        generalize w36.drew = w39 at HO270 HO273 HO276 HO279 HB HR292 hHeld ⊢
                        refine pure_ (i := 0) (N := some 26) (v := ?_) (a' := ?_) #[true, false, false, false, false, false, false, false, false, false, false, false, false, false, false, false, false] rfl rfl (any_of HT_.out (by kernel_rfl)) (fun _ _ _ h => h) (Or.inl ⟨by rfl, ?_⟩) ?_ ?_
                        rotate_left
                        · intro w'
                          go_simp
                          with_reducible rfl
                        rotate_left
                        · simp only [Act.put, List.setIfInBounds_toArray, List.set_cons_zero, List.set_cons_succ, i64_w, i32_w]
                          rfl
                        refine pure_ (i := 1) (N := some 27) (v := ?_) (a' := ?_) #[true, true, false, false, false, false, false, false, false, false, false, false, false, false, false, false, false] rfl rfl (any_of HT_.out (by kernel_rfl)) (fun _ _ _ h => h) (Or.inl ⟨by rfl, ?_⟩) ?_ ?_
                        rotate_left
                        · intro w'
                          go_simp
                          with_reducible rfl
                        rotate_left
                        · simp only [Act.put, List.setIfInBounds_toArray, List.set_cons_zero, List.set_cons_succ, i64_w, i32_w]
                          rfl
                        refine pure_ (i := 2) (N := some 28) (v := ?_) (a' := ?_) #[true, true, true, false, false, false, false, false, false, false, false, false, false, false, false, false, false] rfl rfl (any_of HT_.out (by kernel_rfl)) (fun _ _ _ h => h) (Or.inl ⟨by rfl, ?_⟩) ?_ ?_
                        rotate_left
                        · intro w'
                          go_simp
                          with_reducible rfl
                        rotate_left
                        · simp only [Act.put, List.setIfInBounds_toArray, List.set_cons_zero, List.set_cons_succ, i64_w, i32_w]
                          rfl
                        refine pure_ (i := 3) (N := some 29) (v := ?_) (a' := ?_) #[true, true, true, true, false, false, false, false, false, false, false, false, false, false, false, false, false] rfl rfl (any_of HT_.out (by kernel_rfl)) (fun _ _ _ h => h) (Or.inl ⟨by rfl, ?_⟩) ?_ ?_
                        rotate_left
                        · intro w'
                          go_simp
                          with_reducible rfl
                        rotate_left
                        · simp only [Act.put, List.setIfInBounds_toArray, List.set_cons_zero, List.set_cons_succ, i64_w, i32_w]
                          rfl
                        refine pure_ (i := 7) (N := some 33) (v := ?_) (a' := ?_) #[true, true, true, true, false, false, false, true, false, false, false, false, false, false, false, false, false] rfl rfl (any_of HT_.out (by kernel_rfl)) (fun _ _ _ h => h) (Or.inl ⟨by rfl, ?_⟩) ?_ ?_
                        rotate_left
                        · intro w'
                          go_simp
                          with_reducible rfl
                        rotate_left
                        · simp only [Act.put, List.setIfInBounds_toArray, List.set_cons_zero, List.set_cons_succ, i64_w, i32_w]
                          rfl
                        refine pure_ (i := 8) (N := some 34) (v := ?_) (a' := ?_) #[true, true, true, true, false, false, false, true, true, false, false, false, false, false, false, false, false] rfl rfl (any_of HT_.out (by kernel_rfl)) (fun _ _ _ h => h) (Or.inl ⟨by rfl, ?_⟩) ?_ ?_
                        rotate_left
                        · intro w'
                          go_simp
                          with_reducible rfl
                        rotate_left
                        · simp only [Act.put, List.setIfInBounds_toArray, List.set_cons_zero, List.set_cons_succ, i64_w, i32_w]
                          rfl
                        refine pure_ (i := 9) (N := some 35) (v := ?_) (a' := ?_) #[true, true, true, true, false, false, false, true, true, true, false, false, false, false, false, false, false] rfl rfl (any_of HT_.out (by kernel_rfl)) (fun _ _ _ h => h) (Or.inl ⟨by rfl, ?_⟩) ?_ ?_
                        rotate_left
                        · intro w'
                          go_simp
                          with_reducible rfl
                        rotate_left
                        · simp only [Act.put, List.setIfInBounds_toArray, List.set_cons_zero, List.set_cons_succ, i64_w, i32_w]
                          rfl
                        refine pure_ (i := 10) (N := some 36) (v := ?_) (a' := ?_) #[true, true, true, true, false, false, false, true, true, true, true, false, false, false, false, false, false] rfl rfl (any_of HT_.out (by kernel_rfl)) (fun _ _ _ h => h) (Or.inl ⟨by rfl, ?_⟩) ?_ ?_
                        rotate_left
                        · intro w'
                          go_simp
                          with_reducible rfl
                        rotate_left
                        · simp only [Act.put, List.setIfInBounds_toArray, List.set_cons_zero, List.set_cons_succ, i64_w, i32_w]
                          rfl
                        refine pure_ (i := 11) (N := some 37) (v := ?_) (a' := ?_) #[true, true, true, true, false, false, false, true, true, true, true, true, false, false, false, false, false] rfl rfl (any_of HT_.out (by kernel_rfl)) (fun _ _ _ h => h) (Or.inl ⟨by rfl, ?_⟩) ?_ ?_
                        rotate_left
                        · intro w'
                          go_simp
                          with_reducible rfl
                        rotate_left
                        · simp only [Act.put, List.setIfInBounds_toArray, List.set_cons_zero, List.set_cons_succ, i64_w, i32_w]
                          rfl
                        refine pure_ (i := 13) (N := some 39) (v := ?_) (a' := ?_) #[true, true, true, true, false, false, false, true, true, true, true, true, false, true, false, false, false] rfl rfl (any_of HT_.out (by kernel_rfl)) (fun _ _ _ h => h) (Or.inl ⟨by rfl, ?_⟩) ?_ ?_
                        rotate_left
                        · intro w'
                          go_simp
                          with_reducible rfl
                        rotate_left
                        · simp only [Act.put, List.setIfInBounds_toArray, List.set_cons_zero, List.set_cons_succ, i64_w, i32_w]
                          rfl
                        refine join_ (σ := Value × Value × Value) 4 #[true, true, true, true, true, true, true, true, true, true, true, true, false, true, false, false, false] (fun s_ => [(30, s_.1), (31, s_.2.1), (32, s_.2.2)]) (fun s_ w' => (Kd.R k37 37 w' w.heap.size (fun k_ => some k_ ≠ (.slice Ao35 t274.length co35 : Value).ownBlock ∧ some k_ ≠ (s_.1 : Value).ownBlock) (.slice Ao32 t268.length co32) t268) ∧ (Kd.R k32 32 w' w.heap.size (fun k_ => some k_ ≠ (.slice Ao38 t277.length co38 : Value).ownBlock ∧ some k_ ≠ (s_.2.1 : Value).ownBlock ∧ some k_ ≠ (s_.2.2 : Value).ownBlock) (.slice Ao37 t271.length co37) t271) ∧ (Kd.R k37 37 w' w.heap.size (fun k_ => some k_ ≠ (.slice Ao32 t268.length co32 : Value).ownBlock ∧ some k_ ≠ (s_.1 : Value).ownBlock) (.slice Ao35 t274.length co35) t274) ∧ (Kd.R k32 32 w' w.heap.size (fun k_ => some k_ ≠ (.slice Ao37 t271.length co37 : Value).ownBlock ∧ some k_ ≠ (s_.2.1 : Value).ownBlock ∧ some k_ ≠ (s_.2.2 : Value).ownBlock) (.slice Ao38 t277.length co38) t277) ∧ (Kd.R k37 37 w' w.heap.size (fun k_ => some k_ ≠ (.slice Ao32 t268.length co32 : Value).ownBlock ∧ some k_ ≠ (.slice Ao35 t274.length co35 : Value).ownBlock) s_.1 t280) ∧ (Kd.R k32 32 w' w.heap.size (fun k_ => some k_ ≠ (.slice Ao37 t271.length co37 : Value).ownBlock ∧ some k_ ≠ (.slice Ao38 t277.length co38 : Value).ownBlock ∧ some k_ ≠ (s_.2.2 : Value).ownBlock) s_.2.1 t283) ∧ (Kd.R k32 32 w' w.heap.size (fun k_ => some k_ ≠ (.slice Ao37 t271.length co37 : Value).ownBlock ∧ some k_ ≠ (.slice Ao38 t277.length co38 : Value).ownBlock ∧ some k_ ≠ (s_.2.1 : Value).ownBlock) s_.2.2 y286) ∧ (Below w.heap.size w w')) ?_ ?_
                        rotate_left
                        · intro hCont
                          refine two_ (i := 4) (j := 6) (Ni := some 30) (Nj := some 32) #[true, true, true, true, true, false, false, true, true, true, true, true, false, true, false, false, false] #[true, true, true, true, false, false, true, true, true, true, true, true, false, true, false, false, false] rfl rfl rfl rfl (two_of HT_.out (by kernel_rfl)) (by decide) (by decide) (fun K hK => ?_) (fun K hK => ?_)
                          · skip
                            refine goes_ Tryd.func13 (by kernel_rfl) rfl #[.string ((a0 ++ (⟨#[10]⟩ : ByteArray)) ++ a1)] (by rfl) rfl rfl (by (try simp only [List.map_toArray, List.map_cons, List.map_nil]); first | done | rfl | (simp only [List.length_drop, List.length_take]; rfl)) ?_
                            with_reducible refine (lexer_Scan.calls kj4 ((a0 ++ (⟨#[10]⟩ : ByteArray)) ++ a1) t280 _ ?side1 A23.out).mono ?_
                            (case side1 => refine GW.below HG.out ?_; repeat (first | (with_reducible first | exact HB.out | apply below_alloc | apply pw_below_drewN | apply below_drew1) | exact HB.out))
                            rintro e w41 ⟨v281, rfl, ho0, hb⟩
                            refine ⟨_, rfl, ?_⟩
                            have n0_ := Aside0.mk (Kd.R_elder' (by (with_reducible repeat (first | apply Kd.R_alloc | apply Kd.R_drewN | apply Kd.R_drew)); exact HO270.out) (Kd.R_base ho0) hb)
                            have n1_ := Aside0.mk (Kd.R_below (by (with_reducible repeat (first | apply Kd.R_alloc | apply Kd.R_drewN | apply Kd.R_drew)); exact HO273.out) hb)
                            have n2_ := Aside0.mk (Kd.R_elder' (by (with_reducible repeat (first | apply Kd.R_alloc | apply Kd.R_drewN | apply Kd.R_drew)); exact HO276.out) (Kd.R_base ho0) hb)
                            have n3_ := Aside0.mk (Kd.R_below (by (with_reducible repeat (first | apply Kd.R_alloc | apply Kd.R_drewN | apply Kd.R_drew)); exact HO279.out) hb)
                            have n4_ := Aside0.mk (Kd.R_lower (Kd.R_new' (Kd.R_new' ho0 (Kd.R_lt (by (with_reducible repeat (first | apply Kd.R_alloc | apply Kd.R_drewN | apply Kd.R_drew)); exact HO270.out))) (Kd.R_lt (by (with_reducible repeat (first | apply Kd.R_alloc | apply Kd.R_drewN | apply Kd.R_drew)); exact HO276.out))) (below_size (by repeat (first | (with_reducible first | exact HB.out | apply below_alloc | apply pw_below_drewN | apply below_drew1) | exact HB.out))))
                            have n5_ := Aside0.mk (Kd.C_below (by repeat (first | (with_reducible exact HR292.out) | (with_reducible refine Kd.C_alloc ?_ _) | (with_reducible refine Kd.C_drewN ?_ _) | (with_reducible refine Kd.C_drew ?_) | exact HR292.out)) hb)
                            have n6_ := Aside0.mk (below_step (by repeat (first | (with_reducible first | exact HB.out | apply below_alloc | apply pw_below_drewN | apply below_drew1) | exact HB.out)) hb)
                            clear HO270
                            clear HO273
                            clear HO276
                            clear HO279
                            clear HR292
                            clear HB
                            have HO270 := n0_
                            have HO273 := n1_
                            have HO276 := n2_
                            have HO279 := n3_
                            have HO282 := n4_
                            have HR292 := n5_
                            have HB := n6_
                            clear n0_ n1_ n2_ n3_ n4_ n5_ n6_
                            (try clear hb)
                            (try clear hb2)
                            (try clear hk)
                            (try clear hi)
                            (try clear ho0)
                            obtain ⟨Ao42, co42, eo42⟩ := Kd.R_slice HO282.out
                            (first | subst eo42 | (injection eo42 with f1_ f2_ f3_; have f4_ := f1_.symm; have f5_ := f3_.symm; clear f1_ f2_ f3_; subst f4_; subst f5_))
                            refine hK.out _ _ trivial (fun hHeld => ?_)
                            clear hK K
                            refine norm_ (a' := ?_) ?_ ?_
                            rotate_left
                            · show Act.put _ (some 30) _ = _
                              simp only [Act.put, List.setIfInBounds_toArray, List.set_cons_zero, List.set_cons_succ, i64_w, i32_w]
                              rfl
                            refine two_ (i := 5) (j := 6) (Ni := some 31) (Nj := some 32) #[true, true, true, true, true, true, false, true, true, true, true, true, false, true, false, false, false] #[true, true, true, true, true, false, true, true, true, true, true, true, false, true, false, false, false] rfl rfl rfl rfl (two_of HT_.out (by kernel_rfl)) (by decide) (by decide) (fun K hK => ?_) (fun K hK => ?_)
                            · skip
                              refine goes_ Tryd.func12 (by kernel_rfl) rfl #[.slice Ao42 t280.length co42] (by rfl) rfl rfl (by (try simp only [List.map_toArray, List.map_cons, List.map_nil]); first | done | rfl | (simp only [List.length_drop, List.length_take]; rfl)) ?_
                              with_reducible refine (tricklelaw15_plain.calls kj4 _ _ t280 t283 _ ?side1 ?side2 A24.out).mono ?_
                              (case side1 => repeat (first | exact (Kd.R_reads' HO282.out).2.2 | (with_reducible refine Kd.C_alloc ?_ _) | (with_reducible refine Kd.C_drewN ?_ _) | (with_reducible refine Kd.C_drew ?_)))
                              (case side2 => exact (Kd.R_reads' HO282.out).2.1)
                              rintro e w43 ⟨v284, rfl, ho0, hb⟩
                              refine ⟨_, rfl, ?_⟩
                              have n0_ := Aside0.mk (Kd.R_below (by (with_reducible repeat (first | apply Kd.R_alloc | apply Kd.R_drewN | apply Kd.R_drew)); exact HO270.out) hb)
                              have n1_ := Aside0.mk (Kd.R_elder' (by (with_reducible repeat (first | apply Kd.R_alloc | apply Kd.R_drewN | apply Kd.R_drew)); exact HO273.out) (Kd.R_base ho0) hb)
                              have n2_ := Aside0.mk (Kd.R_below (by (with_reducible repeat (first | apply Kd.R_alloc | apply Kd.R_drewN | apply Kd.R_drew)); exact HO276.out) hb)
                              have n3_ := Aside0.mk (Kd.R_elder' (by (with_reducible repeat (first | apply Kd.R_alloc | apply Kd.R_drewN | apply Kd.R_drew)); exact HO279.out) (Kd.R_base ho0) hb)
                              have n4_ := Aside0.mk (Kd.R_below (by (with_reducible repeat (first | apply Kd.R_alloc | apply Kd.R_drewN | apply Kd.R_drew)); exact HO282.out) hb)
                              have n5_ := Aside0.mk (Kd.R_lower (Kd.R_new' (Kd.R_new' ho0 (Kd.R_lt (by (with_reducible repeat (first | apply Kd.R_alloc | apply Kd.R_drewN | apply Kd.R_drew)); exact HO273.out))) (Kd.R_lt (by (with_reducible repeat (first | apply Kd.R_alloc | apply Kd.R_drewN | apply Kd.R_drew)); exact HO279.out))) (below_size (by repeat (first | (with_reducible first | exact HB.out | apply below_alloc | apply pw_below_drewN | apply below_drew1) | exact HB.out))))
                              have n6_ := Aside0.mk (Kd.C_below (by repeat (first | (with_reducible exact HR292.out) | (with_reducible refine Kd.C_alloc ?_ _) | (with_reducible refine Kd.C_drewN ?_ _) | (with_reducible refine Kd.C_drew ?_) | exact HR292.out)) hb)
                              have n7_ := Aside0.mk (below_step (by repeat (first | (with_reducible first | exact HB.out | apply below_alloc | apply pw_below_drewN | apply below_drew1) | exact HB.out)) hb)
                              clear HO270
                              clear HO273
                              clear HO276
                              clear HO279
                              clear HO282
                              clear HR292
                              clear HB
                              have HO270 := n0_
                              have HO273 := n1_
                              have HO276 := n2_
                              have HO279 := n3_
                              have HO282 := n4_
                              have HO285 := n5_
                              have HR292 := n6_
                              have HB := n7_
                              clear n0_ n1_ n2_ n3_ n4_ n5_ n6_ n7_
                              (try clear hb)
                              (try clear hb2)
                              (try clear hk)
                              (try clear hi)
                              (try clear ho0)
                              refine hK.out _ _ trivial (fun hHeld => ?_)
                              clear hK K
                              refine norm_ (a' := ?_) ?_ ?_
                              rotate_left
                              · show Act.put _ (some 31) _ = _
                                simp only [Act.put, List.setIfInBounds_toArray, List.set_cons_zero, List.set_cons_succ, i64_w, i32_w]
                                rfl
                              refine one_ (i := 6) (N := some 32) #[true, true, true, true, true, true, true, true, true, true, true, true, false, true, false, false, false] rfl rfl (one_of HT_.out (by kernel_rfl)) (by decide) (fun K hK => ?_)
                              refine Kd.R_lit_step k32 _ 32 ?hg (N := 32) ?hd (xs := ([] : List (S32))) (inner := []) (ok := fun _ => True) (okp := fun _ => True) ?hr ?hp (fun _ hk => hk) trivial (Below.refl _ _) (Nat.le_refl _) (by simp) ?_; (case hd => rfl); (case hg => rfl); (case hr => first | (go_simp; done) | (go_simp; rfl)); (case hp => exact (Reps.none _ _))
                              intro v287 w44 ho45 hb hg_ hnew_
                              clear hg_ hnew_
                              (first | rw [← Ny286.out] at ho45 | (simp only [Int.reduceToNat] at ho45; rw [← Ny286.out] at ho45))
                              have n0_ := Aside0.mk (Kd.R_below (by (with_reducible repeat (first | apply Kd.R_alloc | apply Kd.R_drewN | apply Kd.R_drew)); exact HO270.out) hb)
                              have n1_ := Aside0.mk (Kd.R_elder' (by (with_reducible repeat (first | apply Kd.R_alloc | apply Kd.R_drewN | apply Kd.R_drew)); exact HO273.out) (Kd.R_base ho45) hb)
                              have n2_ := Aside0.mk (Kd.R_below (by (with_reducible repeat (first | apply Kd.R_alloc | apply Kd.R_drewN | apply Kd.R_drew)); exact HO276.out) hb)
                              have n3_ := Aside0.mk (Kd.R_elder' (by (with_reducible repeat (first | apply Kd.R_alloc | apply Kd.R_drewN | apply Kd.R_drew)); exact HO279.out) (Kd.R_base ho45) hb)
                              have n4_ := Aside0.mk (Kd.R_below (by (with_reducible repeat (first | apply Kd.R_alloc | apply Kd.R_drewN | apply Kd.R_drew)); exact HO282.out) hb)
                              have n5_ := Aside0.mk (Kd.R_elder' (by (with_reducible repeat (first | apply Kd.R_alloc | apply Kd.R_drewN | apply Kd.R_drew)); exact HO285.out) (Kd.R_base ho45) hb)
                              have n6_ := Aside0.mk (Kd.R_lower (Kd.R_new' (Kd.R_new' (Kd.R_new' ho45 (Kd.R_lt (by (with_reducible repeat (first | apply Kd.R_alloc | apply Kd.R_drewN | apply Kd.R_drew)); exact HO273.out))) (Kd.R_lt (by (with_reducible repeat (first | apply Kd.R_alloc | apply Kd.R_drewN | apply Kd.R_drew)); exact HO279.out))) (Kd.R_lt (by (with_reducible repeat (first | apply Kd.R_alloc | apply Kd.R_drewN | apply Kd.R_drew)); exact HO285.out))) (below_size (by repeat (first | (with_reducible first | exact HB.out | apply below_alloc | apply pw_below_drewN | apply below_drew1) | exact HB.out))))
                              have n7_ := Aside0.mk (Kd.C_below (by repeat (first | (with_reducible exact HR292.out) | (with_reducible refine Kd.C_alloc ?_ _) | (with_reducible refine Kd.C_drewN ?_ _) | (with_reducible refine Kd.C_drew ?_) | exact HR292.out)) hb)
                              have n8_ := Aside0.mk (below_step (by repeat (first | (with_reducible first | exact HB.out | apply below_alloc | apply pw_below_drewN | apply below_drew1) | exact HB.out)) hb)
                              clear HO270
                              clear HO273
                              clear HO276
                              clear HO279
                              clear HO282
                              clear HO285
                              clear HR292
                              clear HB
                              have HO270 := n0_
                              have HO273 := n1_
                              have HO276 := n2_
                              have HO279 := n3_
                              have HO282 := n4_
                              have HO285 := n5_
                              have HO288 := n6_
                              have HR292 := n7_
                              have HB := n8_
                              clear n0_ n1_ n2_ n3_ n4_ n5_ n6_ n7_ n8_
                              clear hb ho45
                              refine hK.out _ _ trivial (fun hHeld => ?_)
                              clear hK K
                              refine norm_ (a' := ?_) ?_ ?_
                              rotate_left
                              · show Act.put _ (some 32) _ = _
                                simp only [Act.put, List.setIfInBounds_toArray, List.set_cons_zero, List.set_cons_succ, i64_w, i32_w]
                                rfl
                              exact norm_ (by simp only [putAll, Act.put, List.setIfInBounds_toArray, List.set_cons_zero, List.set_cons_succ]) (hCont (.slice Ao42 t280.length co42, v284, v287) _ ⟨(by (with_reducible repeat (first | apply Kd.R_alloc | apply Kd.R_drewN | apply Kd.R_drew)); exact Kd.R_mono HO270.out (fun _ hk => ⟨hk.1.2, hk.2⟩)), (by (with_reducible repeat (first | apply Kd.R_alloc | apply Kd.R_drewN | apply Kd.R_drew)); exact Kd.R_mono HO273.out (fun _ hk => ⟨hk.1.1.2, ⟨hk.1.2, hk.2⟩⟩)), (by (with_reducible repeat (first | apply Kd.R_alloc | apply Kd.R_drewN | apply Kd.R_drew)); exact Kd.R_mono HO276.out (fun _ hk => ⟨hk.1.2, hk.2⟩)), (by (with_reducible repeat (first | apply Kd.R_alloc | apply Kd.R_drewN | apply Kd.R_drew)); exact Kd.R_mono HO279.out (fun _ hk => ⟨hk.1.1.2, ⟨hk.1.2, hk.2⟩⟩)), (by (with_reducible repeat (first | apply Kd.R_alloc | apply Kd.R_drewN | apply Kd.R_drew)); exact Kd.R_mono HO282.out (fun _ hk => ⟨hk.1.2, hk.2⟩)), (by (with_reducible repeat (first | apply Kd.R_alloc | apply Kd.R_drewN | apply Kd.R_drew)); exact Kd.R_mono HO285.out (fun _ hk => ⟨hk.1.1.2, ⟨hk.1.2, hk.2⟩⟩)), (by (with_reducible repeat (first | apply Kd.R_alloc | apply Kd.R_drewN | apply Kd.R_drew)); exact Kd.R_mono HO288.out (fun _ hk => ⟨hk.1.1.2, ⟨hk.1.2, hk.2⟩⟩)), (by repeat (first | (with_reducible first | exact HB.out | apply below_alloc | apply pw_below_drewN | apply below_drew1) | exact HB.out))⟩)
                            · skip
                              refine Kd.R_lit_step k32 _ 32 ?hg (N := 32) ?hd (xs := ([] : List (S32))) (inner := []) (ok := fun _ => True) (okp := fun _ => True) ?hr ?hp (fun _ hk => hk) trivial (Below.refl _ _) (Nat.le_refl _) (by simp) ?_; (case hd => rfl); (case hg => rfl); (case hr => first | (go_simp; done) | (go_simp; rfl)); (case hp => exact (Reps.none _ _))
                              intro v287 w42 ho43 hb hg_ hnew_
                              clear hg_ hnew_
                              (first | rw [← Ny286.out] at ho43 | (simp only [Int.reduceToNat] at ho43; rw [← Ny286.out] at ho43))
                              have n0_ := Aside0.mk (Kd.R_below (by (with_reducible repeat (first | apply Kd.R_alloc | apply Kd.R_drewN | apply Kd.R_drew)); exact HO270.out) hb)
                              have n1_ := Aside0.mk (Kd.R_elder' (by (with_reducible repeat (first | apply Kd.R_alloc | apply Kd.R_drewN | apply Kd.R_drew)); exact HO273.out) (Kd.R_base ho43) hb)
                              have n2_ := Aside0.mk (Kd.R_below (by (with_reducible repeat (first | apply Kd.R_alloc | apply Kd.R_drewN | apply Kd.R_drew)); exact HO276.out) hb)
                              have n3_ := Aside0.mk (Kd.R_elder' (by (with_reducible repeat (first | apply Kd.R_alloc | apply Kd.R_drewN | apply Kd.R_drew)); exact HO279.out) (Kd.R_base ho43) hb)
                              have n4_ := Aside0.mk (Kd.R_below (by (with_reducible repeat (first | apply Kd.R_alloc | apply Kd.R_drewN | apply Kd.R_drew)); exact HO282.out) hb)
                              have n5_ := Aside0.mk (Kd.R_lower (Kd.R_new' (Kd.R_new' ho43 (Kd.R_lt (by (with_reducible repeat (first | apply Kd.R_alloc | apply Kd.R_drewN | apply Kd.R_drew)); exact HO273.out))) (Kd.R_lt (by (with_reducible repeat (first | apply Kd.R_alloc | apply Kd.R_drewN | apply Kd.R_drew)); exact HO279.out))) (below_size (by repeat (first | (with_reducible first | exact HB.out | apply below_alloc | apply pw_below_drewN | apply below_drew1) | exact HB.out))))
                              have n6_ := Aside0.mk (Kd.C_below (by repeat (first | (with_reducible exact HR292.out) | (with_reducible refine Kd.C_alloc ?_ _) | (with_reducible refine Kd.C_drewN ?_ _) | (with_reducible refine Kd.C_drew ?_) | exact HR292.out)) hb)
                              have n7_ := Aside0.mk (below_step (by repeat (first | (with_reducible first | exact HB.out | apply below_alloc | apply pw_below_drewN | apply below_drew1) | exact HB.out)) hb)
                              clear HO270
                              clear HO273
                              clear HO276
                              clear HO279
                              clear HO282
                              clear HR292
                              clear HB
                              have HO270 := n0_
                              have HO273 := n1_
                              have HO276 := n2_
                              have HO279 := n3_
                              have HO282 := n4_
                              have HO288 := n5_
                              have HR292 := n6_
                              have HB := n7_
                              clear n0_ n1_ n2_ n3_ n4_ n5_ n6_ n7_
                              clear hb ho43
                              obtain ⟨Ao44, co44, eo44⟩ := Kd.R_slice HO282.out
                              (first | subst eo44 | (injection eo44 with f1_ f2_ f3_; have f4_ := f1_.symm; have f5_ := f3_.symm; clear f1_ f2_ f3_; subst f4_; subst f5_))
                              refine hK.out _ _ trivial (fun hHeld => ?_)
                              clear hK K
                              refine norm_ (a' := ?_) ?_ ?_
                              rotate_left
                              · show Act.put _ (some 32) _ = _
                                simp only [Act.put, List.setIfInBounds_toArray, List.set_cons_zero, List.set_cons_succ, i64_w, i32_w]
                                rfl
                              refine one_ (i := 5) (N := some 31) #[true, true, true, true, true, true, true, true, true, true, true, true, false, true, false, false, false] rfl rfl (one_of HT_.out (by kernel_rfl)) (by decide) (fun K hK => ?_)
                              refine goes_ Tryd.func12 (by kernel_rfl) rfl #[.slice Ao44 t280.length co44] (by rfl) rfl rfl (by (try simp only [List.map_toArray, List.map_cons, List.map_nil]); first | done | rfl | (simp only [List.length_drop, List.length_take]; rfl)) ?_
                              with_reducible refine (tricklelaw15_plain.calls kj4 _ _ t280 t283 _ ?side1 ?side2 A24.out).mono ?_
                              (case side1 => repeat (first | exact (Kd.R_reads' HO282.out).2.2 | (with_reducible refine Kd.C_alloc ?_ _) | (with_reducible refine Kd.C_drewN ?_ _) | (with_reducible refine Kd.C_drew ?_)))
                              (case side2 => exact (Kd.R_reads' HO282.out).2.1)
                              rintro e w45 ⟨v284, rfl, ho0, hb⟩
                              refine ⟨_, rfl, ?_⟩
                              have n0_ := Aside0.mk (Kd.R_below (by (with_reducible repeat (first | apply Kd.R_alloc | apply Kd.R_drewN | apply Kd.R_drew)); exact HO270.out) hb)
                              have n1_ := Aside0.mk (Kd.R_elder' (by (with_reducible repeat (first | apply Kd.R_alloc | apply Kd.R_drewN | apply Kd.R_drew)); exact HO273.out) (Kd.R_base ho0) hb)
                              have n2_ := Aside0.mk (Kd.R_below (by (with_reducible repeat (first | apply Kd.R_alloc | apply Kd.R_drewN | apply Kd.R_drew)); exact HO276.out) hb)
                              have n3_ := Aside0.mk (Kd.R_elder' (by (with_reducible repeat (first | apply Kd.R_alloc | apply Kd.R_drewN | apply Kd.R_drew)); exact HO279.out) (Kd.R_base ho0) hb)
                              have n4_ := Aside0.mk (Kd.R_below (by (with_reducible repeat (first | apply Kd.R_alloc | apply Kd.R_drewN | apply Kd.R_drew)); exact HO282.out) hb)
                              have n5_ := Aside0.mk (Kd.R_elder' (by (with_reducible repeat (first | apply Kd.R_alloc | apply Kd.R_drewN | apply Kd.R_drew)); exact HO288.out) (Kd.R_base ho0) hb)
                              have n6_ := Aside0.mk (Kd.R_lower (Kd.R_new' (Kd.R_new' (Kd.R_new' ho0 (Kd.R_lt (by (with_reducible repeat (first | apply Kd.R_alloc | apply Kd.R_drewN | apply Kd.R_drew)); exact HO273.out))) (Kd.R_lt (by (with_reducible repeat (first | apply Kd.R_alloc | apply Kd.R_drewN | apply Kd.R_drew)); exact HO279.out))) (Kd.R_lt (by (with_reducible repeat (first | apply Kd.R_alloc | apply Kd.R_drewN | apply Kd.R_drew)); exact HO288.out))) (below_size (by repeat (first | (with_reducible first | exact HB.out | apply below_alloc | apply pw_below_drewN | apply below_drew1) | exact HB.out))))
                              have n7_ := Aside0.mk (Kd.C_below (by repeat (first | (with_reducible exact HR292.out) | (with_reducible refine Kd.C_alloc ?_ _) | (with_reducible refine Kd.C_drewN ?_ _) | (with_reducible refine Kd.C_drew ?_) | exact HR292.out)) hb)
                              have n8_ := Aside0.mk (below_step (by repeat (first | (with_reducible first | exact HB.out | apply below_alloc | apply pw_below_drewN | apply below_drew1) | exact HB.out)) hb)
                              clear HO270
                              clear HO273
                              clear HO276
                              clear HO279
                              clear HO282
                              clear HO288
                              clear HR292
                              clear HB
                              have HO270 := n0_
                              have HO273 := n1_
                              have HO276 := n2_
                              have HO279 := n3_
                              have HO282 := n4_
                              have HO288 := n5_
                              have HO285 := n6_
                              have HR292 := n7_
                              have HB := n8_
                              clear n0_ n1_ n2_ n3_ n4_ n5_ n6_ n7_ n8_
                              (try clear hb)
                              (try clear hb2)
                              (try clear hk)
                              (try clear hi)
                              (try clear ho0)
                              refine hK.out _ _ trivial (fun hHeld => ?_)
                              clear hK K
                              refine norm_ (a' := ?_) ?_ ?_
                              rotate_left
                              · show Act.put _ (some 31) _ = _
                                simp only [Act.put, List.setIfInBounds_toArray, List.set_cons_zero, List.set_cons_succ, i64_w, i32_w]
                                rfl
                              exact norm_ (by simp only [putAll, Act.put, List.setIfInBounds_toArray, List.set_cons_zero, List.set_cons_succ]) (hCont (.slice Ao44 t280.length co44, v284, v287) _ ⟨(by (with_reducible repeat (first | apply Kd.R_alloc | apply Kd.R_drewN | apply Kd.R_drew)); exact Kd.R_mono HO270.out (fun _ hk => ⟨hk.1.2, hk.2⟩)), (by (with_reducible repeat (first | apply Kd.R_alloc | apply Kd.R_drewN | apply Kd.R_drew)); exact Kd.R_mono HO273.out (fun _ hk => ⟨hk.1.1.2, ⟨hk.2, hk.1.2⟩⟩)), (by (with_reducible repeat (first | apply Kd.R_alloc | apply Kd.R_drewN | apply Kd.R_drew)); exact Kd.R_mono HO276.out (fun _ hk => ⟨hk.1.2, hk.2⟩)), (by (with_reducible repeat (first | apply Kd.R_alloc | apply Kd.R_drewN | apply Kd.R_drew)); exact Kd.R_mono HO279.out (fun _ hk => ⟨hk.1.1.2, ⟨hk.2, hk.1.2⟩⟩)), (by (with_reducible repeat (first | apply Kd.R_alloc | apply Kd.R_drewN | apply Kd.R_drew)); exact Kd.R_mono HO282.out (fun _ hk => ⟨hk.1.2, hk.2⟩)), (by (with_reducible repeat (first | apply Kd.R_alloc | apply Kd.R_drewN | apply Kd.R_drew)); exact Kd.R_mono HO285.out (fun _ hk => ⟨hk.1.1.2, ⟨hk.1.2, hk.2⟩⟩)), (by (with_reducible repeat (first | apply Kd.R_alloc | apply Kd.R_drewN | apply Kd.R_drew)); exact Kd.R_mono HO288.out (fun _ hk => ⟨hk.1.1.2, ⟨hk.1.2, hk.2⟩⟩)), (by repeat (first | (with_reducible first | exact HB.out | apply below_alloc | apply pw_below_drewN | apply below_drew1) | exact HB.out))⟩)
                          · skip
                            refine Kd.R_lit_step k32 _ 32 ?hg (N := 32) ?hd (xs := ([] : List (S32))) (inner := []) (ok := fun _ => True) (okp := fun _ => True) ?hr ?hp (fun _ hk => hk) trivial (Below.refl _ _) (Nat.le_refl _) (by simp) ?_; (case hd => rfl); (case hg => rfl); (case hr => first | (go_simp; done) | (go_simp; rfl)); (case hp => exact (Reps.none _ _))
                            intro v287 w41 ho42 hb hg_ hnew_
                            clear hg_ hnew_
                            (first | rw [← Ny286.out] at ho42 | (simp only [Int.reduceToNat] at ho42; rw [← Ny286.out] at ho42))
                            have n0_ := Aside0.mk (Kd.R_below (by (with_reducible repeat (first | apply Kd.R_alloc | apply Kd.R_drewN | apply Kd.R_drew)); exact HO270.out) hb)
                            have n1_ := Aside0.mk (Kd.R_elder' (by (with_reducible repeat (first | apply Kd.R_alloc | apply Kd.R_drewN | apply Kd.R_drew)); exact HO273.out) (Kd.R_base ho42) hb)
                            have n2_ := Aside0.mk (Kd.R_below (by (with_reducible repeat (first | apply Kd.R_alloc | apply Kd.R_drewN | apply Kd.R_drew)); exact HO276.out) hb)
                            have n3_ := Aside0.mk (Kd.R_elder' (by (with_reducible repeat (first | apply Kd.R_alloc | apply Kd.R_drewN | apply Kd.R_drew)); exact HO279.out) (Kd.R_base ho42) hb)
                            have n4_ := Aside0.mk (Kd.R_lower (Kd.R_new' (Kd.R_new' ho42 (Kd.R_lt (by (with_reducible repeat (first | apply Kd.R_alloc | apply Kd.R_drewN | apply Kd.R_drew)); exact HO273.out))) (Kd.R_lt (by (with_reducible repeat (first | apply Kd.R_alloc | apply Kd.R_drewN | apply Kd.R_drew)); exact HO279.out))) (below_size (by repeat (first | (with_reducible first | exact HB.out | apply below_alloc | apply pw_below_drewN | apply below_drew1) | exact HB.out))))
                            have n5_ := Aside0.mk (Kd.C_below (by repeat (first | (with_reducible exact HR292.out) | (with_reducible refine Kd.C_alloc ?_ _) | (with_reducible refine Kd.C_drewN ?_ _) | (with_reducible refine Kd.C_drew ?_) | exact HR292.out)) hb)
                            have n6_ := Aside0.mk (below_step (by repeat (first | (with_reducible first | exact HB.out | apply below_alloc | apply pw_below_drewN | apply below_drew1) | exact HB.out)) hb)
                            clear HO270
                            clear HO273
                            clear HO276
                            clear HO279
                            clear HR292
                            clear HB
                            have HO270 := n0_
                            have HO273 := n1_
                            have HO276 := n2_
                            have HO279 := n3_
                            have HO288 := n4_
                            have HR292 := n5_
                            have HB := n6_
                            clear n0_ n1_ n2_ n3_ n4_ n5_ n6_
                            clear hb ho42
                            refine hK.out _ _ trivial (fun hHeld => ?_)
                            clear hK K
                            refine norm_ (a' := ?_) ?_ ?_
                            rotate_left
                            · show Act.put _ (some 32) _ = _
                              simp only [Act.put, List.setIfInBounds_toArray, List.set_cons_zero, List.set_cons_succ, i64_w, i32_w]
                              rfl
                            refine one_ (i := 4) (N := some 30) #[true, true, true, true, true, false, true, true, true, true, true, true, false, true, false, false, false] rfl rfl (one_of HT_.out (by kernel_rfl)) (by decide) (fun K hK => ?_)
                            refine goes_ Tryd.func13 (by kernel_rfl) rfl #[.string ((a0 ++ (⟨#[10]⟩ : ByteArray)) ++ a1)] (by rfl) rfl rfl (by (try simp only [List.map_toArray, List.map_cons, List.map_nil]); first | done | rfl | (simp only [List.length_drop, List.length_take]; rfl)) ?_
                            with_reducible refine (lexer_Scan.calls kj4 ((a0 ++ (⟨#[10]⟩ : ByteArray)) ++ a1) t280 _ ?side1 A23.out).mono ?_
                            (case side1 => refine GW.below HG.out ?_; repeat (first | (with_reducible first | exact HB.out | apply below_alloc | apply pw_below_drewN | apply below_drew1) | exact HB.out))
                            rintro e w43 ⟨v281, rfl, ho0, hb⟩
                            refine ⟨_, rfl, ?_⟩
                            have n0_ := Aside0.mk (Kd.R_elder' (by (with_reducible repeat (first | apply Kd.R_alloc | apply Kd.R_drewN | apply Kd.R_drew)); exact HO270.out) (Kd.R_base ho0) hb)
                            have n1_ := Aside0.mk (Kd.R_below (by (with_reducible repeat (first | apply Kd.R_alloc | apply Kd.R_drewN | apply Kd.R_drew)); exact HO273.out) hb)
                            have n2_ := Aside0.mk (Kd.R_elder' (by (with_reducible repeat (first | apply Kd.R_alloc | apply Kd.R_drewN | apply Kd.R_drew)); exact HO276.out) (Kd.R_base ho0) hb)
                            have n3_ := Aside0.mk (Kd.R_below (by (with_reducible repeat (first | apply Kd.R_alloc | apply Kd.R_drewN | apply Kd.R_drew)); exact HO279.out) hb)
                            have n4_ := Aside0.mk (Kd.R_below (by (with_reducible repeat (first | apply Kd.R_alloc | apply Kd.R_drewN | apply Kd.R_drew)); exact HO288.out) hb)
                            have n5_ := Aside0.mk (Kd.R_lower (Kd.R_new' (Kd.R_new' ho0 (Kd.R_lt (by (with_reducible repeat (first | apply Kd.R_alloc | apply Kd.R_drewN | apply Kd.R_drew)); exact HO270.out))) (Kd.R_lt (by (with_reducible repeat (first | apply Kd.R_alloc | apply Kd.R_drewN | apply Kd.R_drew)); exact HO276.out))) (below_size (by repeat (first | (with_reducible first | exact HB.out | apply below_alloc | apply pw_below_drewN | apply below_drew1) | exact HB.out))))
                            have n6_ := Aside0.mk (Kd.C_below (by repeat (first | (with_reducible exact HR292.out) | (with_reducible refine Kd.C_alloc ?_ _) | (with_reducible refine Kd.C_drewN ?_ _) | (with_reducible refine Kd.C_drew ?_) | exact HR292.out)) hb)
                            have n7_ := Aside0.mk (below_step (by repeat (first | (with_reducible first | exact HB.out | apply below_alloc | apply pw_below_drewN | apply below_drew1) | exact HB.out)) hb)
                            clear HO270
                            clear HO273
                            clear HO276
                            clear HO279
                            clear HO288
                            clear HR292
                            clear HB
                            have HO270 := n0_
                            have HO273 := n1_
                            have HO276 := n2_
                            have HO279 := n3_
                            have HO288 := n4_
                            have HO282 := n5_
                            have HR292 := n6_
                            have HB := n7_
                            clear n0_ n1_ n2_ n3_ n4_ n5_ n6_ n7_
                            (try clear hb)
                            (try clear hb2)
                            (try clear hk)
                            (try clear hi)
                            (try clear ho0)
                            obtain ⟨Ao44, co44, eo44⟩ := Kd.R_slice HO282.out
                            (first | subst eo44 | (injection eo44 with f1_ f2_ f3_; have f4_ := f1_.symm; have f5_ := f3_.symm; clear f1_ f2_ f3_; subst f4_; subst f5_))
                            refine hK.out _ _ trivial (fun hHeld => ?_)
                            clear hK K
                            refine norm_ (a' := ?_) ?_ ?_
                            rotate_left
                            · show Act.put _ (some 30) _ = _
                              simp only [Act.put, List.setIfInBounds_toArray, List.set_cons_zero, List.set_cons_succ, i64_w, i32_w]
                              rfl
                            refine one_ (i := 5) (N := some 31) #[true, true, true, true, true, true, true, true, true, true, true, true, false, true, false, false, false] rfl rfl (one_of HT_.out (by kernel_rfl)) (by decide) (fun K hK => ?_)
                            refine goes_ Tryd.func12 (by kernel_rfl) rfl #[.slice Ao44 t280.length co44] (by rfl) rfl rfl (by (try simp only [List.map_toArray, List.map_cons, List.map_nil]); first | done | rfl | (simp only [List.length_drop, List.length_take]; rfl)) ?_
                            with_reducible refine (tricklelaw15_plain.calls kj4 _ _ t280 t283 _ ?side1 ?side2 A24.out).mono ?_
                            (case side1 => repeat (first | exact (Kd.R_reads' HO282.out).2.2 | (with_reducible refine Kd.C_alloc ?_ _) | (with_reducible refine Kd.C_drewN ?_ _) | (with_reducible refine Kd.C_drew ?_)))
                            (case side2 => exact (Kd.R_reads' HO282.out).2.1)
                            rintro e w45 ⟨v284, rfl, ho0, hb⟩
                            refine ⟨_, rfl, ?_⟩
                            have n0_ := Aside0.mk (Kd.R_below (by (with_reducible repeat (first | apply Kd.R_alloc | apply Kd.R_drewN | apply Kd.R_drew)); exact HO270.out) hb)
                            have n1_ := Aside0.mk (Kd.R_elder' (by (with_reducible repeat (first | apply Kd.R_alloc | apply Kd.R_drewN | apply Kd.R_drew)); exact HO273.out) (Kd.R_base ho0) hb)
                            have n2_ := Aside0.mk (Kd.R_below (by (with_reducible repeat (first | apply Kd.R_alloc | apply Kd.R_drewN | apply Kd.R_drew)); exact HO276.out) hb)
                            have n3_ := Aside0.mk (Kd.R_elder' (by (with_reducible repeat (first | apply Kd.R_alloc | apply Kd.R_drewN | apply Kd.R_drew)); exact HO279.out) (Kd.R_base ho0) hb)
                            have n4_ := Aside0.mk (Kd.R_elder' (by (with_reducible repeat (first | apply Kd.R_alloc | apply Kd.R_drewN | apply Kd.R_drew)); exact HO288.out) (Kd.R_base ho0) hb)
                            have n5_ := Aside0.mk (Kd.R_below (by (with_reducible repeat (first | apply Kd.R_alloc | apply Kd.R_drewN | apply Kd.R_drew)); exact HO282.out) hb)
                            have n6_ := Aside0.mk (Kd.R_lower (Kd.R_new' (Kd.R_new' (Kd.R_new' ho0 (Kd.R_lt (by (with_reducible repeat (first | apply Kd.R_alloc | apply Kd.R_drewN | apply Kd.R_drew)); exact HO273.out))) (Kd.R_lt (by (with_reducible repeat (first | apply Kd.R_alloc | apply Kd.R_drewN | apply Kd.R_drew)); exact HO279.out))) (Kd.R_lt (by (with_reducible repeat (first | apply Kd.R_alloc | apply Kd.R_drewN | apply Kd.R_drew)); exact HO288.out))) (below_size (by repeat (first | (with_reducible first | exact HB.out | apply below_alloc | apply pw_below_drewN | apply below_drew1) | exact HB.out))))
                            have n7_ := Aside0.mk (Kd.C_below (by repeat (first | (with_reducible exact HR292.out) | (with_reducible refine Kd.C_alloc ?_ _) | (with_reducible refine Kd.C_drewN ?_ _) | (with_reducible refine Kd.C_drew ?_) | exact HR292.out)) hb)
                            have n8_ := Aside0.mk (below_step (by repeat (first | (with_reducible first | exact HB.out | apply below_alloc | apply pw_below_drewN | apply below_drew1) | exact HB.out)) hb)
                            clear HO270
                            clear HO273
                            clear HO276
                            clear HO279
                            clear HO288
                            clear HO282
                            clear HR292
                            clear HB
                            have HO270 := n0_
                            have HO273 := n1_
                            have HO276 := n2_
                            have HO279 := n3_
                            have HO288 := n4_
                            have HO282 := n5_
                            have HO285 := n6_
                            have HR292 := n7_
                            have HB := n8_
                            clear n0_ n1_ n2_ n3_ n4_ n5_ n6_ n7_ n8_
                            (try clear hb)
                            (try clear hb2)
                            (try clear hk)
                            (try clear hi)
                            (try clear ho0)
                            refine hK.out _ _ trivial (fun hHeld => ?_)
                            clear hK K
                            refine norm_ (a' := ?_) ?_ ?_
                            rotate_left
                            · show Act.put _ (some 31) _ = _
                              simp only [Act.put, List.setIfInBounds_toArray, List.set_cons_zero, List.set_cons_succ, i64_w, i32_w]
                              rfl
                            exact norm_ (by simp only [putAll, Act.put, List.setIfInBounds_toArray, List.set_cons_zero, List.set_cons_succ]) (hCont (.slice Ao44 t280.length co44, v284, v287) _ ⟨(by (with_reducible repeat (first | apply Kd.R_alloc | apply Kd.R_drewN | apply Kd.R_drew)); exact Kd.R_mono HO270.out (fun _ hk => ⟨hk.1.2, hk.2⟩)), (by (with_reducible repeat (first | apply Kd.R_alloc | apply Kd.R_drewN | apply Kd.R_drew)); exact Kd.R_mono HO273.out (fun _ hk => ⟨hk.1.1.2, ⟨hk.2, hk.1.2⟩⟩)), (by (with_reducible repeat (first | apply Kd.R_alloc | apply Kd.R_drewN | apply Kd.R_drew)); exact Kd.R_mono HO276.out (fun _ hk => ⟨hk.1.2, hk.2⟩)), (by (with_reducible repeat (first | apply Kd.R_alloc | apply Kd.R_drewN | apply Kd.R_drew)); exact Kd.R_mono HO279.out (fun _ hk => ⟨hk.1.1.2, ⟨hk.2, hk.1.2⟩⟩)), (by (with_reducible repeat (first | apply Kd.R_alloc | apply Kd.R_drewN | apply Kd.R_drew)); exact Kd.R_mono HO282.out (fun _ hk => ⟨hk.1.2, hk.2⟩)), (by (with_reducible repeat (first | apply Kd.R_alloc | apply Kd.R_drewN | apply Kd.R_drew)); exact Kd.R_mono HO285.out (fun _ hk => ⟨hk.1.1.2, ⟨hk.1.2, hk.2⟩⟩)), (by (with_reducible repeat (first | apply Kd.R_alloc | apply Kd.R_drewN | apply Kd.R_drew)); exact Kd.R_mono HO288.out (fun _ hk => ⟨hk.1.1.2, ⟨hk.1.2, hk.2⟩⟩)), (by repeat (first | (with_reducible first | exact HB.out | apply below_alloc | apply pw_below_drewN | apply below_drew1) | exact HB.out))⟩)
                        rintro ⟨v281, v284, v287⟩ w46 ⟨h0_, h1_, h2_, h3_, h4_, h5_, h6_, h7_⟩
                        have n0_ : Aside0 (Kd.R k37 37 w46 w.heap.size (fun k_ => some k_ ≠ (.slice Ao35 t274.length co35 : Value).ownBlock ∧ some k_ ≠ (v281 : Value).ownBlock) (.slice Ao32 t268.length co32) t268) := ⟨h0_⟩
                        have n1_ : Aside0 (Kd.R k32 32 w46 w.heap.size (fun k_ => some k_ ≠ (.slice Ao38 t277.length co38 : Value).ownBlock ∧ some k_ ≠ (v284 : Value).ownBlock ∧ some k_ ≠ (v287 : Value).ownBlock) (.slice Ao37 t271.length co37) t271) := ⟨h1_⟩
                        have n2_ : Aside0 (Kd.R k37 37 w46 w.heap.size (fun k_ => some k_ ≠ (.slice Ao32 t268.length co32 : Value).ownBlock ∧ some k_ ≠ (v281 : Value).ownBlock) (.slice Ao35 t274.length co35) t274) := ⟨h2_⟩
                        have n3_ : Aside0 (Kd.R k32 32 w46 w.heap.size (fun k_ => some k_ ≠ (.slice Ao37 t271.length co37 : Value).ownBlock ∧ some k_ ≠ (v284 : Value).ownBlock ∧ some k_ ≠ (v287 : Value).ownBlock) (.slice Ao38 t277.length co38) t277) := ⟨h3_⟩
                        have n4_ : Aside0 (Kd.R k37 37 w46 w.heap.size (fun k_ => some k_ ≠ (.slice Ao32 t268.length co32 : Value).ownBlock ∧ some k_ ≠ (.slice Ao35 t274.length co35 : Value).ownBlock) v281 t280) := ⟨h4_⟩
                        have n5_ : Aside0 (Kd.R k32 32 w46 w.heap.size (fun k_ => some k_ ≠ (.slice Ao37 t271.length co37 : Value).ownBlock ∧ some k_ ≠ (.slice Ao38 t277.length co38 : Value).ownBlock ∧ some k_ ≠ (v287 : Value).ownBlock) v284 t283) := ⟨h5_⟩
                        have n6_ : Aside0 (Kd.R k32 32 w46 w.heap.size (fun k_ => some k_ ≠ (.slice Ao37 t271.length co37 : Value).ownBlock ∧ some k_ ≠ (.slice Ao38 t277.length co38 : Value).ownBlock ∧ some k_ ≠ (v284 : Value).ownBlock) v287 y286) := ⟨h6_⟩
                        have n7_ : Aside0 (Below w.heap.size w w46) := ⟨h7_⟩
                        clear HO270
                        clear HO273
                        clear HO276
                        clear HO279
                        clear HB
                        clear h0_ h1_ h2_ h3_ h4_ h5_ h6_ h7_
                        have HO270 := n0_
                        have HO273 := n1_
                        have HO276 := n2_
                        have HO279 := n3_
                        have HO282 := n4_
                        have HO285 := n5_
                        have HO288 := n6_
                        have HB := n7_
                        clear n0_ n1_ n2_ n3_ n4_ n5_ n6_ n7_
                        have hHeld := trivial
                        refine norm_ (a' := ?_) ?_ ?_
                        rotate_left
                        · simp only [putAll, Act.put, List.setIfInBounds_toArray, List.set_cons_zero, List.set_cons_succ]
                          rfl
                        refine one_ (i := 12) (N := some 38) #[true, true, true, true, true, true, true, true, true, true, true, true, true, true, false, false, false] rfl rfl (one_of HT_.out (by kernel_rfl)) (by decide) (fun K hK => ?_)
                        refine Kd.R_append_rows_step k32 (w0 := w) w.heap.size (by rfl) (.tmp 32) (.tmp 37) 24 32 (.agg #[(.int .i64 0), (.string ⟨#[]⟩), (.int .i16 0), (.int .i64 0)]) 40 rfl Tryd.underlying24 info32 rfl (by decide) (by omega) v287 y286 y289 _ _ _ (fun k_ => some k_ ≠ (.slice Ao37 t271.length co37 : Value).ownBlock ∧ some k_ ≠ (.slice Ao38 t277.length co38 : Value).ownBlock ∧ some k_ ≠ (v284 : Value).ownBlock) (fun _ => False) rfl rfl ?aO ?aR (fun _ _ h => h) (fun _ h => h.elim) ?aF ?aB ?aS ?aL ?_
                        (case aR => exact (show Kd.C k32 _ Ao37 y289.length y289 from by rw [Ny289.out]; exact Kd.C_take ((Kd.R_reads' (by (with_reducible repeat (first | apply Kd.R_alloc | apply Kd.R_drewN | apply Kd.R_drew)); exact HO273.out)).2.2) KL40.out))
                        (case aB => exact (by repeat (first | (with_reducible first | exact HB.out | apply below_alloc | apply pw_below_drewN | apply below_drew1) | exact HB.out)))
                        (case aF => exact (fun k_ hk => ⟨Kd.fresh' (Kd.R_lt (by (with_reducible repeat (first | apply Kd.R_alloc | apply Kd.R_drewN | apply Kd.R_drew)); exact HO273.out)) k_ hk, Kd.fresh' (Kd.R_lt (by (with_reducible repeat (first | apply Kd.R_alloc | apply Kd.R_drewN | apply Kd.R_drew)); exact HO279.out)) k_ hk, Kd.fresh' (Kd.R_lt (by (with_reducible repeat (first | apply Kd.R_alloc | apply Kd.R_drewN | apply Kd.R_drew)); exact HO285.out)) k_ hk⟩))
                        (case aO => exact (by (with_reducible repeat (first | apply Kd.R_alloc | apply Kd.R_drewN | apply Kd.R_drew)); exact HO288.out))
                        (case aS => exact (below_size (by repeat (first | (with_reducible first | exact HB.out | apply below_alloc | apply pw_below_drewN | apply below_drew1) | exact HB.out))))
                        (case aL => have := LMc28.out; omega)
                        intro v294 w47 ho hb hg hat
                        rw [← Ny293.out] at ho
                        have n0_ := Aside0.mk (Kd.R_over' (by (with_reducible repeat (first | apply Kd.R_alloc | apply Kd.R_drewN | apply Kd.R_drew)); exact HO270.out) (Kd.R_typed (by (with_reducible repeat (first | apply Kd.R_alloc | apply Kd.R_drewN | apply Kd.R_drew)); exact HO288.out)) (by decide) hg)
                        have n1_ := Aside0.mk (Kd.R_after (ok := (fun k_ => some k_ ≠ (.slice Ao38 t277.length co38 : Value).ownBlock ∧ some k_ ≠ (v284 : Value).ownBlock)) (by (with_reducible repeat (first | apply Kd.R_alloc | apply Kd.R_drewN | apply Kd.R_drew)); exact Kd.R_mono HO273.out (fun _ hk => ⟨⟨hk.1, hk.2.1⟩, hk.2.2⟩)) hg hat)
                        have n2_ := Aside0.mk (Kd.R_over' (by (with_reducible repeat (first | apply Kd.R_alloc | apply Kd.R_drewN | apply Kd.R_drew)); exact HO276.out) (Kd.R_typed (by (with_reducible repeat (first | apply Kd.R_alloc | apply Kd.R_drewN | apply Kd.R_drew)); exact HO288.out)) (by decide) hg)
                        have n3_ := Aside0.mk (Kd.R_after (ok := (fun k_ => some k_ ≠ (.slice Ao37 t271.length co37 : Value).ownBlock ∧ some k_ ≠ (v284 : Value).ownBlock)) (by (with_reducible repeat (first | apply Kd.R_alloc | apply Kd.R_drewN | apply Kd.R_drew)); exact Kd.R_mono HO279.out (fun _ hk => ⟨⟨hk.1, hk.2.1⟩, hk.2.2⟩)) hg hat)
                        have n4_ := Aside0.mk (Kd.R_over' (by (with_reducible repeat (first | apply Kd.R_alloc | apply Kd.R_drewN | apply Kd.R_drew)); exact HO282.out) (Kd.R_typed (by (with_reducible repeat (first | apply Kd.R_alloc | apply Kd.R_drewN | apply Kd.R_drew)); exact HO288.out)) (by decide) hg)
                        have n5_ := Aside0.mk (Kd.R_after (ok := (fun k_ => some k_ ≠ (.slice Ao37 t271.length co37 : Value).ownBlock ∧ some k_ ≠ (.slice Ao38 t277.length co38 : Value).ownBlock)) (by (with_reducible repeat (first | apply Kd.R_alloc | apply Kd.R_drewN | apply Kd.R_drew)); exact Kd.R_mono HO285.out (fun _ hk => ⟨⟨hk.1, hk.2.1⟩, hk.2.2⟩)) hg hat)
                        have n6_ := Aside0.mk (hb)
                        have n7_ := Aside0.mk (ho)
                        clear HO270
                        clear HO273
                        clear HO276
                        clear HO279
                        clear HO282
                        clear HO285
                        clear HB
                        clear HO288
                        have HO270 := n0_
                        have HO273 := n1_
                        have HO276 := n2_
                        have HO279 := n3_
                        have HO282 := n4_
                        have HO285 := n5_
                        have HB := n6_
                        have HO295 := n7_
                        clear n0_ n1_ n2_ n3_ n4_ n5_ n6_ n7_
                        clear ho hb hg hat
                        refine hK.out _ _ trivial (fun hHeld => ?_)
                        clear hK K
                        refine norm_ (a' := ?_) ?_ ?_
                        rotate_left
                        · show Act.put _ (some 38) _ = _
                          simp only [Act.put, List.setIfInBounds_toArray, List.set_cons_zero, List.set_cons_succ, i64_w, i32_w]
                          rfl
                        refine one_ (i := 14) (N := some 40) #[true, true, true, true, true, true, true, true, true, true, true, true, true, true, true, false, false] rfl rfl (one_of HT_.out (by kernel_rfl)) (by decide) (fun K hK => ?_)
                        refine Kd.R_append_rows_step k32 (w0 := w) w.heap.size (by rfl) (.tmp 38) (.tmp 39) 24 32 (.agg #[(.int .i64 0), (.string ⟨#[]⟩), (.int .i16 0), (.int .i64 0)]) 40 rfl Tryd.underlying24 info32 rfl (by decide) (by omega) v294 y293 t277 _ _ _ (fun k_ => some k_ ≠ (.slice Ao37 t271.length co37 : Value).ownBlock ∧ some k_ ≠ (.slice Ao38 t277.length co38 : Value).ownBlock ∧ some k_ ≠ (v284 : Value).ownBlock) (fun _ => False) rfl rfl ?aO ?aR (fun _ _ h => h) (fun _ h => h.elim) ?aF ?aB ?aS ?aL ?_
                        (case aR => repeat (first | exact (Kd.R_reads' HO279.out).2.2 | (with_reducible refine Kd.C_alloc ?_ _) | (with_reducible refine Kd.C_drewN ?_ _) | (with_reducible refine Kd.C_drew ?_)))
                        (case aB => exact (by repeat (first | (with_reducible first | exact HB.out | apply below_alloc | apply pw_below_drewN | apply below_drew1) | exact HB.out)))
                        (case aF => exact (fun k_ hk => ⟨Kd.fresh' (Kd.R_lt (by (with_reducible repeat (first | apply Kd.R_alloc | apply Kd.R_drewN | apply Kd.R_drew)); exact HO273.out)) k_ hk, Kd.fresh' (Kd.R_lt (by (with_reducible repeat (first | apply Kd.R_alloc | apply Kd.R_drewN | apply Kd.R_drew)); exact HO279.out)) k_ hk, Kd.fresh' (Kd.R_lt (by (with_reducible repeat (first | apply Kd.R_alloc | apply Kd.R_drewN | apply Kd.R_drew)); exact HO285.out)) k_ hk⟩))
                        (case aO => exact (by (with_reducible repeat (first | apply Kd.R_alloc | apply Kd.R_drewN | apply Kd.R_drew)); exact HO295.out))
                        (case aS => exact (below_size (by repeat (first | (with_reducible first | exact HB.out | apply below_alloc | apply pw_below_drewN | apply below_drew1) | exact HB.out))))
                        (case aL => have := LMc29.out; omega)
                        intro v297 w48 ho hb hg hat
                        rw [← Ny296.out] at ho
                        have n0_ := Aside0.mk (Kd.R_over' (by (with_reducible repeat (first | apply Kd.R_alloc | apply Kd.R_drewN | apply Kd.R_drew)); exact HO270.out) (Kd.R_typed (by (with_reducible repeat (first | apply Kd.R_alloc | apply Kd.R_drewN | apply Kd.R_drew)); exact HO295.out)) (by decide) hg)
                        have n1_ := Aside0.mk (Kd.R_after (ok := (fun k_ => some k_ ≠ (.slice Ao38 t277.length co38 : Value).ownBlock ∧ some k_ ≠ (v284 : Value).ownBlock)) (by (with_reducible repeat (first | apply Kd.R_alloc | apply Kd.R_drewN | apply Kd.R_drew)); exact HO273.out) hg hat)
                        have n2_ := Aside0.mk (Kd.R_over' (by (with_reducible repeat (first | apply Kd.R_alloc | apply Kd.R_drewN | apply Kd.R_drew)); exact HO276.out) (Kd.R_typed (by (with_reducible repeat (first | apply Kd.R_alloc | apply Kd.R_drewN | apply Kd.R_drew)); exact HO295.out)) (by decide) hg)
                        have n3_ := Aside0.mk (Kd.R_after (ok := (fun k_ => some k_ ≠ (.slice Ao37 t271.length co37 : Value).ownBlock ∧ some k_ ≠ (v284 : Value).ownBlock)) (by (with_reducible repeat (first | apply Kd.R_alloc | apply Kd.R_drewN | apply Kd.R_drew)); exact HO279.out) hg hat)
                        have n4_ := Aside0.mk (Kd.R_over' (by (with_reducible repeat (first | apply Kd.R_alloc | apply Kd.R_drewN | apply Kd.R_drew)); exact HO282.out) (Kd.R_typed (by (with_reducible repeat (first | apply Kd.R_alloc | apply Kd.R_drewN | apply Kd.R_drew)); exact HO295.out)) (by decide) hg)
                        have n5_ := Aside0.mk (Kd.R_after (ok := (fun k_ => some k_ ≠ (.slice Ao37 t271.length co37 : Value).ownBlock ∧ some k_ ≠ (.slice Ao38 t277.length co38 : Value).ownBlock)) (by (with_reducible repeat (first | apply Kd.R_alloc | apply Kd.R_drewN | apply Kd.R_drew)); exact HO285.out) hg hat)
                        have n6_ := Aside0.mk (hb)
                        have n7_ := Aside0.mk (ho)
                        clear HO270
                        clear HO273
                        clear HO276
                        clear HO279
                        clear HO282
                        clear HO285
                        clear HB
                        clear HO295
                        have HO270 := n0_
                        have HO273 := n1_
                        have HO276 := n2_
                        have HO279 := n3_
                        have HO282 := n4_
                        have HO285 := n5_
                        have HB := n6_
                        have HO298 := n7_
                        clear n0_ n1_ n2_ n3_ n4_ n5_ n6_ n7_
                        clear ho hb hg hat
                        obtain ⟨Ao49, co49, eo49⟩ := Kd.R_slice HO285.out
                        (first | subst eo49 | (injection eo49 with f1_ f2_ f3_; have f4_ := f1_.symm; have f5_ := f3_.symm; clear f1_ f2_ f3_; subst f4_; subst f5_))
                        obtain ⟨Ao50, co50, eo50⟩ := Kd.R_slice HO298.out
                        (first | subst eo50 | (injection eo50 with f1_ f2_ f3_; have f4_ := f1_.symm; have f5_ := f3_.symm; clear f1_ f2_ f3_; subst f4_; subst f5_))
                        refine hK.out _ _ trivial (fun hHeld => ?_)
                        clear hK K
                        refine norm_ (a' := ?_) ?_ ?_
                        rotate_left
                        · show Act.put _ (some 40) _ = _
                          simp only [Act.put, List.setIfInBounds_toArray, List.set_cons_zero, List.set_cons_succ, i64_w, i32_w]
                          rfl
                        refine one_ (i := 15) (N := some 41) #[true, true, true, true, true, true, true, true, true, true, true, true, true, true, true, true, false] rfl rfl (one_of HT_.out (by kernel_rfl)) (by decide) (fun K hK => ?_)
                        refine goes_ Tryd.func11 (by kernel_rfl) rfl #[.slice Ao49 t283.length co49, .slice Ao50 y296.length co50, .bool false] (by rfl) rfl rfl (by (try simp only [List.map_toArray, List.map_cons, List.map_nil]); first | done | rfl | (simp only [List.length_drop, List.length_take]; rfl)) ?_
                        with_reducible refine (trickleref15_Same.calls kj4 _ _ t283 _ _ y296 false t299 _ ?side1 ?side2 ?side3 ?side4 A30.out).mono ?_
                        (case side1 => repeat (first | exact (Kd.R_reads' HO285.out).2.2 | (with_reducible refine Kd.C_alloc ?_ _) | (with_reducible refine Kd.C_drewN ?_ _) | (with_reducible refine Kd.C_drew ?_)))
                        (case side2 => exact (Kd.R_reads' HO285.out).2.1)
                        (case side3 => repeat (first | exact (Kd.R_reads' HO298.out).2.2 | (with_reducible refine Kd.C_alloc ?_ _) | (with_reducible refine Kd.C_drewN ?_ _) | (with_reducible refine Kd.C_drew ?_)))
                        (case side4 => exact (Kd.R_reads' HO298.out).2.1)
                        rintro e w' ⟨rfl, ⟨nd, rfl⟩⟩
                        refine ⟨_, rfl, ?_⟩
                        refine hK.out _ _ trivial (fun hHeld => ?_)
                        clear hK K
                        refine norm_ (a' := ?_) ?_ ?_
                        rotate_left
                        · show Act.put _ (some 41) _ = _
                          simp only [Act.put, List.setIfInBounds_toArray, List.set_cons_zero, List.set_cons_succ, i64_w, i32_w]
                          rfl
                        refine pure_ (i := 16) (N := some 4) (v := ?_) (a' := ?_) #[true, true, true, true, true, true, true, true, true, true, true, true, true, true, true, true, true] rfl rfl (any_of HT_.out (by kernel_rfl)) (fun _ _ _ h => h) (Or.inl ⟨by rfl, ?_⟩) ?_ ?_
                        rotate_left
                        · intro w'
                          go_simp
                          with_reducible rfl
                        rotate_left
                        · simp only [Act.put, List.setIfInBounds_toArray, List.set_cons_zero, List.set_cons_succ, i64_w, i32_w]
                          rfl
                        refine done_ (done_of HT_.out (by kernel_rfl)) ?_
                        try go_wp2
                        go_ret
                        exact ⟨by first | rfl | (simp [errW_none, errW_some] <;> rfl) | (simp only [← hji25]; first | rfl | (simp [errW_none, errW_some] <;> rfl)) | (simp [*, errW_none, errW_some] <;> rfl), by repeat (first | (with_reducible first | exact HB.out | apply below_alloc | apply pw_below_drewN | apply below_drew1) | exact HB.out)⟩
                      · rw [if_neg c29] at H
                        exact absurd H (by simp)
                    · rw [if_neg c28] at H
                      exact absurd H (by simp)
                  · rw [if_neg c27] at H
                    exact absurd H (by simp)
                · rw [if_neg c26] at H
                  exact absurd H (by simp)
              · rw [if_neg c22] at H
                exact absurd H (by simp)
            · rw [if_neg c21] at H
              exact absurd H (by simp)
  · replace c4 := Bool.eq_false_iff.mpr c4
    subst c4
    have H1 : (some false) = some r := by rw [if_neg (show ¬ (false = true) by decide)] at H; exact H
    clear H
    have H := H1
    clear H1
    obtain rfl := Option.some.inj H
    go_enter Tryd.func7, Tryd.ntmps7
    go_wp2_with (first | ((with_reducible refine gate_callee (f := 10) rfl ?_); refine goesL_ (some 7) rfl rfl Tryd.func10 (by kernel_rfl) rfl #[] rfl (by (try simp only [List.map_toArray, List.map_cons, List.map_nil]); first | done | rfl | (simp only [List.length_drop, List.length_take]; rfl)) ?_; (with_reducible refine (tricklelaw15_wakes.calls k  false _ ?side1 A3.out).mono ?_); (case side1 => refine GW.below HG.out ?_; repeat (first | (with_reducible first | exact HB.out | apply below_alloc | apply pw_below_drewN | apply below_drew1) | exact HB.out)); rintro e w51 ⟨rfl, hb⟩; refine ⟨_, rfl, ?_⟩; have n0_ := Aside0.mk (below_step (by repeat (first | (with_reducible first | exact HB.out | apply below_alloc | apply pw_below_drewN | apply below_drew1) | exact HB.out)) hb); clear HB; have HB := n0_; clear n0_; (try clear hb); (try clear hb2); (try clear hk); (try clear hi)))
    go_ret
    exact ⟨by first | rfl | (simp [errW_none, errW_some] <;> rfl) | (simp [*, errW_none, errW_some] <;> rfl), by repeat (first | (with_reducible first | exact HB.out | apply below_alloc | apply pw_below_drewN | apply below_drew1) | exact HB.out)⟩

end Go.Proofs.YtmpbkemicfmbaaaDoor.PX
/- LexerSpaces in plain words: a line feed parts two texts; the tokens of both stand one behind the other. -/
namespace Go.Proofs.YtmpbkemicfmbaaaDoor.PX
open Go.RowKit Go.Proofs.YtmpbkemicfmbaaaDoorW.PrintWords Go.Proofs.YtmpbkemicfmbaaaDoorW.PrintLast Go.Proofs.YtmpbkemicfmbaaaDoorW.PrintMore
set_option linter.unusedVariables false
set_option linter.unusedSimpArgs false
theorem head_app (r b : List UInt8) (h : r.head? = some 47) : (r ++ 10 :: b).head? = some 47 := by
  cases r with
  | nil => cases h
  | cons d q => exact h
theorem head_app' (r b : List UInt8) (h : (r ++ 10 :: b).head? = some 47) : r.head? = some 47 := by
  cases r with
  | nil => exact absurd (Option.some.inj h) (by decide)
  | cons d q => exact h
theorem bl_full (b : List UInt8) : ∀ (a : List UInt8) (m : Bool), bl m a = a.length → bl m (a ++ 10 :: b) = a.length + 1 + bl false b := by
  intro a
  induction a with
  | nil =>
    intro m _
    cases m with
    | false => rw [List.nil_append, bl, if_pos (by decide), List.length_nil]
    | true => rw [List.nil_append, bl, if_pos rfl, List.length_nil]
  | cons c r ih =>
    intro m h
    cases m with
    | false =>
      rw [bl, List.length_cons] at h
      by_cases hw : wsB c = true
      · rw [if_pos hw] at h
        rw [List.cons_append, bl, if_pos hw, ih false (by omega), List.length_cons]
        omega
      · rw [if_neg hw] at h
        by_cases h2 : c = 47 ∧ r.head? = some 47
        · rw [if_pos h2] at h
          rw [List.cons_append, bl, if_neg hw, if_pos ⟨h2.1, head_app r b h2.2⟩, ih true (by omega), List.length_cons]
          omega
        · rw [if_neg h2] at h
          omega
    | true =>
      rw [bl, List.length_cons] at h
      by_cases hc : c = 10
      · rw [if_pos hc] at h
        rw [List.cons_append, bl, if_pos hc, ih false (by omega), List.length_cons]
        omega
      · rw [if_neg hc] at h
        rw [List.cons_append, bl, if_neg hc, ih true (by omega), List.length_cons]
        omega
theorem bl_part (b : List UInt8) : ∀ (a : List UInt8) (m : Bool), bl m a < a.length → bl m (a ++ 10 :: b) = bl m a := by
  intro a
  induction a with
  | nil => intro m h; rw [List.length_nil] at h; omega
  | cons c r ih =>
    intro m h
    cases m with
    | false =>
      rw [bl, List.length_cons] at h
      rw [List.cons_append, bl, bl]
      by_cases hw : wsB c = true
      · rw [if_pos hw] at h
        rw [if_pos hw, if_pos hw, ih false (by omega)]
      · rw [if_neg hw] at h
        rw [if_neg hw, if_neg hw]
        by_cases h2 : c = 47 ∧ r.head? = some 47
        · rw [if_pos h2] at h
          rw [if_pos ⟨h2.1, head_app r b h2.2⟩, if_pos h2, ih true (by omega)]
        · rw [if_neg (fun e => h2 ⟨e.1, head_app' r b e.2⟩), if_neg h2]
    | true =>
      rw [bl, List.length_cons] at h
      rw [List.cons_append, bl, bl]
      by_cases hc : c = 10
      · rw [if_pos hc] at h
        rw [if_pos hc, if_pos hc, ih false (by omega)]
      · rw [if_neg hc] at h
        rw [if_neg hc, if_neg hc, ih true (by omega)]
theorem tkF_skip (d : Nat) (l m : List UInt8) (h : l.drop (bl false l) = m.drop (bl false m)) : tkF (d + 1) l = tkF (d + 1) m := by
  by_cases he : m.drop (bl false m) = []
  · rw [tkF_end _ _ (h.trans he), tkF_end _ _ he]
  · rw [tkF_tok _ _ _ h he, tkF_tok _ _ _ rfl he]
theorem tkF_line (b : List UInt8) : ∀ (d : Nat) (a : List UInt8) (e : Nat), a.length ≤ d → (a ++ 10 :: b).length ≤ e → ∃ ts, tkF (d + 1) a = ts ++ [eofQ] ∧ tkF (e + 1) (a ++ 10 :: b) = ts ++ tkF (b.length + 1) b := by
  intro d
  induction d with
  | zero =>
    intro a e h he
    have ha : a = [] := List.length_eq_zero_iff.mp (by omega)
    subst ha
    refine ⟨[], tkF_end 0 [] rfl, ?_⟩
    rw [List.nil_append] at he ⊢
    rw [List.length_cons] at he
    have hb : bl false (10 :: b) = bl false b + 1 := by rw [bl, if_pos (by decide), Nat.add_comm]
    rw [tkF_skip e (10 :: b) b (by rw [hb, List.drop_succ_cons]), tkF_more e b.length b (by omega) (Nat.le_refl _)]
    rfl
  | succ d ih =>
    intro a e h he
    have hle := bl_le a false
    rw [List.length_append, List.length_cons] at he
    by_cases hb : bl false a = a.length
    · refine ⟨[], tkF_end _ _ (by rw [hb, List.drop_length]), ?_⟩
      have hf := bl_full b a false hb
      have hd : (a ++ 10 :: b).drop (a.length + 1 + bl false b) = b.drop (bl false b) := by
        rw [Nat.add_assoc, List.drop_append, List.drop_of_length_le (by omega), List.nil_append, Nat.add_sub_cancel_left, Nat.add_comm 1, List.drop_succ_cons]
      rw [tkF_skip e (a ++ 10 :: b) b (by rw [hf, hd]), tkF_more e b.length b (by omega) (Nat.le_refl _)]
      rfl
    · have hp := bl_part b a false (by omega)
      generalize hm : a.drop (bl false a) = m
      have hml : m.length = a.length - bl false a := by rw [← hm, List.length_drop]
      have hne : m ≠ [] := by
        intro e0
        rw [e0, List.length_nil] at hml
        omega
      have hr := tokL_range m (List.length_pos_iff.mpr hne)
      have hm2 : (a ++ 10 :: b).drop (bl false (a ++ 10 :: b)) = m ++ 10 :: b := by
        rw [hp, List.drop_append_of_le_length hle, hm]
      have hst := tokL_stop 10 stop10 m b hne
      obtain ⟨e2, rfl⟩ : ∃ e2, e = e2 + 1 := ⟨e - 1, by omega⟩
      obtain ⟨ts, h1, h2⟩ := ih (m.drop (tokL m).n) e2 (by rw [List.length_drop]; omega) (by rw [List.length_append, List.length_cons, List.length_drop]; omega)
      refine ⟨⟨(tokL m).k, m.take (tokL m).n, (tokL m).v⟩ :: ts, ?_, ?_⟩
      · rw [tkF_tok _ _ _ hm hne, h1]
        rfl
      · rw [tkF_tok _ _ _ hm2 (fun e0 => hne (List.append_eq_nil_iff.mp e0).1), hst, List.take_append_of_le_length hr.2, List.drop_append_of_le_length hr.2, h2]
        rfl
end Go.Proofs.YtmpbkemicfmbaaaDoor.PX
namespace Go.Proofs.YtmpbkemicfmbaaaDoor.Pure
open Go.RowKit Go.Proofs.YtmpbkemicfmbaaaDoor.PX Go.Proofs.YtmpbkemicfmbaaaDoorW.PrintWords Go.Proofs.YtmpbkemicfmbaaaDoorW.PrintLast
set_option linter.unusedVariables false
theorem LexerSpaces (a b : ByteArray) (w : a.size ≤ 140737488351232) (w2 : b.size ≤ 140737488351232) : ∃ k, tricklelaw15_LexerSpaces.f k a b = some true := by
  have hsa := bs_len a
  have hsb := bs_len b
  have fin : ∀ c : Bool, (c = false → a.size ≤ 300 ∧ b.size ≤ 300) → Ev (fun k => tricklelaw15_LexerSpaces.j0 k a b c) true := by
    intro c hc
    refine Ev.step (fun k => by rw [tricklelaw15_LexerSpaces.j0]) ?_
    cases c with
    | true => exact Ev.pos rfl (Ev.now _)
    | false =>
      obtain ⟨h1, h2⟩ := hc rfl
      have hla := scan_le a
      have hlb := scan_le b
      obtain ⟨ts, e1, e2⟩ := tkF_line (bs b) (bs a).length (bs a) ((bs a ++ 10 :: bs b).length) (Nat.le_refl _) (Nat.le_refl _)
      have q1 := (strip_scan0 a).trans e1
      have q2 := strip_scan0 b
      have hbs : bs ((a ++ (⟨#[10]⟩ : ByteArray)) ++ b) = bs a ++ 10 :: bs b := by rw [bs_app, bs_app, List.append_assoc]; rfl
      have q3 := strip_scan0 ((a ++ (⟨#[10]⟩ : ByteArray)) ++ b)
      rw [hbs, e2, ← q2] at q3
      have hl3 := scan_le ((a ++ (⟨#[10]⟩ : ByteArray)) ++ b)
      rw [hbs, List.length_append, List.length_cons] at hl3
      have hsz : (a ++ (⟨#[10]⟩ : ByteArray)).size = a.size + 1 := by rw [← bs_len, bs_app, List.length_append, hsa]; rfl
      generalize hx : scan a = x at hla q1
      generalize hy : scan b = y at hlb q3
      generalize hz : scan ((a ++ (⟨#[10]⟩ : ByteArray)) ++ b) = z at hl3 q3
      have hxl : x.length = ts.length + 1 := by
        have := congrArg List.length q1
        rw [List.length_map, List.length_append] at this
        exact this
      have hxt : (x.take (x.length - 1)).map strip = ts := by
        rw [List.map_take, q1, hxl, Nat.add_sub_cancel, List.take_left]
      have hw : wrap64 (((x.map to32).length : Int) - 1) = ((x.length - 1 : Nat) : Int) := by rw [List.length_map, wrap_id (by omega) (by omega)]; omega
      refine Ev.neg (by decide) (Ev.bind (scan_ev a (by omega)) (Ev.bind (plain_ev _ (by rw [hx]; omega)) (Ev.bind (scan_ev b (by omega)) (Ev.bind (plain_ev _ (by rw [hy]; omega)) ?_))))
      rw [hx, hy]
      refine Ev.neg (by rw [List.length_map]; omega) (Ev.pos (by omega) (Ev.pos (by omega) (Ev.bind (scan_ev _ (by rw [hbs, List.length_append, List.length_cons]; omega)) (Ev.bind (plain_ev _ (by rw [hz]; omega)) (Ev.someb ?_)))))
      rw [hz, hw, Int.toNat_natCast]
      refine Ev.pos (by omega) (Ev.pos (by rw [List.length_map]; omega) (Ev.someb (Ev.pos (by rw [List.length_take, List.length_map, List.length_nil]; omega) (Ev.someb (Ev.pos (by rw [List.nil_append, List.length_take, List.length_map, List.length_map]; omega) ?_)))))
      rw [List.nil_append, ← List.map_take, ← List.map_append]
      exact Ev.bind (sameq_ev z (x.take (x.length - 1) ++ y) (by omega) (by rw [q3, List.map_append, hxt])) (Ev.now _)
  refine Ev.rounds (Ev.congr (fun k => by rw [tricklelaw15_LexerSpaces.f]) (Ev.bind wakes15 (Ev.pos rfl ?_)))
  by_cases h : (a.size : Int) > 300
  · exact Ev.pos h (fin true (fun h => by cases h))
  · refine Ev.neg h (fin _ (fun hd => ?_))
    have := of_decide_eq_false hd
    omega
end Go.Proofs.YtmpbkemicfmbaaaDoor.Pure
