/- Parts of the proof, merged in build order: PXx30, MTables, PureLexerTables. -/
import Derived.Test.YtmpbkemicfmbaaaDoorY1
import Derived.Test.YtmpbkemicfmbaaaDoorY4
import Derived.Test.YtmpbkemicfmbaaaDoorY5
import Derived.Test.YtmpbkemicfmbaaaDoorY2
-- Written by a program of this session (wip/xprint.py, over the kit's print tool). Lean checks it.
namespace Go.Proofs.YtmpbkemicfmbaaaDoor.PX
open Go.RowKit Go.Proofs.YtmpbkemicfmbaaaDoorW.PrintWords Go.Proofs.YtmpbkemicfmbaaaDoorW.PrintLast Go.Proofs.YtmpbkemicfmbaaaDoorW.PrintMore
attribute [local go_sem] max2_int min2_int max_two min_two max_three min_three max_four min_four   -- for this text's walks alone
set_option linter.unusedVariables false
set_option linter.unusedSimpArgs false

-- NOT PRINTED: function 7 (tricklelaw15_LexerSpaces)

/-! ### trickleref15_SameTexts: function 20 -/
def trickleref15_SameTexts.l0 : Nat → List ByteArray → List ByteArray → Int → Option (Bool)
  | 0, _, _, _ => none
  | k + 1, x0, x1, x5 => if x5 < (x0.length : Int) then (if 0 ≤ x5 then (if x5 < (x1.length : Int) then (if (rdOf ByteArray.empty x0 x5).toList = (rdOf ByteArray.empty x1 x5).toList then (trickleref15_SameTexts.l0 k x0 x1 (wrap64 (x5 + 1))) else (some false)) else (none)) else (none)) else (some true)
def trickleref15_SameTexts.f (k : Nat) (l0 : List ByteArray) (l1 : List ByteArray) : Option (Bool) := if (l0.length : Int) = (l1.length : Int) then (trickleref15_SameTexts.l0 k l0 l1 0) else (some false)
theorem trickleref15_SameTexts.mono_l : ∀ k, (∀ y0 y1 y2, LeO (trickleref15_SameTexts.l0 k y0 y1 y2) (trickleref15_SameTexts.l0 (k + 1) y0 y1 y2))
  | 0 => fun _ _ _ r h => by simp [trickleref15_SameTexts.l0] at h
  | k + 1 => by
    have ih0 := trickleref15_SameTexts.mono_l k
    · intro y0 y1 y2
      unfold trickleref15_SameTexts.l0
      repeat' first
      | (with_reducible exact ih0 _ _ _)
      | (with_reducible exact LeO.refl _)
      | (with_reducible exact LeO.none _)
      | (with_reducible refine LeO.ite ?_ ?_)
      | (with_reducible refine LeO.bind ?_ (fun _ => ?_))
      | exact ih0 _ _ _
      | exact LeO.none _
      | refine LeO.ite ?_ ?_
      | refine LeO.bind ?_ (fun _ => ?_)
theorem trickleref15_SameTexts.mono : ∀ a0 a1 k, LeO (trickleref15_SameTexts.f k a0 a1) (trickleref15_SameTexts.f (k + 1) a0 a1) := by
  intro a0 a1 k
  have ih0 := trickleref15_SameTexts.mono_l k
  unfold trickleref15_SameTexts.f
  repeat' first
      | (with_reducible exact ih0 _ _ _)
      | (with_reducible exact LeO.refl _)
      | (with_reducible exact LeO.none _)
      | (with_reducible refine LeO.ite ?_ ?_)
      | (with_reducible refine LeO.bind ?_ (fun _ => ?_))
      | exact ih0 _ _ _
      | exact LeO.none _
      | refine LeO.ite ?_ ?_
      | refine LeO.bind ?_ (fun _ => ?_)
set_option maxHeartbeats 8000000 in
set_option maxRecDepth 100000 in
theorem trickleref15_SameTexts.calls (k : Nat) (A0 : Option Addr) (c0 : Nat) (l0 : List ByteArray) (A1 : Option Addr) (c1 : Nat) (l1 : List ByteArray) (r : Bool) (w : World) (hr0 : Kd.C Kd.string w A0 l0.length l0) (hc0 : l0.length ≤ c0) (hr1 : Kd.C Kd.string w A1 l1.length l1) (hc1 : l1.length ≤ c1) (h : trickleref15_SameTexts.f k l0 l1 = some r) :
    Calls Tryd.prog 20 #[.slice A0 l0.length c0, .slice A1 l1.length c1] w fun e w' => e = .returned (.bool r) ∧ Drawn0 w w' := by
  have HR0 := Aside0.mk hr0
  have HC0 := Aside0.mk hc0
  clear hr0 hc0
  have HR1 := Aside0.mk hr1
  have HC1 := Aside0.mk hc1
  clear hr1 hc1
  have H : (if (l0.length : Int) = (l1.length : Int) then (trickleref15_SameTexts.l0 k l0 l1 0) else (some false)) = some r := h
  clear h
  by_cases c3 : (l0.length : Int) = (l1.length : Int)
  · rw [if_pos c3] at H
    have c3b0 : ((l0.length : Int) == (l1.length : Int)) = true := beq_iff_eq.mpr c3
    have c3b1 : ((l0.length : Int) != (l1.length : Int)) = false := bne_eq_false_iff_eq.mpr c3
    have c3b2 : (l0.length == l1.length) = true := by first | simpa using c3 | (simp at c3 ⊢; omega)
    clear c3
    have H' := Aside0.mk H
    clear H
    go_enter Tryd.func20, Tryd.ntmps20
    go_wp2
    repeat (go_quiet (fail); try go_wp2)
    go_loopg [5] k (fun kq v5 w' => ∃ (x5_1 : Int), v5 = .int .i64 x5_1 ∧ Aside0 (trickleref15_SameTexts.l0 kq l0 l1 x5_1 = some r) ∧ Aside0 (kq ≤ k) ∧ Drawn0 w w')
    case atStart => exact ⟨(0), (by first | rfl | (simp; done) | (simp [*]; done)), H', ⟨Nat.le_refl _⟩, by repeat (first | exact Drawn0.refl _ | apply Drawn0.step)⟩
    case round =>
      clear H'
      try clear c1
      try clear c2
      try clear p2
      try clear c3
      try clear c3b0
      try clear c3b1
      try clear c3b2
      obtain ⟨x5_1, rfl, HA, HK1, ⟨m1, rfl⟩⟩ := hrel
      cases gk with
      | zero => exact absurd HA.out (by simp [trickleref15_SameTexts.l0])
      | succ k1 =>
        have H := HA.out
        clear HA
        simp only [trickleref15_SameTexts.l0] at H
        by_cases c4 : x5_1 < (l0.length : Int)
        · rw [if_pos c4] at H
          have c4b0 : decide (x5_1 < (l0.length : Int)) = true := decide_eq_true c4
          clear c4
          by_cases c5 : 0 ≤ x5_1
          · rw [if_pos c5] at H
            have c5b0 : decide (0 ≤ x5_1) = true := decide_eq_true c5
            clear c5
            by_cases c6 : x5_1 < (l1.length : Int)
            · rw [if_pos c6] at H
              have c6b0 : decide (x5_1 < (l1.length : Int)) = true := decide_eq_true c6
              clear c6
              by_cases c7 : (rdOf ByteArray.empty l0 x5_1).toList = (rdOf ByteArray.empty l1 x5_1).toList
              · rw [if_pos c7] at H
                have c7b0 : ((rdOf ByteArray.empty l0 x5_1).toList == (rdOf ByteArray.empty l1 x5_1).toList) = true := beq_iff_eq.mpr c7
                have c7b1 : ((rdOf ByteArray.empty l0 x5_1).toList != (rdOf ByteArray.empty l1 x5_1).toList) = false := bne_eq_false_iff_eq.mpr c7
                clear c7
                have H' := Aside0.mk H
                clear H
                have p300 : 0 ≤ (x5_1 : Int) := of_decide_eq_true (by first | (with_reducible assumption) | assumption)
                have q300 : x5_1 < (l0.length : Int) := of_decide_eq_true (by first | (with_reducible assumption) | assumption)
                obtain ⟨ad300, e300, hx300_0⟩ := Kd.at_string HR0.out x5_1 p300 q300
                cases e300
                replace p300 := eq_true p300
                replace q300 := eq_true q300
                have p301 : 0 ≤ (x5_1 : Int) := of_decide_eq_true (by first | (with_reducible assumption) | assumption)
                have q301 : x5_1 < (l1.length : Int) := of_decide_eq_true (by first | (with_reducible assumption) | assumption)
                obtain ⟨ad301, e301, hx301_0⟩ := Kd.at_string HR1.out x5_1 p301 q301
                cases e301
                replace p301 := eq_true p301
                replace q301 := eq_true q301
                go_wp2
                repeat (go_quiet (fail); try go_wp2)
                go_roundg k1
                case measure => have := HK1.out; omega
                case rel => exact ⟨(wrap64 (x5_1 + 1)), (by first | rfl | (simp; done) | (simp [*]; done)), H', ⟨by have := HK1.out; omega⟩, by repeat (first | exact Drawn0.refl _ | apply Drawn0.step)⟩
              · rw [if_neg c7] at H
                have c7b0 : ((rdOf ByteArray.empty l0 x5_1).toList == (rdOf ByteArray.empty l1 x5_1).toList) = false := beq_eq_false_iff_ne.mpr c7
                have c7b1 : ((rdOf ByteArray.empty l0 x5_1).toList != (rdOf ByteArray.empty l1 x5_1).toList) = true := bne_iff_ne.mpr c7
                obtain rfl := Option.some.inj H
                have p300 : 0 ≤ (x5_1 : Int) := of_decide_eq_true (by first | (with_reducible assumption) | assumption)
                have q300 : x5_1 < (l0.length : Int) := of_decide_eq_true (by first | (with_reducible assumption) | assumption)
                obtain ⟨ad300, e300, hx300_0⟩ := Kd.at_string HR0.out x5_1 p300 q300
                cases e300
                replace p300 := eq_true p300
                replace q300 := eq_true q300
                have p301 : 0 ≤ (x5_1 : Int) := of_decide_eq_true (by first | (with_reducible assumption) | assumption)
                have q301 : x5_1 < (l1.length : Int) := of_decide_eq_true (by first | (with_reducible assumption) | assumption)
                obtain ⟨ad301, e301, hx301_0⟩ := Kd.at_string HR1.out x5_1 p301 q301
                cases e301
                replace p301 := eq_true p301
                replace q301 := eq_true q301
                go_wp2
                repeat (go_quiet (fail); try go_wp2)
                go_ret
                exact ⟨by first | rfl | (simp; done) | (simp [*]; done), by repeat (first | exact Drawn0.refl _ | apply Drawn0.step)⟩
            · rw [if_neg c6] at H
              exact absurd H (by simp)
          · rw [if_neg c5] at H
            exact absurd H (by simp)
        · rw [if_neg c4] at H
          have c4b0 : decide (x5_1 < (l0.length : Int)) = false := decide_eq_false c4
          clear c4
          obtain rfl := Option.some.inj H
          go_wp2
          repeat (go_quiet (fail); try go_wp2)
          go_ret
          exact ⟨by first | rfl | (simp; done) | (simp [*]; done), by repeat (first | exact Drawn0.refl _ | apply Drawn0.step)⟩
  · rw [if_neg c3] at H
    have c3b0 : ((l0.length : Int) == (l1.length : Int)) = false := beq_eq_false_iff_ne.mpr c3
    have c3b1 : ((l0.length : Int) != (l1.length : Int)) = true := bne_iff_ne.mpr c3
    have c3b2 : (l0.length == l1.length) = false := by first | simpa using c3 | (simp at c3 ⊢; omega)
    obtain rfl := Option.some.inj H
    go_enter Tryd.func20, Tryd.ntmps20
    go_wp2
    repeat (go_quiet (fail); try go_wp2)
    go_ret
    exact ⟨by first | rfl | (simp; done) | (simp [*]; done), by repeat (first | exact Drawn0.refl _ | apply Drawn0.step)⟩

-- NOT PRINTED: function 8 (tricklelaw15_LexerTables)

end Go.Proofs.YtmpbkemicfmbaaaDoor.PX
-- Written by a program of this session (wip/xprint.py, over the kit's print tool). Lean checks it.
namespace Go.Proofs.YtmpbkemicfmbaaaDoor.PX
open Go.RowKit Go.Proofs.YtmpbkemicfmbaaaDoorW.PrintWords Go.Proofs.YtmpbkemicfmbaaaDoorW.PrintLast Go.Proofs.YtmpbkemicfmbaaaDoorW.PrintMore
attribute [local go_sem] max2_int min2_int max_two min_two max_three min_three max_four min_four   -- for this text's walks alone
set_option linter.unusedVariables false
set_option linter.unusedSimpArgs false

/-! ### tricklelaw15_LexerTables: function 8 -/
def tricklelaw15_LexerTables.j0 : Nat → Int → List ByteArray → List ByteArray → Bool → Option (Bool)
  | 0, _, _, _, _ => none
  | k + 1, x0, x3, x4, x22 => if x22 = true then (some false) else (if (x3.length : Int) = 0 then (none) else (if 0 ≤ (Int.tmod (wrap64 (x0)) (x3.length : Int)) then (if (Int.tmod (wrap64 (x0)) (x3.length : Int)) < (x3.length : Int) then (if (x4.length : Int) = 0 then (none) else (if 0 ≤ (Int.tmod (wrap64 (x0)) (x4.length : Int)) then (if (Int.tmod (wrap64 (x0)) (x4.length : Int)) < (x4.length : Int) then ((lexer_Scan.f k (rdOf ByteArray.empty x3 (Int.tmod (wrap64 (x0)) (x3.length : Int)))).bind fun t319 => ((lexer_Scan.f k (rdOf ByteArray.empty x4 (Int.tmod (wrap64 (x0)) (x4.length : Int)))).bind fun t322 => (if (t319.length : Int) = 2 then (if 0 < (t319.length : Int) then (if ((rd_T37 t319 0).f0) = 3 then (if ((rd_T37 t319 0).f1).toList = (rdOf ByteArray.empty x3 (Int.tmod (wrap64 (x0)) (x3.length : Int))).toList then (if (t322.length : Int) = 2 then (if 0 < (t322.length : Int) then (if ((rd_T37 t322 0).f0) = 4 then (if ((rd_T37 t322 0).f1).toList = (rdOf ByteArray.empty x4 (Int.tmod (wrap64 (x0)) (x4.length : Int))).toList then ((lexer_Keywords.f).bind fun t331 => ((trickleref15_Keywords.f).bind fun t334 => ((trickleref15_SameTexts.f k t331 t334).bind fun t337 => (if t337 = true then ((lexer_Punctuation.f).bind fun t338 => ((trickleref15_Punctuation.f).bind fun t341 => ((trickleref15_SameTexts.f k t338 t341).bind fun t344 => (some t344)))) else (some false))))) else (some false)) else (some false)) else (none)) else (some false)) else (some false)) else (some false)) else (none)) else (some false)))) else (none)) else (none))) else (none)) else (none)))
def tricklelaw15_LexerTables.f (k : Nat) (a0 : Int) : Option (Bool) := (tricklelaw15_wakes.f k).bind fun t302 => (if t302 = true then ((lexer_Keywords.f).bind fun t303 => ((lexer_Punctuation.f).bind fun t306 => ((trickleref15_Keywords.f).bind fun t309 => ((trickleref15_SameTexts.f k t303 t309).bind fun t312 => (if t312 = true then ((trickleref15_Punctuation.f).bind fun t313 => ((trickleref15_SameTexts.f k t306 t313).bind fun t316 => (tricklelaw15_LexerTables.j0 k a0 t303 t306 (!t316)))) else (tricklelaw15_LexerTables.j0 k a0 t303 t306 true)))))) else (some false))
def tricklelaw15_LexerTables.T6 : Bool × List (List Nat × List Nat) := (true, [([], []), ([], []), ([1], [1]), ([], []), ([3], [3]), ([2, 4], [2, 4]), ([0, 5], [0, 5]), ([6], [6]), ([], []), ([], []), ([9], [9]), ([], []), ([11], [11]), ([10, 12], [10, 12]), ([8, 13], [8, 13]), ([14], [14]), ([7, 0, 1, 2, 3, 4, 5, 6, 7], [7]), ([15, 16, 0, 1, 2, 3, 4, 5, 6, 7, 8, 9, 10, 11, 12, 13, 14, 15, 16], [15])])
def tricklelaw15_LexerTables.B6 : List Nat := [0, 0, 2, 0, 8, 30, 63, 127, 0, 0, 512, 0, 2048, 7680, 16128, 32512, 255, 131071]
theorem tricklelaw15_LexerTables.tab6 : rtab .any (opsOf Tryd.f8 6) = tricklelaw15_LexerTables.T6 := by kernel_rfl
theorem tricklelaw15_LexerTables.bits6 : waitsOk tricklelaw15_LexerTables.T6.2 tricklelaw15_LexerTables.B6 = true := by kernel_rfl
def tricklelaw15_LexerTables.T8 : Bool × List (List Nat × List Nat) := (true, [([], []), ([], []), ([1], [1]), ([], []), ([3], [3]), ([2, 4], [2, 4]), ([], []), ([], []), ([7], [7]), ([], []), ([9], [9]), ([8, 10], [8, 10]), ([0, 5, 0, 1, 2, 3, 4, 5], [0, 5]), ([12, 0, 1, 2, 3, 4, 5], [12]), ([6, 11, 0, 1, 2, 3, 4, 5, 6, 7, 8, 9, 10, 11, 12, 13], [6, 11]), ([14, 13, 0, 1, 2, 3, 4, 5, 6, 7, 8, 9, 10, 11, 12, 13], [14])])
def tricklelaw15_LexerTables.B8 : List Nat := [0, 0, 2, 0, 8, 30, 0, 0, 128, 0, 512, 1920, 63, 4159, 16383, 32767]
theorem tricklelaw15_LexerTables.tab8 : rtab .any (opsOf Tryd.f8 8) = tricklelaw15_LexerTables.T8 := by kernel_rfl
theorem tricklelaw15_LexerTables.bits8 : waitsOk tricklelaw15_LexerTables.T8.2 tricklelaw15_LexerTables.B8 = true := by kernel_rfl
set_option maxHeartbeats 8000000 in
set_option maxRecDepth 100000 in
theorem tricklelaw15_LexerTables.calls (k : Nat) (a0 : Int) (r : Bool) (hrt : r = true) (w : World) (hG : GW w) (h : tricklelaw15_LexerTables.f k a0 = some r) :
    Calls Tryd.prog 8 #[.int .u8 a0] w fun e w' => e = .returned (.bool r) ∧ Below w.heap.size w w' := by
  have HRT := Aside0.mk hrt
  clear hrt
  have HG := Aside0.mk hG
  clear hG
  have HB := Aside0.mk (Below.refl w.heap.size w)
  have H : ((tricklelaw15_wakes.f k).bind fun t302 => (if t302 = true then ((lexer_Keywords.f).bind fun t303 => ((lexer_Punctuation.f).bind fun t306 => ((trickleref15_Keywords.f).bind fun t309 => ((trickleref15_SameTexts.f k t303 t309).bind fun t312 => (if t312 = true then ((trickleref15_Punctuation.f).bind fun t313 => ((trickleref15_SameTexts.f k t306 t313).bind fun t316 => (tricklelaw15_LexerTables.j0 k a0 t303 t306 (!t316)))) else (tricklelaw15_LexerTables.j0 k a0 t303 t306 true)))))) else (some false))) = some r := h
  clear h
  replace H := Option.bind_eq_some_iff.mp H
  obtain ⟨t302, A20, H⟩ := H
  replace H : (if t302 = true then ((lexer_Keywords.f).bind fun t303 => ((lexer_Punctuation.f).bind fun t306 => ((trickleref15_Keywords.f).bind fun t309 => ((trickleref15_SameTexts.f k t303 t309).bind fun t312 => (if t312 = true then ((trickleref15_Punctuation.f).bind fun t313 => ((trickleref15_SameTexts.f k t306 t313).bind fun t316 => (tricklelaw15_LexerTables.j0 k a0 t303 t306 (!t316)))) else (tricklelaw15_LexerTables.j0 k a0 t303 t306 true)))))) else (some false)) = some r := H
  have A2 := Aside0.mk A20
  clear A20
  by_cases c3 : t302 = true
  · subst c3
    have H1 : ((lexer_Keywords.f).bind fun t303 => ((lexer_Punctuation.f).bind fun t306 => ((trickleref15_Keywords.f).bind fun t309 => ((trickleref15_SameTexts.f k t303 t309).bind fun t312 => (if t312 = true then ((trickleref15_Punctuation.f).bind fun t313 => ((trickleref15_SameTexts.f k t306 t313).bind fun t316 => (tricklelaw15_LexerTables.j0 k a0 t303 t306 (!t316)))) else (tricklelaw15_LexerTables.j0 k a0 t303 t306 true)))))) = some r := by rw [if_pos rfl] at H; exact H
    clear H
    have H := H1
    clear H1
    replace H := Option.bind_eq_some_iff.mp H
    obtain ⟨t303, A40, H⟩ := H
    replace H : ((lexer_Punctuation.f).bind fun t306 => ((trickleref15_Keywords.f).bind fun t309 => ((trickleref15_SameTexts.f k t303 t309).bind fun t312 => (if t312 = true then ((trickleref15_Punctuation.f).bind fun t313 => ((trickleref15_SameTexts.f k t306 t313).bind fun t316 => (tricklelaw15_LexerTables.j0 k a0 t303 t306 (!t316)))) else (tricklelaw15_LexerTables.j0 k a0 t303 t306 true))))) = some r := H
    have A4 := Aside0.mk A40
    clear A40
    replace H := Option.bind_eq_some_iff.mp H
    obtain ⟨t306, A50, H⟩ := H
    replace H : ((trickleref15_Keywords.f).bind fun t309 => ((trickleref15_SameTexts.f k t303 t309).bind fun t312 => (if t312 = true then ((trickleref15_Punctuation.f).bind fun t313 => ((trickleref15_SameTexts.f k t306 t313).bind fun t316 => (tricklelaw15_LexerTables.j0 k a0 t303 t306 (!t316)))) else (tricklelaw15_LexerTables.j0 k a0 t303 t306 true)))) = some r := H
    have A5 := Aside0.mk A50
    clear A50
    have HC6 := Aside0.mk H
    clear H
    go_enter Tryd.func8, Tryd.ntmps8
    go_upto_region 4 with (first | ((with_reducible refine gate_callee (f := 10) rfl ?_); refine goesL_ (some 9) rfl rfl Tryd.func10 (by kernel_rfl) rfl #[] rfl (by (try simp only [List.map_toArray, List.map_cons, List.map_nil]); first | done | rfl | (simp only [List.length_drop, List.length_take]; rfl)) ?_; (with_reducible refine (tricklelaw15_wakes.calls k  true _ ?side1 A2.out).mono ?_); (case side1 => refine GW.below HG.out ?_; repeat (first | (with_reducible first | exact HB.out | apply below_alloc | apply pw_below_drewN | apply below_drew1) | exact HB.out)); rintro e w7 ⟨rfl, hb⟩; refine ⟨_, rfl, ?_⟩; have n0_ := Aside0.mk (below_step (by repeat (first | (with_reducible first | exact HB.out | apply below_alloc | apply pw_below_drewN | apply below_drew1) | exact HB.out)) hb); clear HB; have HB := n0_; clear n0_; (try clear hb); (try clear hb2); (try clear hk); (try clear hi)) | ((with_reducible refine gate_callee (f := 18) rfl ?_); refine goesL_ (some 11) rfl rfl Tryd.func18 (by kernel_rfl) rfl #[] rfl (by (try simp only [List.map_toArray, List.map_cons, List.map_nil]); first | done | rfl | (simp only [List.length_drop, List.length_take]; rfl)) ?_; (with_reducible refine (lexer_Keywords.calls  t303 _ ?side1 A4.out).mono ?_); (case side1 => refine GW.below HG.out ?_; repeat (first | (with_reducible first | exact HB.out | apply below_alloc | apply pw_below_drewN | apply below_drew1) | exact HB.out)); rintro e w8 ⟨v304, rfl, ho0, hb⟩; refine ⟨_, rfl, ?_⟩; have n0_ := Aside0.mk (Kd.R_lower ho0 (below_size (by repeat (first | (with_reducible first | exact HB.out | apply below_alloc | apply pw_below_drewN | apply below_drew1) | exact HB.out)))); have n1_ := Aside0.mk (below_step (by repeat (first | (with_reducible first | exact HB.out | apply below_alloc | apply pw_below_drewN | apply below_drew1) | exact HB.out)) hb); clear HB; have HO305 := n0_; have HB := n1_; clear n0_ n1_; (try clear hb); (try clear hb2); (try clear hk); (try clear hi); (try clear ho0)) | ((with_reducible refine gate_callee (f := 19) rfl ?_); refine goesL_ (some 12) rfl rfl Tryd.func19 (by kernel_rfl) rfl #[] rfl (by (try simp only [List.map_toArray, List.map_cons, List.map_nil]); first | done | rfl | (simp only [List.length_drop, List.length_take]; rfl)) ?_; (with_reducible refine (lexer_Punctuation.calls  t306 _ ?side1 A5.out).mono ?_); (case side1 => refine GW.below HG.out ?_; repeat (first | (with_reducible first | exact HB.out | apply below_alloc | apply pw_below_drewN | apply below_drew1) | exact HB.out)); rintro e w9 ⟨v307, rfl, ho0, hb⟩; refine ⟨_, rfl, ?_⟩; have n0_ := Aside0.mk (Kd.R_elder' (by (with_reducible repeat (first | apply Kd.R_alloc | apply Kd.R_drewN | apply Kd.R_drew)); exact HO305.out) (Kd.R_base ho0) hb); have n1_ := Aside0.mk (Kd.R_lower (Kd.R_new' ho0 (Kd.R_lt (by (with_reducible repeat (first | apply Kd.R_alloc | apply Kd.R_drewN | apply Kd.R_drew)); exact HO305.out))) (below_size (by repeat (first | (with_reducible first | exact HB.out | apply below_alloc | apply pw_below_drewN | apply below_drew1) | exact HB.out)))); have n2_ := Aside0.mk (below_step (by repeat (first | (with_reducible first | exact HB.out | apply below_alloc | apply pw_below_drewN | apply below_drew1) | exact HB.out)) hb); clear HO305; clear HB; have HO305 := n0_; have HO308 := n1_; have HB := n2_; clear n0_ n1_ n2_; (try clear hb); (try clear hb2); (try clear hk); (try clear hi); (try clear ho0)))
    (try simp only [Act.put, List.setIfInBounds_toArray, List.set_cons_zero, List.set_cons_succ])
    go_cut [22] (fun v22 wc => ∃ (kq : Nat) (x22_5 : Bool), v22 = .bool x22_5 ∧ Aside0 (tricklelaw15_LexerTables.j0 kq a0 t303 t306 x22_5 = some r) ∧ Aside0 (kq ≤ k) ∧ Aside0 (Kd.R Kd.string 9 wc w.heap.size (fun k_ => some k_ ≠ (v307 : Value).ownBlock) v304 t303) ∧ Aside0 (Kd.R Kd.string 9 wc w.heap.size (fun k_ => some k_ ≠ (v304 : Value).ownBlock) v307 t306) ∧ Aside0 (Below w.heap.size w wc))
    case first =>
      have H := HC6.out
      clear HC6
      replace H := Option.bind_eq_some_iff.mp H
      obtain ⟨t309, A100, H⟩ := H
      replace H : ((trickleref15_SameTexts.f k t303 t309).bind fun t312 => (if t312 = true then ((trickleref15_Punctuation.f).bind fun t313 => ((trickleref15_SameTexts.f k t306 t313).bind fun t316 => (tricklelaw15_LexerTables.j0 k a0 t303 t306 (!t316)))) else (tricklelaw15_LexerTables.j0 k a0 t303 t306 true))) = some r := H
      have A10 := Aside0.mk A100
      clear A100
      replace H := Option.bind_eq_some_iff.mp H
      obtain ⟨t312, A110, H⟩ := H
      replace H : (if t312 = true then ((trickleref15_Punctuation.f).bind fun t313 => ((trickleref15_SameTexts.f k t306 t313).bind fun t316 => (tricklelaw15_LexerTables.j0 k a0 t303 t306 (!t316)))) else (tricklelaw15_LexerTables.j0 k a0 t303 t306 true)) = some r := H
      have A11 := Aside0.mk A110
      clear A110
      by_cases c12 : t312 = true
      · subst c12
        have H1 : ((trickleref15_Punctuation.f).bind fun t313 => ((trickleref15_SameTexts.f k t306 t313).bind fun t316 => (tricklelaw15_LexerTables.j0 k a0 t303 t306 (!t316)))) = some r := by rw [if_pos rfl] at H; exact H
        clear H
        have H := H1
        clear H1
        replace H := Option.bind_eq_some_iff.mp H
        obtain ⟨t313, A130, H⟩ := H
        replace H : ((trickleref15_SameTexts.f k t306 t313).bind fun t316 => (tricklelaw15_LexerTables.j0 k a0 t303 t306 (!t316))) = some r := H
        have A13 := Aside0.mk A130
        clear A130
        replace H := Option.bind_eq_some_iff.mp H
        obtain ⟨t316, A140, H⟩ := H
        replace H : (tricklelaw15_LexerTables.j0 k a0 t303 t306 (!t316)) = some r := H
        have A14 := Aside0.mk A140
        clear A140
        have H' := Aside0.mk H
        clear H
        go_wp2_with (first | ((with_reducible refine gate_callee (f := 21) rfl ?_); refine goesL_ (some 14) rfl rfl Tryd.func21 (by kernel_rfl) rfl #[] rfl (by (try simp only [List.map_toArray, List.map_cons, List.map_nil]); first | done | rfl | (simp only [List.length_drop, List.length_take]; rfl)) ?_; (with_reducible refine (trickleref15_Keywords.calls  t309 _ A10.out).mono ?_); rintro e w15 ⟨v310, rfl, ho0, hb⟩; refine ⟨_, rfl, ?_⟩; have n0_ := Aside0.mk (Kd.R_elder' (by (with_reducible repeat (first | apply Kd.R_alloc | apply Kd.R_drewN | apply Kd.R_drew)); exact HO305.out) (Kd.R_base ho0) hb); have n1_ := Aside0.mk (Kd.R_elder' (by (with_reducible repeat (first | apply Kd.R_alloc | apply Kd.R_drewN | apply Kd.R_drew)); exact HO308.out) (Kd.R_base ho0) hb); have n2_ := Aside0.mk (Kd.R_lower (Kd.R_new' (Kd.R_new' ho0 (Kd.R_lt (by (with_reducible repeat (first | apply Kd.R_alloc | apply Kd.R_drewN | apply Kd.R_drew)); exact HO305.out))) (Kd.R_lt (by (with_reducible repeat (first | apply Kd.R_alloc | apply Kd.R_drewN | apply Kd.R_drew)); exact HO308.out))) (below_size (by repeat (first | (with_reducible first | exact HB.out | apply below_alloc | apply pw_below_drewN | apply below_drew1) | exact HB.out)))); have n3_ := Aside0.mk (below_step (by repeat (first | (with_reducible first | exact HB.out | apply below_alloc | apply pw_below_drewN | apply below_drew1) | exact HB.out)) hb); clear HO305; clear HO308; clear HB; have HO305 := n0_; have HO308 := n1_; have HO311 := n2_; have HB := n3_; clear n0_ n1_ n2_ n3_; (try clear hb); (try clear hb2); (try clear hk); (try clear hi); (try clear ho0); obtain ⟨Ao16, co16, eo16⟩ := Kd.R_slice HO305.out; subst eo16; obtain ⟨Ao17, co17, eo17⟩ := Kd.R_slice HO311.out; subst eo17) | ((with_reducible refine gate_callee (f := 20) rfl ?_); refine goesL_ (some 15) rfl rfl Tryd.func20 (by kernel_rfl) rfl #[.slice Ao16 t303.length co16, .slice Ao17 t309.length co17] rfl (by (try simp only [List.map_toArray, List.map_cons, List.map_nil]); first | done | rfl | (simp only [List.length_drop, List.length_take]; rfl)) ?_; (with_reducible refine (trickleref15_SameTexts.calls k _ _ t303 _ _ t309 true _ ?side1 ?side2 ?side3 ?side4 A11.out).mono ?_); (case side1 => repeat (first | exact (Kd.R_reads' HO305.out).2.2 | (with_reducible refine Kd.C_alloc ?_ _) | (with_reducible refine Kd.C_drewN ?_ _) | (with_reducible refine Kd.C_drew ?_))); (case side2 => exact (Kd.R_reads' HO305.out).2.1); (case side3 => repeat (first | exact (Kd.R_reads' HO311.out).2.2 | (with_reducible refine Kd.C_alloc ?_ _) | (with_reducible refine Kd.C_drewN ?_ _) | (with_reducible refine Kd.C_drew ?_))); (case side4 => exact (Kd.R_reads' HO311.out).2.1); rintro e w' ⟨rfl, ⟨nd, rfl⟩⟩; refine ⟨_, rfl, ?_⟩) | (go_at_call 22; (with_reducible refine (trickleref15_Punctuation.calls  t313 _ A13.out).mono ?_); rintro e w18 ⟨v314, rfl, ho0, hb⟩; have n0_ := Aside0.mk (Kd.R_elder' (by (with_reducible repeat (first | apply Kd.R_alloc | apply Kd.R_drewN | apply Kd.R_drew)); exact HO305.out) (Kd.R_base ho0) hb); have n1_ := Aside0.mk (Kd.R_elder' (by (with_reducible repeat (first | apply Kd.R_alloc | apply Kd.R_drewN | apply Kd.R_drew)); exact HO308.out) (Kd.R_base ho0) hb); have n2_ := Aside0.mk (Kd.R_elder' (by (with_reducible repeat (first | apply Kd.R_alloc | apply Kd.R_drewN | apply Kd.R_drew)); exact HO311.out) (Kd.R_base ho0) hb); have n3_ := Aside0.mk (Kd.R_lower (Kd.R_new' (Kd.R_new' (Kd.R_new' ho0 (Kd.R_lt (by (with_reducible repeat (first | apply Kd.R_alloc | apply Kd.R_drewN | apply Kd.R_drew)); exact HO305.out))) (Kd.R_lt (by (with_reducible repeat (first | apply Kd.R_alloc | apply Kd.R_drewN | apply Kd.R_drew)); exact HO308.out))) (Kd.R_lt (by (with_reducible repeat (first | apply Kd.R_alloc | apply Kd.R_drewN | apply Kd.R_drew)); exact HO311.out))) (below_size (by repeat (first | (with_reducible first | exact HB.out | apply below_alloc | apply pw_below_drewN | apply below_drew1) | exact HB.out)))); have n4_ := Aside0.mk (below_step (by repeat (first | (with_reducible first | exact HB.out | apply below_alloc | apply pw_below_drewN | apply below_drew1) | exact HB.out)) hb); clear HO305; clear HO308; clear HO311; clear HB; have HO305 := n0_; have HO308 := n1_; have HO311 := n2_; have HO315 := n3_; have HB := n4_; clear n0_ n1_ n2_ n3_ n4_; (try clear hb); (try clear hb2); (try clear hk); (try clear hi); (try clear ho0); obtain ⟨Ao19, co19, eo19⟩ := Kd.R_slice HO308.out; subst eo19; obtain ⟨Ao20, co20, eo20⟩ := Kd.R_slice HO315.out; subst eo20) | (go_at_call 20; (with_reducible refine (trickleref15_SameTexts.calls k _ _ t306 _ _ t313 t316 _ ?side1 ?side2 ?side3 ?side4 A14.out).mono ?_); (case side1 => repeat (first | exact (Kd.R_reads' HO308.out).2.2 | (with_reducible refine Kd.C_alloc ?_ _) | (with_reducible refine Kd.C_drewN ?_ _) | (with_reducible refine Kd.C_drew ?_))); (case side2 => exact (Kd.R_reads' HO308.out).2.1); (case side3 => repeat (first | exact (Kd.R_reads' HO315.out).2.2 | (with_reducible refine Kd.C_alloc ?_ _) | (with_reducible refine Kd.C_drewN ?_ _) | (with_reducible refine Kd.C_drew ?_))); (case side4 => exact (Kd.R_reads' HO315.out).2.1); rintro e w' ⟨rfl, ⟨nd, rfl⟩⟩))
        go_meet
        case rel => exact ⟨_, (!t316), (by first | rfl | (simp; done) | (simp [*]; done)), H', ⟨by first | omega | exact Nat.le_refl _⟩, ⟨by (with_reducible repeat (first | apply Kd.R_alloc | apply Kd.R_drewN | apply Kd.R_drew)); exact Kd.R_mono HO305.out (fun _ hk => hk.1.1.2)⟩, ⟨by (with_reducible repeat (first | apply Kd.R_alloc | apply Kd.R_drewN | apply Kd.R_drew)); exact Kd.R_mono HO308.out (fun _ hk => hk.1.1.2)⟩, ⟨by repeat (first | (with_reducible first | exact HB.out | apply below_alloc | apply pw_below_drewN | apply below_drew1) | exact HB.out)⟩⟩
      · replace c12 := Bool.eq_false_iff.mpr c12
        subst c12
        have H1 : (tricklelaw15_LexerTables.j0 k a0 t303 t306 true) = some r := by rw [if_neg (show ¬ (false = true) by decide)] at H; exact H
        clear H
        have H := H1
        clear H1
        have H' := Aside0.mk H
        clear H
        go_wp2_with (first | ((with_reducible refine gate_callee (f := 21) rfl ?_); refine goesL_ (some 14) rfl rfl Tryd.func21 (by kernel_rfl) rfl #[] rfl (by (try simp only [List.map_toArray, List.map_cons, List.map_nil]); first | done | rfl | (simp only [List.length_drop, List.length_take]; rfl)) ?_; (with_reducible refine (trickleref15_Keywords.calls  t309 _ A10.out).mono ?_); rintro e w21 ⟨v310, rfl, ho0, hb⟩; refine ⟨_, rfl, ?_⟩; have n0_ := Aside0.mk (Kd.R_elder' (by (with_reducible repeat (first | apply Kd.R_alloc | apply Kd.R_drewN | apply Kd.R_drew)); exact HO305.out) (Kd.R_base ho0) hb); have n1_ := Aside0.mk (Kd.R_elder' (by (with_reducible repeat (first | apply Kd.R_alloc | apply Kd.R_drewN | apply Kd.R_drew)); exact HO308.out) (Kd.R_base ho0) hb); have n2_ := Aside0.mk (Kd.R_lower (Kd.R_new' (Kd.R_new' ho0 (Kd.R_lt (by (with_reducible repeat (first | apply Kd.R_alloc | apply Kd.R_drewN | apply Kd.R_drew)); exact HO305.out))) (Kd.R_lt (by (with_reducible repeat (first | apply Kd.R_alloc | apply Kd.R_drewN | apply Kd.R_drew)); exact HO308.out))) (below_size (by repeat (first | (with_reducible first | exact HB.out | apply below_alloc | apply pw_below_drewN | apply below_drew1) | exact HB.out)))); have n3_ := Aside0.mk (below_step (by repeat (first | (with_reducible first | exact HB.out | apply below_alloc | apply pw_below_drewN | apply below_drew1) | exact HB.out)) hb); clear HO305; clear HO308; clear HB; have HO305 := n0_; have HO308 := n1_; have HO311 := n2_; have HB := n3_; clear n0_ n1_ n2_ n3_; (try clear hb); (try clear hb2); (try clear hk); (try clear hi); (try clear ho0); obtain ⟨Ao22, co22, eo22⟩ := Kd.R_slice HO305.out; subst eo22; obtain ⟨Ao23, co23, eo23⟩ := Kd.R_slice HO311.out; subst eo23) | ((with_reducible refine gate_callee (f := 20) rfl ?_); refine goesL_ (some 15) rfl rfl Tryd.func20 (by kernel_rfl) rfl #[.slice Ao22 t303.length co22, .slice Ao23 t309.length co23] rfl (by (try simp only [List.map_toArray, List.map_cons, List.map_nil]); first | done | rfl | (simp only [List.length_drop, List.length_take]; rfl)) ?_; (with_reducible refine (trickleref15_SameTexts.calls k _ _ t303 _ _ t309 false _ ?side1 ?side2 ?side3 ?side4 A11.out).mono ?_); (case side1 => repeat (first | exact (Kd.R_reads' HO305.out).2.2 | (with_reducible refine Kd.C_alloc ?_ _) | (with_reducible refine Kd.C_drewN ?_ _) | (with_reducible refine Kd.C_drew ?_))); (case side2 => exact (Kd.R_reads' HO305.out).2.1); (case side3 => repeat (first | exact (Kd.R_reads' HO311.out).2.2 | (with_reducible refine Kd.C_alloc ?_ _) | (with_reducible refine Kd.C_drewN ?_ _) | (with_reducible refine Kd.C_drew ?_))); (case side4 => exact (Kd.R_reads' HO311.out).2.1); rintro e w' ⟨rfl, ⟨nd, rfl⟩⟩; refine ⟨_, rfl, ?_⟩))
        go_meet
        case rel => exact ⟨_, (true), (by first | rfl | (simp; done) | (simp [*]; done)), H', ⟨by first | omega | exact Nat.le_refl _⟩, ⟨by (with_reducible repeat (first | apply Kd.R_alloc | apply Kd.R_drewN | apply Kd.R_drew)); exact Kd.R_mono HO305.out (fun _ hk => hk.1.2)⟩, ⟨by (with_reducible repeat (first | apply Kd.R_alloc | apply Kd.R_drewN | apply Kd.R_drew)); exact Kd.R_mono HO308.out (fun _ hk => hk.1.2)⟩, ⟨by repeat (first | (with_reducible first | exact HB.out | apply below_alloc | apply pw_below_drewN | apply below_drew1) | exact HB.out)⟩⟩
    case rest =>
      clear HC6
      try clear c1
      try clear c2
      try clear p2
      try clear c3
      try clear c8
      try clear c10
      try clear c12
      try clear c18
      try clear c19
      try clear c20
      try clear c21
      obtain ⟨kq, x22_5, rfl, HA, HJ5, HO_3, HO_4, HB⟩ := hcut
      cases kq with
      | zero => exact absurd HA.out (by simp [tricklelaw15_LexerTables.j0])
      | succ kj5 =>
        have H := HA.out
        clear HA
        simp only [tricklelaw15_LexerTables.j0] at H
        by_cases c24 : x22_5 = true
        · subst c24
          have H1 : (some false) = some r := by rw [if_pos rfl] at H; exact H
          cases (Option.some.inj H1).trans HRT.out
        · replace c24 := Bool.eq_false_iff.mpr c24
          subst c24
          have H1 : (if (t303.length : Int) = 0 then (none) else (if 0 ≤ (Int.tmod (wrap64 (a0)) (t303.length : Int)) then (if (Int.tmod (wrap64 (a0)) (t303.length : Int)) < (t303.length : Int) then (if (t306.length : Int) = 0 then (none) else (if 0 ≤ (Int.tmod (wrap64 (a0)) (t306.length : Int)) then (if (Int.tmod (wrap64 (a0)) (t306.length : Int)) < (t306.length : Int) then ((lexer_Scan.f kj5 (rdOf ByteArray.empty t303 (Int.tmod (wrap64 (a0)) (t303.length : Int)))).bind fun t319 => ((lexer_Scan.f kj5 (rdOf ByteArray.empty t306 (Int.tmod (wrap64 (a0)) (t306.length : Int)))).bind fun t322 => (if (t319.length : Int) = 2 then (if 0 < (t319.length : Int) then (if ((rd_T37 t319 0).f0) = 3 then (if ((rd_T37 t319 0).f1).toList = (rdOf ByteArray.empty t303 (Int.tmod (wrap64 (a0)) (t303.length : Int))).toList then (if (t322.length : Int) = 2 then (if 0 < (t322.length : Int) then (if ((rd_T37 t322 0).f0) = 4 then (if ((rd_T37 t322 0).f1).toList = (rdOf ByteArray.empty t306 (Int.tmod (wrap64 (a0)) (t306.length : Int))).toList then ((lexer_Keywords.f).bind fun t331 => ((trickleref15_Keywords.f).bind fun t334 => ((trickleref15_SameTexts.f kj5 t331 t334).bind fun t337 => (if t337 = true then ((lexer_Punctuation.f).bind fun t338 => ((trickleref15_Punctuation.f).bind fun t341 => ((trickleref15_SameTexts.f kj5 t338 t341).bind fun t344 => (some t344)))) else (some false))))) else (some false)) else (some false)) else (none)) else (some false)) else (some false)) else (some false)) else (none)) else (some false)))) else (none)) else (none))) else (none)) else (none))) = some r := by rw [if_neg (show ¬ (false = true) by decide)] at H; exact H
          clear H
          have H := H1
          clear H1
          by_cases c25 : (t303.length : Int) = 0
          · rw [if_pos c25] at H
            exact absurd H (by simp)
          · rw [if_neg c25] at H
            have c25b0 : ((t303.length : Int) == 0) = false := beq_eq_false_iff_ne.mpr c25
            have c25b1 : ((t303.length : Int) != 0) = true := bne_iff_ne.mpr c25
            have c25b2 : ¬ (t303 = []) := fun h_ => c25 (by rw [h_]; rfl)
            obtain ⟨ji26, hji26⟩ : ∃ j_ : Int, (Int.tmod (wrap64 (a0)) (t303.length : Int)) = j_ := ⟨_, rfl⟩
            replace H : (if 0 ≤ (ji26) then (if (ji26) < (t303.length : Int) then (if (t306.length : Int) = 0 then (none) else (if 0 ≤ (Int.tmod (wrap64 (a0)) (t306.length : Int)) then (if (Int.tmod (wrap64 (a0)) (t306.length : Int)) < (t306.length : Int) then ((lexer_Scan.f kj5 (rdOf ByteArray.empty t303 (ji26))).bind fun t319 => ((lexer_Scan.f kj5 (rdOf ByteArray.empty t306 (Int.tmod (wrap64 (a0)) (t306.length : Int)))).bind fun t322 => (if (t319.length : Int) = 2 then (if 0 < (t319.length : Int) then (if ((rd_T37 t319 0).f0) = 3 then (if ((rd_T37 t319 0).f1).toList = (rdOf ByteArray.empty t303 (ji26)).toList then (if (t322.length : Int) = 2 then (if 0 < (t322.length : Int) then (if ((rd_T37 t322 0).f0) = 4 then (if ((rd_T37 t322 0).f1).toList = (rdOf ByteArray.empty t306 (Int.tmod (wrap64 (a0)) (t306.length : Int))).toList then ((lexer_Keywords.f).bind fun t331 => ((trickleref15_Keywords.f).bind fun t334 => ((trickleref15_SameTexts.f kj5 t331 t334).bind fun t337 => (if t337 = true then ((lexer_Punctuation.f).bind fun t338 => ((trickleref15_Punctuation.f).bind fun t341 => ((trickleref15_SameTexts.f kj5 t338 t341).bind fun t344 => (some t344)))) else (some false))))) else (some false)) else (some false)) else (none)) else (some false)) else (some false)) else (some false)) else (none)) else (some false)))) else (none)) else (none))) else (none)) else (none)) = some r := by first | (rw [hji26] at H; exact H) | (simp only [hji26] at H ⊢; exact H)
            by_cases c27 : 0 ≤ (ji26)
            · rw [if_pos c27] at H
              have c27b0 : decide (0 ≤ (ji26)) = true := decide_eq_true c27
              clear c27
              by_cases c28 : (ji26) < (t303.length : Int)
              · rw [if_pos c28] at H
                have c28b0 : decide ((ji26) < (t303.length : Int)) = true := decide_eq_true c28
                clear c28
                by_cases c29 : (t306.length : Int) = 0
                · rw [if_pos c29] at H
                  exact absurd H (by simp)
                · rw [if_neg c29] at H
                  have c29b0 : ((t306.length : Int) == 0) = false := beq_eq_false_iff_ne.mpr c29
                  have c29b1 : ((t306.length : Int) != 0) = true := bne_iff_ne.mpr c29
                  have c29b2 : ¬ (t306 = []) := fun h_ => c29 (by rw [h_]; rfl)
                  obtain ⟨ji30, hji30⟩ : ∃ j_ : Int, (Int.tmod (wrap64 (a0)) (t306.length : Int)) = j_ := ⟨_, rfl⟩
                  replace H : (if 0 ≤ (ji30) then (if (ji30) < (t306.length : Int) then ((lexer_Scan.f kj5 (rdOf ByteArray.empty t303 (ji26))).bind fun t319 => ((lexer_Scan.f kj5 (rdOf ByteArray.empty t306 (ji30))).bind fun t322 => (if (t319.length : Int) = 2 then (if 0 < (t319.length : Int) then (if ((rd_T37 t319 0).f0) = 3 then (if ((rd_T37 t319 0).f1).toList = (rdOf ByteArray.empty t303 (ji26)).toList then (if (t322.length : Int) = 2 then (if 0 < (t322.length : Int) then (if ((rd_T37 t322 0).f0) = 4 then (if ((rd_T37 t322 0).f1).toList = (rdOf ByteArray.empty t306 (ji30)).toList then ((lexer_Keywords.f).bind fun t331 => ((trickleref15_Keywords.f).bind fun t334 => ((trickleref15_SameTexts.f kj5 t331 t334).bind fun t337 => (if t337 = true then ((lexer_Punctuation.f).bind fun t338 => ((trickleref15_Punctuation.f).bind fun t341 => ((trickleref15_SameTexts.f kj5 t338 t341).bind fun t344 => (some t344)))) else (some false))))) else (some false)) else (some false)) else (none)) else (some false)) else (some false)) else (some false)) else (none)) else (some false)))) else (none)) else (none)) = some r := by first | (rw [hji30] at H; exact H) | (simp only [hji30] at H ⊢; exact H)
                  by_cases c31 : 0 ≤ (ji30)
                  · rw [if_pos c31] at H
                    have c31b0 : decide (0 ≤ (ji30)) = true := decide_eq_true c31
                    clear c31
                    by_cases c32 : (ji30) < (t306.length : Int)
                    · rw [if_pos c32] at H
                      have c32b0 : decide ((ji30) < (t306.length : Int)) = true := decide_eq_true c32
                      clear c32
                      replace H := Option.bind_eq_some_iff.mp H
                      obtain ⟨t319, A330, H⟩ := H
                      replace H : ((lexer_Scan.f kj5 (rdOf ByteArray.empty t306 (ji30))).bind fun t322 => (if (t319.length : Int) = 2 then (if 0 < (t319.length : Int) then (if ((rd_T37 t319 0).f0) = 3 then (if ((rd_T37 t319 0).f1).toList = (rdOf ByteArray.empty t303 (ji26)).toList then (if (t322.length : Int) = 2 then (if 0 < (t322.length : Int) then (if ((rd_T37 t322 0).f0) = 4 then (if ((rd_T37 t322 0).f1).toList = (rdOf ByteArray.empty t306 (ji30)).toList then ((lexer_Keywords.f).bind fun t331 => ((trickleref15_Keywords.f).bind fun t334 => ((trickleref15_SameTexts.f kj5 t331 t334).bind fun t337 => (if t337 = true then ((lexer_Punctuation.f).bind fun t338 => ((trickleref15_Punctuation.f).bind fun t341 => ((trickleref15_SameTexts.f kj5 t338 t341).bind fun t344 => (some t344)))) else (some false))))) else (some false)) else (some false)) else (none)) else (some false)) else (some false)) else (some false)) else (none)) else (some false))) = some r := H
                      have A33 := Aside0.mk A330
                      clear A330
                      replace H := Option.bind_eq_some_iff.mp H
                      obtain ⟨t322, A340, H⟩ := H
                      replace H : (if (t319.length : Int) = 2 then (if 0 < (t319.length : Int) then (if ((rd_T37 t319 0).f0) = 3 then (if ((rd_T37 t319 0).f1).toList = (rdOf ByteArray.empty t303 (ji26)).toList then (if (t322.length : Int) = 2 then (if 0 < (t322.length : Int) then (if ((rd_T37 t322 0).f0) = 4 then (if ((rd_T37 t322 0).f1).toList = (rdOf ByteArray.empty t306 (ji30)).toList then ((lexer_Keywords.f).bind fun t331 => ((trickleref15_Keywords.f).bind fun t334 => ((trickleref15_SameTexts.f kj5 t331 t334).bind fun t337 => (if t337 = true then ((lexer_Punctuation.f).bind fun t338 => ((trickleref15_Punctuation.f).bind fun t341 => ((trickleref15_SameTexts.f kj5 t338 t341).bind fun t344 => (some t344)))) else (some false))))) else (some false)) else (some false)) else (none)) else (some false)) else (some false)) else (some false)) else (none)) else (some false)) = some r := H
                      have A34 := Aside0.mk A340
                      clear A340
                      obtain ⟨y325, hy325⟩ : ∃ y_ : List ByteArray, y_ = (t303.set ((ji26) : Int).toNat (⟨#[]⟩ : ByteArray)) := ⟨_, rfl⟩
                      replace H : (if (t319.length : Int) = 2 then (if 0 < (t319.length : Int) then (if ((rd_T37 t319 0).f0) = 3 then (if ((rd_T37 t319 0).f1).toList = (rdOf ByteArray.empty t303 (ji26)).toList then (if (t322.length : Int) = 2 then (if 0 < (t322.length : Int) then (if ((rd_T37 t322 0).f0) = 4 then (if ((rd_T37 t322 0).f1).toList = (rdOf ByteArray.empty t306 (ji30)).toList then ((lexer_Keywords.f).bind fun t331 => ((trickleref15_Keywords.f).bind fun t334 => ((trickleref15_SameTexts.f kj5 t331 t334).bind fun t337 => (if t337 = true then ((lexer_Punctuation.f).bind fun t338 => ((trickleref15_Punctuation.f).bind fun t341 => ((trickleref15_SameTexts.f kj5 t338 t341).bind fun t344 => (some t344)))) else (some false))))) else (some false)) else (some false)) else (none)) else (some false)) else (some false)) else (some false)) else (none)) else (some false)) = some r := by first | (rw [hy325]; with_reducible exact H) | (have H2_ := (Option.bind_some _ _).symm.trans H; rw [hy325]; with_reducible exact H2_) | (have H2_ := (Option.bind_some _ _).symm.trans H; with_reducible exact H2_) | with_reducible exact H | (rw [hy325]; exact H) | exact H
                      have Ny325 := Aside0.mk hy325
                      clear hy325
                      obtain ⟨y326, hy326⟩ : ∃ y_ : List ByteArray, y_ = (t306.set ((ji30) : Int).toNat (⟨#[]⟩ : ByteArray)) := ⟨_, rfl⟩
                      replace H : (if (t319.length : Int) = 2 then (if 0 < (t319.length : Int) then (if ((rd_T37 t319 0).f0) = 3 then (if ((rd_T37 t319 0).f1).toList = (rdOf ByteArray.empty t303 (ji26)).toList then (if (t322.length : Int) = 2 then (if 0 < (t322.length : Int) then (if ((rd_T37 t322 0).f0) = 4 then (if ((rd_T37 t322 0).f1).toList = (rdOf ByteArray.empty t306 (ji30)).toList then ((lexer_Keywords.f).bind fun t331 => ((trickleref15_Keywords.f).bind fun t334 => ((trickleref15_SameTexts.f kj5 t331 t334).bind fun t337 => (if t337 = true then ((lexer_Punctuation.f).bind fun t338 => ((trickleref15_Punctuation.f).bind fun t341 => ((trickleref15_SameTexts.f kj5 t338 t341).bind fun t344 => (some t344)))) else (some false))))) else (some false)) else (some false)) else (none)) else (some false)) else (some false)) else (some false)) else (none)) else (some false)) = some r := by first | (rw [hy326]; with_reducible exact H) | (have H2_ := (Option.bind_some _ _).symm.trans H; rw [hy326]; with_reducible exact H2_) | (have H2_ := (Option.bind_some _ _).symm.trans H; with_reducible exact H2_) | with_reducible exact H | (rw [hy326]; exact H) | exact H
                      have Ny326 := Aside0.mk hy326
                      clear hy326
                      by_cases c37 : (t319.length : Int) = 2
                      · rw [if_pos c37] at H
                        have c37b0 : ((t319.length : Int) == 2) = true := beq_iff_eq.mpr c37
                        have c37b1 : ((t319.length : Int) != 2) = false := bne_eq_false_iff_eq.mpr c37
                        clear c37
                        by_cases c38 : 0 < (t319.length : Int)
                        · rw [if_pos c38] at H
                          have c38b0 : decide (0 < (t319.length : Int)) = true := decide_eq_true c38
                          have c38b1 : decide (0 < t319.length) = true := decide_eq_true (by omega)
                          clear c38
                          by_cases c39 : ((rd_T37 t319 0).f0) = 3
                          · rw [if_pos c39] at H
                            have c39b0 : (((rd_T37 t319 0).f0) == 3) = true := beq_iff_eq.mpr c39
                            have c39b1 : (((rd_T37 t319 0).f0) != 3) = false := bne_eq_false_iff_eq.mpr c39
                            clear c39
                            by_cases c40 : ((rd_T37 t319 0).f1).toList = (rdOf ByteArray.empty t303 (ji26)).toList
                            · rw [if_pos c40] at H
                              have c40b0 : (((rd_T37 t319 0).f1).toList == (rdOf ByteArray.empty t303 (ji26)).toList) = true := beq_iff_eq.mpr c40
                              have c40b1 : (((rd_T37 t319 0).f1).toList != (rdOf ByteArray.empty t303 (ji26)).toList) = false := bne_eq_false_iff_eq.mpr c40
                              clear c40
                              by_cases c41 : (t322.length : Int) = 2
                              · rw [if_pos c41] at H
                                have c41b0 : ((t322.length : Int) == 2) = true := beq_iff_eq.mpr c41
                                have c41b1 : ((t322.length : Int) != 2) = false := bne_eq_false_iff_eq.mpr c41
                                clear c41
                                by_cases c42 : 0 < (t322.length : Int)
                                · rw [if_pos c42] at H
                                  have c42b0 : decide (0 < (t322.length : Int)) = true := decide_eq_true c42
                                  have c42b1 : decide (0 < t322.length) = true := decide_eq_true (by omega)
                                  clear c42
                                  by_cases c43 : ((rd_T37 t322 0).f0) = 4
                                  · rw [if_pos c43] at H
                                    have c43b0 : (((rd_T37 t322 0).f0) == 4) = true := beq_iff_eq.mpr c43
                                    have c43b1 : (((rd_T37 t322 0).f0) != 4) = false := bne_eq_false_iff_eq.mpr c43
                                    clear c43
                                    by_cases c44 : ((rd_T37 t322 0).f1).toList = (rdOf ByteArray.empty t306 (ji30)).toList
                                    · rw [if_pos c44] at H
                                      have c44b0 : (((rd_T37 t322 0).f1).toList == (rdOf ByteArray.empty t306 (ji30)).toList) = true := beq_iff_eq.mpr c44
                                      have c44b1 : (((rd_T37 t322 0).f1).toList != (rdOf ByteArray.empty t306 (ji30)).toList) = false := bne_eq_false_iff_eq.mpr c44
                                      clear c44
                                      replace H := Option.bind_eq_some_iff.mp H
                                      obtain ⟨t331, A450, H⟩ := H
                                      replace H : ((trickleref15_Keywords.f).bind fun t334 => ((trickleref15_SameTexts.f kj5 t331 t334).bind fun t337 => (if t337 = true then ((lexer_Punctuation.f).bind fun t338 => ((trickleref15_Punctuation.f).bind fun t341 => ((trickleref15_SameTexts.f kj5 t338 t341).bind fun t344 => (some t344)))) else (some false)))) = some r := H
                                      have A45 := Aside0.mk A450
                                      clear A450
                                      replace H := Option.bind_eq_some_iff.mp H
                                      obtain ⟨t334, A460, H⟩ := H
                                      replace H : ((trickleref15_SameTexts.f kj5 t331 t334).bind fun t337 => (if t337 = true then ((lexer_Punctuation.f).bind fun t338 => ((trickleref15_Punctuation.f).bind fun t341 => ((trickleref15_SameTexts.f kj5 t338 t341).bind fun t344 => (some t344)))) else (some false))) = some r := H
                                      have A46 := Aside0.mk A460
                                      clear A460
                                      replace H := Option.bind_eq_some_iff.mp H
                                      obtain ⟨t337, A470, H⟩ := H
                                      replace H : (if t337 = true then ((lexer_Punctuation.f).bind fun t338 => ((trickleref15_Punctuation.f).bind fun t341 => ((trickleref15_SameTexts.f kj5 t338 t341).bind fun t344 => (some t344)))) else (some false)) = some r := H
                                      have A47 := Aside0.mk A470
                                      clear A470
                                      by_cases c48 : t337 = true
                                      · subst c48
                                        have H1 : ((lexer_Punctuation.f).bind fun t338 => ((trickleref15_Punctuation.f).bind fun t341 => ((trickleref15_SameTexts.f kj5 t338 t341).bind fun t344 => (some t344)))) = some r := by rw [if_pos rfl] at H; exact H
                                        clear H
                                        have H := H1
                                        clear H1
                                        replace H := Option.bind_eq_some_iff.mp H
                                        obtain ⟨t338, A490, H⟩ := H
                                        replace H : ((trickleref15_Punctuation.f).bind fun t341 => ((trickleref15_SameTexts.f kj5 t338 t341).bind fun t344 => (some t344))) = some r := H
                                        have A49 := Aside0.mk A490
                                        clear A490
                                        replace H := Option.bind_eq_some_iff.mp H
                                        obtain ⟨t341, A500, H⟩ := H
                                        replace H : ((trickleref15_SameTexts.f kj5 t338 t341).bind fun t344 => (some t344)) = some r := H
                                        have A50 := Aside0.mk A500
                                        clear A500
                                        replace H := Option.bind_eq_some_iff.mp H
                                        obtain ⟨t344, A510, H⟩ := H
                                        replace H : (some t344) = some r := H
                                        have A51 := Aside0.mk A510
                                        clear A510
                                        obtain rfl := Option.some.inj H
                                        try go_wp2
                                        have n0_ := Aside0.mk (Kd.R_drew HO_3.out)
                                        have n1_ := Aside0.mk (Kd.R_drew HO_4.out)
                                        have n2_ := Aside0.mk (below_drew1 HB.out)
                                        clear HO_3
                                        clear HO_4
                                        clear HB
                                        have HO_3 := n0_
                                        have HO_4 := n1_
                                        have HB := n2_
                                        clear n0_ n1_ n2_
                                        obtain ⟨Ao53, co53, eo53⟩ := Kd.R_slice HO_3.out
                                        (first | subst eo53 | (injection eo53 with f1_ f2_ f3_; have f4_ := f1_.symm; have f5_ := f3_.symm; clear f1_ f2_ f3_; subst f4_; subst f5_))
                                        have p317 : 0 ≤ ((ji26) : Int) := of_decide_eq_true (by first | (with_reducible assumption) | assumption)
                                        have q317 : (ji26) < (t303.length : Int) := of_decide_eq_true (by first | (with_reducible assumption) | assumption)
                                        obtain ⟨ad317, e317, hx317_0⟩ := Kd.at_string (Kd.R_reads' HO_3.out).2.2 (ji26) p317 q317
                                        cases e317
                                        replace p317 := eq_true p317
                                        replace q317 := eq_true q317
                                        obtain ⟨Ao54, co54, eo54⟩ := Kd.R_slice HO_4.out
                                        (first | subst eo54 | (injection eo54 with f1_ f2_ f3_; have f4_ := f1_.symm; have f5_ := f3_.symm; clear f1_ f2_ f3_; subst f4_; subst f5_))
                                        have p318 : 0 ≤ ((ji30) : Int) := of_decide_eq_true (by first | (with_reducible assumption) | assumption)
                                        have q318 : (ji30) < (t306.length : Int) := of_decide_eq_true (by first | (with_reducible assumption) | assumption)
                                        obtain ⟨ad318, e318, hx318_0⟩ := Kd.at_string (Kd.R_reads' HO_4.out).2.2 (ji30) p318 q318
                                        cases e318
                                        replace p318 := eq_true p318
                                        replace q318 := eq_true q318
                                        refine start_ (n := 18) (S := fun w' => w'.cell? (ad317.add ((ji26)).toNat) = some (.string (rdOf ByteArray.empty t303 (ji26))) ∧ w'.cell? (ad318.add ((ji30)).toNat) = some (.string (rdOf ByteArray.empty t306 (ji30)))) (ds := []) #[false, false, false, false, false, false, false, false, false, false, false, false, false, false, false, false, false, false] (by kernel_rfl) rfl rfl ⟨hx317_0, hx318_0⟩ (fun hHeld => ?_); refine with_tabW tricklelaw15_LexerTables.tab6 tricklelaw15_LexerTables.bits6 (fun HT_ HW_ => ?_)
                                        generalize wc.drew = w52 at HO_3 HO_4 HB hx317_0 hx318_0 hHeld ⊢
                                        refine pure_ (i := 0) (N := some 23) (v := ?_) (a' := ?_) #[true, false, false, false, false, false, false, false, false, false, false, false, false, false, false, false, false, false] rfl rfl (any_of HT_.out (by kernel_rfl)) (fun _ _ _ h => h) (Or.inl ⟨by rfl, ?_⟩) ?_ ?_
                                        rotate_left
                                        · intro w'
                                          go_simp
                                          with_reducible rfl
                                        rotate_left
                                        · simp only [Act.put, List.setIfInBounds_toArray, List.set_cons_zero, List.set_cons_succ, i64_w, i32_w]
                                          rfl
                                        refine pure_ (i := 1) (N := some 24) (v := ?_) (a' := ?_) #[true, true, false, false, false, false, false, false, false, false, false, false, false, false, false, false, false, false] rfl rfl (any_of HT_.out (by kernel_rfl)) (fun _ _ _ h => h) (Or.inl ⟨by rfl, ?_⟩) ?_ ?_
                                        rotate_left
                                        · intro w'
                                          go_simp
                                          with_reducible rfl
                                        rotate_left
                                        · simp only [Act.put, List.setIfInBounds_toArray, List.set_cons_zero, List.set_cons_succ, i64_w, i32_w]
                                          rfl
                                        refine pure_ (i := 2) (N := some 25) (v := ?_) (a' := ?_) #[true, true, true, false, false, false, false, false, false, false, false, false, false, false, false, false, false, false] rfl rfl (any_of HT_.out (by kernel_rfl)) (fun _ _ _ h => h) (Or.inl ⟨by rfl, ?_⟩) ?_ ?_
                                        rotate_left
                                        · intro w'
                                          go_simp
                                          with_reducible rfl
                                        rotate_left
                                        · simp only [Act.put, List.setIfInBounds_toArray, List.set_cons_zero, List.set_cons_succ, i64_w, i32_w]
                                          rfl
                                        refine pure_ (i := 3) (N := some 26) (v := ?_) (a' := ?_) #[true, true, true, true, false, false, false, false, false, false, false, false, false, false, false, false, false, false] rfl rfl (any_of HT_.out (by kernel_rfl)) (fun _ _ _ h => h) (Or.inl ⟨by rfl, ?_⟩) ?_ ?_
                                        rotate_left
                                        · intro w'
                                          go_simp
                                          with_reducible rfl
                                        rotate_left
                                        · simp only [Act.put, List.setIfInBounds_toArray, List.set_cons_zero, List.set_cons_succ, i64_w, i32_w]
                                          rfl
                                        refine pure_ (i := 4) (N := some 27) (v := ?_) (a' := ?_) #[true, true, true, true, true, false, false, false, false, false, false, false, false, false, false, false, false, false] rfl rfl (any_of HT_.out (by kernel_rfl)) (fun _ _ _ h => h) (Or.inl ⟨by rfl, ?_⟩) ?_ ?_
                                        rotate_left
                                        · intro w'
                                          go_simp
                                          with_reducible rfl
                                        rotate_left
                                        · simp only [Act.put, List.setIfInBounds_toArray, List.set_cons_zero, List.set_cons_succ, i64_w, i32_w]
                                          rfl
                                        refine pure_ (i := 5) (N := some 28) (v := ?_) (a' := ?_) #[true, true, true, true, true, true, false, false, false, false, false, false, false, false, false, false, false, false] rfl rfl (any_of HT_.out (by kernel_rfl)) (fun _ _ _ h => h) (Or.inl ⟨by rfl, ?_⟩) ?_ ?_
                                        rotate_left
                                        · intro w'
                                          go_simp
                                          with_reducible rfl
                                        rotate_left
                                        · simp only [Act.put, List.setIfInBounds_toArray, List.set_cons_zero, List.set_cons_succ, i64_w, i32_w]
                                          rfl
                                        refine pure_ (i := 6) (N := some 29) (v := ?_) (a' := ?_) #[true, true, true, true, true, true, true, false, false, false, false, false, false, false, false, false, false, false] rfl rfl (any_of HT_.out (by kernel_rfl)) (fun _ _ _ h => h) (Or.inl ⟨by rfl, ?_⟩) ?_ ?_
                                        rotate_left
                                        · intro w'
                                          go_simp
                                          with_reducible rfl
                                        rotate_left
                                        · simp only [Act.put, List.setIfInBounds_toArray, List.set_cons_zero, List.set_cons_succ, i64_w, i32_w]
                                          rfl
                                        refine pure_ (i := 8) (N := some 31) (v := ?_) (a' := ?_) #[true, true, true, true, true, true, true, false, true, false, false, false, false, false, false, false, false, false] rfl rfl (any_of HT_.out (by kernel_rfl)) (fun _ _ _ h => h) (Or.inl ⟨by rfl, ?_⟩) ?_ ?_
                                        rotate_left
                                        · intro w'
                                          go_simp
                                          with_reducible rfl
                                        rotate_left
                                        · simp only [Act.put, List.setIfInBounds_toArray, List.set_cons_zero, List.set_cons_succ, i64_w, i32_w]
                                          rfl
                                        refine pure_ (i := 9) (N := some 32) (v := ?_) (a' := ?_) #[true, true, true, true, true, true, true, false, true, true, false, false, false, false, false, false, false, false] rfl rfl (any_of HT_.out (by kernel_rfl)) (fun _ _ _ h => h) (Or.inl ⟨by rfl, ?_⟩) ?_ ?_
                                        rotate_left
                                        · intro w'
                                          go_simp
                                          with_reducible rfl
                                        rotate_left
                                        · simp only [Act.put, List.setIfInBounds_toArray, List.set_cons_zero, List.set_cons_succ, i64_w, i32_w]
                                          rfl
                                        refine pure_ (i := 10) (N := some 33) (v := ?_) (a' := ?_) #[true, true, true, true, true, true, true, false, true, true, true, false, false, false, false, false, false, false] rfl rfl (any_of HT_.out (by kernel_rfl)) (fun _ _ _ h => h) (Or.inl ⟨by rfl, ?_⟩) ?_ ?_
                                        rotate_left
                                        · intro w'
                                          go_simp
                                          with_reducible rfl
                                        rotate_left
                                        · simp only [Act.put, List.setIfInBounds_toArray, List.set_cons_zero, List.set_cons_succ, i64_w, i32_w]
                                          rfl
                                        refine pure_ (i := 11) (N := some 34) (v := ?_) (a' := ?_) #[true, true, true, true, true, true, true, false, true, true, true, true, false, false, false, false, false, false] rfl rfl (any_of HT_.out (by kernel_rfl)) (fun _ _ _ h => h) (Or.inl ⟨by rfl, ?_⟩) ?_ ?_
                                        rotate_left
                                        · intro w'
                                          go_simp
                                          with_reducible rfl
                                        rotate_left
                                        · simp only [Act.put, List.setIfInBounds_toArray, List.set_cons_zero, List.set_cons_succ, i64_w, i32_w]
                                          rfl
                                        refine pure_ (i := 12) (N := some 35) (v := ?_) (a' := ?_) #[true, true, true, true, true, true, true, false, true, true, true, true, true, false, false, false, false, false] rfl rfl (any_of HT_.out (by kernel_rfl)) (fun _ _ _ h => h) (Or.inl ⟨by rfl, ?_⟩) ?_ ?_
                                        rotate_left
                                        · intro w'
                                          go_simp
                                          with_reducible rfl
                                        rotate_left
                                        · simp only [Act.put, List.setIfInBounds_toArray, List.set_cons_zero, List.set_cons_succ, i64_w, i32_w]
                                          rfl
                                        refine pure_ (i := 13) (N := some 36) (v := ?_) (a' := ?_) #[true, true, true, true, true, true, true, false, true, true, true, true, true, true, false, false, false, false] rfl rfl (any_of HT_.out (by kernel_rfl)) (fun _ _ _ h => h) (Or.inl ⟨by rfl, ?_⟩) ?_ ?_
                                        rotate_left
                                        · intro w'
                                          go_simp
                                          with_reducible rfl
                                        rotate_left
                                        · simp only [Act.put, List.setIfInBounds_toArray, List.set_cons_zero, List.set_cons_succ, i64_w, i32_w]
                                          rfl
                                        refine pure_ (i := 14) (N := some 37) (v := ?_) (a' := ?_) #[true, true, true, true, true, true, true, false, true, true, true, true, true, true, true, false, false, false] rfl rfl (any_of HT_.out (by kernel_rfl)) (fun _ _ _ h => h) (Or.inl ⟨by rfl, ?_⟩) ?_ ?_
                                        rotate_left
                                        · intro w'
                                          go_simp
                                          with_reducible rfl
                                        rotate_left
                                        · simp only [Act.put, List.setIfInBounds_toArray, List.set_cons_zero, List.set_cons_succ, i64_w, i32_w]
                                          rfl
                                        refine take_ (i := 7) (N := some 30) (v := ?_) (a' := ?_) #[true, true, true, true, true, true, true, true, true, true, true, true, true, true, true, false, false, false] rfl rfl (take_ofW HT_.out HW_.out (by kernel_rfl)) (fun _ _ _ h => h) (Or.inl ⟨by rfl, ?_⟩) hHeld ?_ ?_
                                        rotate_left
                                        · rintro w' ⟨s0, s1⟩
                                          go_simp
                                          with_reducible rfl
                                        rotate_left
                                        · simp only [Act.put, List.setIfInBounds_toArray, List.set_cons_zero, List.set_cons_succ, i64_w, i32_w]
                                          rfl
                                        refine pure_ (i := 16) (N := some 5) (v := ?_) (a' := ?_) #[true, true, true, true, true, true, true, true, true, true, true, true, true, true, true, false, true, false] rfl rfl (any_of HT_.out (by kernel_rfl)) (fun _ _ _ h => h) (Or.inl ⟨by rfl, ?_⟩) ?_ ?_
                                        rotate_left
                                        · intro w'
                                          go_simp
                                          with_reducible rfl
                                        rotate_left
                                        · simp only [Act.put, List.setIfInBounds_toArray, List.set_cons_zero, List.set_cons_succ, i64_w, i32_w]
                                          rfl
                                        refine take_ (i := 15) (N := some 38) (v := ?_) (a' := ?_) #[true, true, true, true, true, true, true, true, true, true, true, true, true, true, true, true, true, false] rfl rfl (take_ofW HT_.out HW_.out (by kernel_rfl)) (fun _ _ _ h => h) (Or.inl ⟨by rfl, ?_⟩) hHeld ?_ ?_
                                        rotate_left
                                        · rintro w' ⟨s0, s1⟩
                                          go_simp
                                          with_reducible rfl
                                        rotate_left
                                        · simp only [Act.put, List.setIfInBounds_toArray, List.set_cons_zero, List.set_cons_succ, i64_w, i32_w]
                                          rfl
                                        refine pure_ (i := 17) (N := some 6) (v := ?_) (a' := ?_) #[true, true, true, true, true, true, true, true, true, true, true, true, true, true, true, true, true, true] rfl rfl (any_of HT_.out (by kernel_rfl)) (fun _ _ _ h => h) (Or.inl ⟨by rfl, ?_⟩) ?_ ?_
                                        rotate_left
                                        · intro w'
                                          go_simp
                                          with_reducible rfl
                                        rotate_left
                                        · simp only [Act.put, List.setIfInBounds_toArray, List.set_cons_zero, List.set_cons_succ, i64_w, i32_w]
                                          rfl
                                        refine done_ (done_of HT_.out (by kernel_rfl)) ?_
                                        try go_wp2_with (first | ((with_reducible refine gate_callee (f := 13) rfl ?_); refine goesL_ (some 40) rfl rfl Tryd.func13 (by kernel_rfl) rfl #[.string (rdOf ByteArray.empty t303 (ji26))] rfl (by (try simp only [List.map_toArray, List.map_cons, List.map_nil]); first | done | (simp only [hji26]; rfl) | rfl | (simp only [List.length_drop, List.length_take]; rfl)) ?_; (with_reducible refine (lexer_Scan.calls kj5 (rdOf ByteArray.empty t303 (ji26)) t319 _ ?side1 A33.out).mono ?_); (case side1 => refine GW.below HG.out ?_; repeat (first | (with_reducible first | exact HB.out | apply below_alloc | apply pw_below_drewN | apply below_drew1) | exact HB.out)); rintro e w55 ⟨v320, rfl, ho0, hb⟩; refine ⟨_, rfl, ?_⟩; have n0_ := Aside0.mk (Kd.R_below (by (with_reducible repeat (first | apply Kd.R_alloc | apply Kd.R_drewN | apply Kd.R_drew)); exact HO_3.out) hb); have n1_ := Aside0.mk (Kd.R_below (by (with_reducible repeat (first | apply Kd.R_alloc | apply Kd.R_drewN | apply Kd.R_drew)); exact HO_4.out) hb); have n2_ := Aside0.mk (Kd.R_lower ho0 (below_size (by repeat (first | (with_reducible first | exact HB.out | apply below_alloc | apply pw_below_drewN | apply below_drew1) | exact HB.out)))); have n3_ := Aside0.mk (below_step (by repeat (first | (with_reducible first | exact HB.out | apply below_alloc | apply pw_below_drewN | apply below_drew1) | exact HB.out)) hb); clear HO_3; clear HO_4; clear HB; have HO_3 := n0_; have HO_4 := n1_; have HO321 := n2_; have HB := n3_; clear n0_ n1_ n2_ n3_; (try clear hb); (try clear hb2); (try clear hk); (try clear hi); (try clear ho0)) | ((with_reducible refine gate_callee (f := 13) rfl ?_); refine goesL_ (some 42) rfl rfl Tryd.func13 (by kernel_rfl) rfl #[.string (rdOf ByteArray.empty t306 (ji30))] rfl (by (try simp only [List.map_toArray, List.map_cons, List.map_nil]); first | done | (simp only [hji30]; rfl) | rfl | (simp only [List.length_drop, List.length_take]; rfl)) ?_; (with_reducible refine (lexer_Scan.calls kj5 (rdOf ByteArray.empty t306 (ji30)) t322 _ ?side1 A34.out).mono ?_); (case side1 => refine GW.below HG.out ?_; repeat (first | (with_reducible first | exact HB.out | apply below_alloc | apply pw_below_drewN | apply below_drew1) | exact HB.out)); rintro e w56 ⟨v323, rfl, ho0, hb⟩; refine ⟨_, rfl, ?_⟩; have n0_ := Aside0.mk (Kd.R_below (by (with_reducible repeat (first | apply Kd.R_alloc | apply Kd.R_drewN | apply Kd.R_drew)); exact HO_3.out) hb); have n1_ := Aside0.mk (Kd.R_below (by (with_reducible repeat (first | apply Kd.R_alloc | apply Kd.R_drewN | apply Kd.R_drew)); exact HO_4.out) hb); have n2_ := Aside0.mk (Kd.R_elder' (by (with_reducible repeat (first | apply Kd.R_alloc | apply Kd.R_drewN | apply Kd.R_drew)); exact HO321.out) (Kd.R_base ho0) hb); have n3_ := Aside0.mk (Kd.R_lower (Kd.R_new' ho0 (Kd.R_lt (by (with_reducible repeat (first | apply Kd.R_alloc | apply Kd.R_drewN | apply Kd.R_drew)); exact HO321.out))) (below_size (by repeat (first | (with_reducible first | exact HB.out | apply below_alloc | apply pw_below_drewN | apply below_drew1) | exact HB.out)))); have n4_ := Aside0.mk (below_step (by repeat (first | (with_reducible first | exact HB.out | apply below_alloc | apply pw_below_drewN | apply below_drew1) | exact HB.out)) hb); clear HO_3; clear HO_4; clear HO321; clear HB; have HO_3 := n0_; have HO_4 := n1_; have HO321 := n2_; have HO324 := n3_; have HB := n4_; clear n0_ n1_ n2_ n3_ n4_; (try clear hb); (try clear hb2); (try clear hk); (try clear hi); (try clear ho0)))
                                        have n0_ := Aside0.mk (Kd.R_drew HO_3.out)
                                        have n1_ := Aside0.mk (Kd.R_drew HO_4.out)
                                        have n2_ := Aside0.mk (Kd.R_drew HO321.out)
                                        have n3_ := Aside0.mk (Kd.R_drew HO324.out)
                                        have n4_ := Aside0.mk (below_drew1 HB.out)
                                        clear HO_3
                                        clear HO_4
                                        clear HO321
                                        clear HO324
                                        clear HB
                                        have HO_3 := n0_
                                        have HO_4 := n1_
                                        have HO321 := n2_
                                        have HO324 := n3_
                                        have HB := n4_
                                        clear n0_ n1_ n2_ n3_ n4_
                                        have p35 : 0 ≤ ((ji26) : Int) := of_decide_eq_true (by first | (with_reducible assumption) | assumption)
                                        have q35 : ((ji26) : Int) < ((t303.length : Int) : Int) := of_decide_eq_true (by first | (with_reducible assumption) | assumption)
                                        obtain ⟨go35, co35, eo35, gb35, gl35, cl35, HG35⟩ := Kd.R_form HO_3.out (by omega)
                                        (first | cases eo35 | (injection eo35 with ea_ en_ ec_; (first | subst ea_ | (injection ea_ with ea_; subst ea_)); subst ec_; clear en_))
                                        have GB35 := Aside0.mk gb35
                                        have GG35 := Aside0.mk HG35
                                        clear gb35 gl35 HG35
                                        (first | simp only [add_plain] at hx317_0 | skip)
                                        obtain ⟨hx35_0, hf35_0⟩ := Kd.R_celln (⟨#[]⟩ : ByteArray) HO_3.out ((ji26) : Int) p35 q35
                                        replace p35 := eq_true p35
                                        replace q35 := eq_true q35
                                        have HP58 := Kd.R_putn HO_3.out ((ji26) : Int) (⟨#[]⟩ : ByteArray)
                                        rw [← Ny325.out] at HP58
                                        have HQ58 := Aside0.mk HP58
                                        clear HP58
                                        have p36 : 0 ≤ ((ji30) : Int) := of_decide_eq_true (by first | (with_reducible assumption) | assumption)
                                        have q36 : ((ji30) : Int) < ((t306.length : Int) : Int) := of_decide_eq_true (by first | (with_reducible assumption) | assumption)
                                        obtain ⟨go36, co36, eo36, gb36, gl36, cl36, HG36⟩ := Kd.R_form HO_4.out (by omega)
                                        (first | cases eo36 | (injection eo36 with ea_ en_ ec_; (first | subst ea_ | (injection ea_ with ea_; subst ea_)); subst ec_; clear en_))
                                        have GB36 := Aside0.mk gb36
                                        have GG36 := Aside0.mk HG36
                                        clear gb36 gl36 HG36
                                        (first | simp only [add_plain] at hx318_0 | skip)
                                        obtain ⟨hx36_0, hf36_0⟩ := Kd.R_celln (⟨#[]⟩ : ByteArray) (Kd.R_far (p := ⟨go35, ((ji26) : Int).toNat, none⟩) (Kd.R_mono HO_4.out (fun k_ hk => (⟨hk, fun e_ => hk (by rw [e_]; rfl)⟩ : _ ∧ k_ ≠ go35))) (fun _ hk => hk.2) (.string (⟨#[]⟩ : ByteArray))) ((ji30) : Int) p36 q36
                                        replace p36 := eq_true p36
                                        replace q36 := eq_true q36
                                        have HP59 := Kd.R_putn (Kd.R_far (p := ⟨go35, ((ji26) : Int).toNat, none⟩) (Kd.R_mono HO_4.out (fun k_ hk => (⟨hk, fun e_ => hk (by rw [e_]; rfl)⟩ : _ ∧ k_ ≠ go35))) (fun _ hk => hk.2) (.string (⟨#[]⟩ : ByteArray))) ((ji30) : Int) (⟨#[]⟩ : ByteArray)
                                        rw [← Ny326.out] at HP59
                                        have HQ59 := Aside0.mk HP59
                                        clear HP59
                                        refine start_ (n := 16) (S := fun w' => True) (ds := [13, 15]) #[false, false, false, false, false, false, false, false, false, false, false, false, false, false, false, false] (by kernel_rfl) rfl rfl trivial (fun hHeld => ?_); refine with_tabW tricklelaw15_LexerTables.tab8 tricklelaw15_LexerTables.bits8 (fun HT_ HW_ => ?_)
                                        generalize w56.drew = w57 at HO_3 HO_4 HO321 HO324 HB GG35 GG36 HQ58 HQ59 hf35_0 hf36_0 hx317_0 hx318_0 hx35_0 hx36_0 hHeld ⊢
                                        refine pure_ (i := 0) (N := some 43) (v := ?_) (a' := ?_) #[true, false, false, false, false, false, false, false, false, false, false, false, false, false, false, false] rfl rfl (any_of HT_.out (by kernel_rfl)) (fun _ _ _ h => h) (Or.inl ⟨by rfl, ?_⟩) ?_ ?_
                                        rotate_left
                                        · intro w'
                                          go_simp
                                          with_reducible rfl
                                        rotate_left
                                        · simp only [Act.put, List.setIfInBounds_toArray, List.set_cons_zero, List.set_cons_succ, i64_w, i32_w]
                                          rfl
                                        refine pure_ (i := 1) (N := some 44) (v := ?_) (a' := ?_) #[true, true, false, false, false, false, false, false, false, false, false, false, false, false, false, false] rfl rfl (any_of HT_.out (by kernel_rfl)) (fun _ _ _ h => h) (Or.inl ⟨by rfl, ?_⟩) ?_ ?_
                                        rotate_left
                                        · intro w'
                                          go_simp
                                          with_reducible rfl
                                        rotate_left
                                        · simp only [Act.put, List.setIfInBounds_toArray, List.set_cons_zero, List.set_cons_succ, i64_w, i32_w]
                                          rfl
                                        refine pure_ (i := 2) (N := some 45) (v := ?_) (a' := ?_) #[true, true, true, false, false, false, false, false, false, false, false, false, false, false, false, false] rfl rfl (any_of HT_.out (by kernel_rfl)) (fun _ _ _ h => h) (Or.inl ⟨by rfl, ?_⟩) ?_ ?_
                                        rotate_left
                                        · intro w'
                                          go_simp
                                          with_reducible rfl
                                        rotate_left
                                        · simp only [Act.put, List.setIfInBounds_toArray, List.set_cons_zero, List.set_cons_succ, i64_w, i32_w]
                                          rfl
                                        refine pure_ (i := 3) (N := some 46) (v := ?_) (a' := ?_) #[true, true, true, true, false, false, false, false, false, false, false, false, false, false, false, false] rfl rfl (any_of HT_.out (by kernel_rfl)) (fun _ _ _ h => h) (Or.inl ⟨by rfl, ?_⟩) ?_ ?_
                                        rotate_left
                                        · intro w'
                                          go_simp
                                          with_reducible rfl
                                        rotate_left
                                        · simp only [Act.put, List.setIfInBounds_toArray, List.set_cons_zero, List.set_cons_succ, i64_w, i32_w]
                                          rfl
                                        refine pure_ (i := 4) (N := some 47) (v := ?_) (a' := ?_) #[true, true, true, true, true, false, false, false, false, false, false, false, false, false, false, false] rfl rfl (any_of HT_.out (by kernel_rfl)) (fun _ _ _ h => h) (Or.inl ⟨by rfl, ?_⟩) ?_ ?_
                                        rotate_left
                                        · intro w'
                                          go_simp
                                          with_reducible rfl
                                        rotate_left
                                        · simp only [Act.put, List.setIfInBounds_toArray, List.set_cons_zero, List.set_cons_succ, i64_w, i32_w]
                                          rfl
                                        refine pure_ (i := 5) (N := some 48) (v := ?_) (a' := ?_) #[true, true, true, true, true, true, false, false, false, false, false, false, false, false, false, false] rfl rfl (any_of HT_.out (by kernel_rfl)) (fun _ _ _ h => h) (Or.inl ⟨by rfl, ?_⟩) ?_ ?_
                                        rotate_left
                                        · intro w'
                                          go_simp
                                          with_reducible rfl
                                        rotate_left
                                        · simp only [Act.put, List.setIfInBounds_toArray, List.set_cons_zero, List.set_cons_succ, i64_w, i32_w]
                                          rfl
                                        refine pure_ (i := 6) (N := some 49) (v := ?_) (a' := ?_) #[true, true, true, true, true, true, true, false, false, false, false, false, false, false, false, false] rfl rfl (any_of HT_.out (by kernel_rfl)) (fun _ _ _ h => h) (Or.inl ⟨by rfl, ?_⟩) ?_ ?_
                                        rotate_left
                                        · intro w'
                                          go_simp
                                          with_reducible rfl
                                        rotate_left
                                        · simp only [Act.put, List.setIfInBounds_toArray, List.set_cons_zero, List.set_cons_succ, i64_w, i32_w]
                                          rfl
                                        refine pure_ (i := 7) (N := some 50) (v := ?_) (a' := ?_) #[true, true, true, true, true, true, true, true, false, false, false, false, false, false, false, false] rfl rfl (any_of HT_.out (by kernel_rfl)) (fun _ _ _ h => h) (Or.inl ⟨by rfl, ?_⟩) ?_ ?_
                                        rotate_left
                                        · intro w'
                                          go_simp
                                          with_reducible rfl
                                        rotate_left
                                        · simp only [Act.put, List.setIfInBounds_toArray, List.set_cons_zero, List.set_cons_succ, i64_w, i32_w]
                                          rfl
                                        refine pure_ (i := 8) (N := some 51) (v := ?_) (a' := ?_) #[true, true, true, true, true, true, true, true, true, false, false, false, false, false, false, false] rfl rfl (any_of HT_.out (by kernel_rfl)) (fun _ _ _ h => h) (Or.inl ⟨by rfl, ?_⟩) ?_ ?_
                                        rotate_left
                                        · intro w'
                                          go_simp
                                          with_reducible rfl
                                        rotate_left
                                        · simp only [Act.put, List.setIfInBounds_toArray, List.set_cons_zero, List.set_cons_succ, i64_w, i32_w]
                                          rfl
                                        refine pure_ (i := 9) (N := some 52) (v := ?_) (a' := ?_) #[true, true, true, true, true, true, true, true, true, true, false, false, false, false, false, false] rfl rfl (any_of HT_.out (by kernel_rfl)) (fun _ _ _ h => h) (Or.inl ⟨by rfl, ?_⟩) ?_ ?_
                                        rotate_left
                                        · intro w'
                                          go_simp
                                          with_reducible rfl
                                        rotate_left
                                        · simp only [Act.put, List.setIfInBounds_toArray, List.set_cons_zero, List.set_cons_succ, i64_w, i32_w]
                                          rfl
                                        refine pure_ (i := 10) (N := some 53) (v := ?_) (a' := ?_) #[true, true, true, true, true, true, true, true, true, true, true, false, false, false, false, false] rfl rfl (any_of HT_.out (by kernel_rfl)) (fun _ _ _ h => h) (Or.inl ⟨by rfl, ?_⟩) ?_ ?_
                                        rotate_left
                                        · intro w'
                                          go_simp
                                          with_reducible rfl
                                        rotate_left
                                        · simp only [Act.put, List.setIfInBounds_toArray, List.set_cons_zero, List.set_cons_succ, i64_w, i32_w]
                                          rfl
                                        refine pure_ (i := 11) (N := some 54) (v := ?_) (a' := ?_) #[true, true, true, true, true, true, true, true, true, true, true, true, false, false, false, false] rfl rfl (any_of HT_.out (by kernel_rfl)) (fun _ _ _ h => h) (Or.inl ⟨by rfl, ?_⟩) ?_ ?_
                                        rotate_left
                                        · intro w'
                                          go_simp
                                          with_reducible rfl
                                        rotate_left
                                        · simp only [Act.put, List.setIfInBounds_toArray, List.set_cons_zero, List.set_cons_succ, i64_w, i32_w]
                                          rfl
                                        refine pure_ (i := 12) (N := some 55) (v := ?_) (a' := ?_) #[true, true, true, true, true, true, true, true, true, true, true, true, true, false, false, false] rfl rfl (any_of HT_.out (by kernel_rfl)) (fun _ _ _ h => h) (Or.inl ⟨by rfl, ?_⟩) ?_ ?_
                                        rotate_left
                                        · intro w'
                                          go_simp
                                          with_reducible rfl
                                        rotate_left
                                        · simp only [Act.put, List.setIfInBounds_toArray, List.set_cons_zero, List.set_cons_succ, i64_w, i32_w]
                                          rfl
                                        refine last_ (i := 13) (N := none) #[true, true, true, true, true, true, true, true, true, true, true, true, true, true, false, false] rfl rfl (one_of HT_.out (by kernel_rfl)) (by decide) (fun K hK => ?_)
                                        refine skip_ (w1 := ?_) (by rfl) rfl ?_ ?_
                                        rotate_left
                                        · go_simp
                                          rfl
                                        refine hK.out _ _ ?_
                                        clear hK K
                                        refine pure_ (i := 14) (N := some 56) (v := ?_) (a' := ?_) #[true, true, true, true, true, true, true, true, true, true, true, true, true, true, true, false] rfl rfl (any_of HT_.out (by kernel_rfl)) (fun _ _ _ h => h) (Or.inl ⟨by rfl, ?_⟩) ?_ ?_
                                        rotate_left
                                        · intro w'
                                          go_simp
                                          with_reducible rfl
                                        rotate_left
                                        · simp only [Act.put, List.setIfInBounds_toArray, List.set_cons_zero, List.set_cons_succ, i64_w, i32_w]
                                          rfl
                                        refine last_ (i := 15) (N := none) #[true, true, true, true, true, true, true, true, true, true, true, true, true, true, true, true] rfl rfl (one_of HT_.out (by kernel_rfl)) (by decide) (fun K hK => ?_)
                                        refine skip_ (w1 := ?_) (by rfl) rfl ?_ ?_
                                        rotate_left
                                        · go_simp
                                          rfl
                                        refine hK.out _ _ ?_
                                        clear hK K
                                        refine done_ (done_of HT_.out (by kernel_rfl)) ?_
                                        obtain ⟨Ao60, co60, eo60⟩ := Kd.R_slice HO321.out
                                        subst eo60
                                        have p327 : 0 ≤ (0 : Int) := (by omega)
                                        have q327 : 0 < (t319.length : Int) := of_decide_eq_true (by first | (with_reducible assumption) | assumption)
                                        obtain ⟨ad327, e327, hx327_0, hx327_1, hx327_2, hx327_3⟩ := at_T37 (Kd.R_reads' HO321.out).2.2 0 p327 q327
                                        cases e327
                                        have qi327 : (0 < t319.length) = True := eq_true (by omega)
                                        (try rw [show ((0 : Int)).toNat = 0 from rfl] at hx327_0)
                                        (try rw [show 0 * 4 = 0 from rfl] at hx327_0)
                                        (try rw [Addr.add_zero'] at hx327_0)
                                        (try rw [show ((0 : Int)).toNat = 0 from rfl] at hx327_1)
                                        (try rw [show 0 * 4 = 0 from rfl] at hx327_1)
                                        (try rw [Addr.add_zero'] at hx327_1)
                                        (try rw [show ((0 : Int)).toNat = 0 from rfl] at hx327_2)
                                        (try rw [show 0 * 4 = 0 from rfl] at hx327_2)
                                        (try rw [Addr.add_zero'] at hx327_2)
                                        (try rw [show ((0 : Int)).toNat = 0 from rfl] at hx327_3)
                                        (try rw [show 0 * 4 = 0 from rfl] at hx327_3)
                                        (try rw [Addr.add_zero'] at hx327_3)
                                        have hn327_0 : ad327.block ≠ go35 := Kd.own_blk (by obtain ⟨cl_, hcl_⟩ := Kd.R_typed HO_3.out _ rfl; exact Kd.R_ne HO321.out hcl_ (by decide))
                                        have hn327_1 : ad327.block ≠ go36 := Kd.own_blk (by obtain ⟨cl_, hcl_⟩ := Kd.R_typed HO_4.out _ rfl; exact Kd.R_ne HO321.out hcl_ (by decide))
                                        replace hx327_0 := (cell_far (p := ⟨go35, ((ji26) : Int).toNat, none⟩) (by first | (rw [add_block]; exact hn327_0) | (show (Addr.add _ _).block ≠ _; rw [add_block]; exact hn327_0) | exact hn327_0) (.string (⟨#[]⟩ : ByteArray))).trans hx327_0
                                        replace hx327_1 := (cell_far (p := ⟨go35, ((ji26) : Int).toNat, none⟩) (by first | (rw [add_block]; exact hn327_0) | (show (Addr.add _ _).block ≠ _; rw [add_block]; exact hn327_0) | exact hn327_0) (.string (⟨#[]⟩ : ByteArray))).trans hx327_1
                                        replace hx327_2 := (cell_far (p := ⟨go35, ((ji26) : Int).toNat, none⟩) (by first | (rw [add_block]; exact hn327_0) | (show (Addr.add _ _).block ≠ _; rw [add_block]; exact hn327_0) | exact hn327_0) (.string (⟨#[]⟩ : ByteArray))).trans hx327_2
                                        replace hx327_3 := (cell_far (p := ⟨go35, ((ji26) : Int).toNat, none⟩) (by first | (rw [add_block]; exact hn327_0) | (show (Addr.add _ _).block ≠ _; rw [add_block]; exact hn327_0) | exact hn327_0) (.string (⟨#[]⟩ : ByteArray))).trans hx327_3
                                        replace hx327_0 := (cell_far (p := ⟨go36, ((ji30) : Int).toNat, none⟩) (by first | (rw [add_block]; exact hn327_1) | (show (Addr.add _ _).block ≠ _; rw [add_block]; exact hn327_1) | exact hn327_1) (.string (⟨#[]⟩ : ByteArray))).trans hx327_0
                                        replace hx327_1 := (cell_far (p := ⟨go36, ((ji30) : Int).toNat, none⟩) (by first | (rw [add_block]; exact hn327_1) | (show (Addr.add _ _).block ≠ _; rw [add_block]; exact hn327_1) | exact hn327_1) (.string (⟨#[]⟩ : ByteArray))).trans hx327_1
                                        replace hx327_2 := (cell_far (p := ⟨go36, ((ji30) : Int).toNat, none⟩) (by first | (rw [add_block]; exact hn327_1) | (show (Addr.add _ _).block ≠ _; rw [add_block]; exact hn327_1) | exact hn327_1) (.string (⟨#[]⟩ : ByteArray))).trans hx327_2
                                        replace hx327_3 := (cell_far (p := ⟨go36, ((ji30) : Int).toNat, none⟩) (by first | (rw [add_block]; exact hn327_1) | (show (Addr.add _ _).block ≠ _; rw [add_block]; exact hn327_1) | exact hn327_1) (.string (⟨#[]⟩ : ByteArray))).trans hx327_3
                                        clear hn327_0
                                        clear hn327_1
                                        replace p327 := eq_true p327
                                        replace q327 := eq_true q327
                                        have p328 : 0 ≤ (0 : Int) := (by omega)
                                        have q328 : 0 < (t319.length : Int) := of_decide_eq_true (by first | (with_reducible assumption) | assumption)
                                        obtain ⟨ad328, e328, hx328_0, hx328_1, hx328_2, hx328_3⟩ := at_T37 (Kd.R_reads' HO321.out).2.2 0 p328 q328
                                        obtain rfl : ad327 = ad328 := (by injection e328)
                                        have qi328 : (0 < t319.length) = True := eq_true (by omega)
                                        (try rw [show ((0 : Int)).toNat = 0 from rfl] at hx328_0)
                                        (try rw [show 0 * 4 = 0 from rfl] at hx328_0)
                                        (try rw [Addr.add_zero'] at hx328_0)
                                        (try rw [show ((0 : Int)).toNat = 0 from rfl] at hx328_1)
                                        (try rw [show 0 * 4 = 0 from rfl] at hx328_1)
                                        (try rw [Addr.add_zero'] at hx328_1)
                                        (try rw [show ((0 : Int)).toNat = 0 from rfl] at hx328_2)
                                        (try rw [show 0 * 4 = 0 from rfl] at hx328_2)
                                        (try rw [Addr.add_zero'] at hx328_2)
                                        (try rw [show ((0 : Int)).toNat = 0 from rfl] at hx328_3)
                                        (try rw [show 0 * 4 = 0 from rfl] at hx328_3)
                                        (try rw [Addr.add_zero'] at hx328_3)
                                        have hn328_0 : ad327.block ≠ go35 := Kd.own_blk (by obtain ⟨cl_, hcl_⟩ := Kd.R_typed HO_3.out _ rfl; exact Kd.R_ne HO321.out hcl_ (by decide))
                                        have hn328_1 : ad327.block ≠ go36 := Kd.own_blk (by obtain ⟨cl_, hcl_⟩ := Kd.R_typed HO_4.out _ rfl; exact Kd.R_ne HO321.out hcl_ (by decide))
                                        replace hx328_0 := (cell_far (p := ⟨go35, ((ji26) : Int).toNat, none⟩) (by first | (rw [add_block]; exact hn328_0) | (show (Addr.add _ _).block ≠ _; rw [add_block]; exact hn328_0) | exact hn328_0) (.string (⟨#[]⟩ : ByteArray))).trans hx328_0
                                        replace hx328_1 := (cell_far (p := ⟨go35, ((ji26) : Int).toNat, none⟩) (by first | (rw [add_block]; exact hn328_0) | (show (Addr.add _ _).block ≠ _; rw [add_block]; exact hn328_0) | exact hn328_0) (.string (⟨#[]⟩ : ByteArray))).trans hx328_1
                                        replace hx328_2 := (cell_far (p := ⟨go35, ((ji26) : Int).toNat, none⟩) (by first | (rw [add_block]; exact hn328_0) | (show (Addr.add _ _).block ≠ _; rw [add_block]; exact hn328_0) | exact hn328_0) (.string (⟨#[]⟩ : ByteArray))).trans hx328_2
                                        replace hx328_3 := (cell_far (p := ⟨go35, ((ji26) : Int).toNat, none⟩) (by first | (rw [add_block]; exact hn328_0) | (show (Addr.add _ _).block ≠ _; rw [add_block]; exact hn328_0) | exact hn328_0) (.string (⟨#[]⟩ : ByteArray))).trans hx328_3
                                        replace hx328_0 := (cell_far (p := ⟨go36, ((ji30) : Int).toNat, none⟩) (by first | (rw [add_block]; exact hn328_1) | (show (Addr.add _ _).block ≠ _; rw [add_block]; exact hn328_1) | exact hn328_1) (.string (⟨#[]⟩ : ByteArray))).trans hx328_0
                                        replace hx328_1 := (cell_far (p := ⟨go36, ((ji30) : Int).toNat, none⟩) (by first | (rw [add_block]; exact hn328_1) | (show (Addr.add _ _).block ≠ _; rw [add_block]; exact hn328_1) | exact hn328_1) (.string (⟨#[]⟩ : ByteArray))).trans hx328_1
                                        replace hx328_2 := (cell_far (p := ⟨go36, ((ji30) : Int).toNat, none⟩) (by first | (rw [add_block]; exact hn328_1) | (show (Addr.add _ _).block ≠ _; rw [add_block]; exact hn328_1) | exact hn328_1) (.string (⟨#[]⟩ : ByteArray))).trans hx328_2
                                        replace hx328_3 := (cell_far (p := ⟨go36, ((ji30) : Int).toNat, none⟩) (by first | (rw [add_block]; exact hn328_1) | (show (Addr.add _ _).block ≠ _; rw [add_block]; exact hn328_1) | exact hn328_1) (.string (⟨#[]⟩ : ByteArray))).trans hx328_3
                                        clear hn328_0
                                        clear hn328_1
                                        replace p328 := eq_true p328
                                        replace q328 := eq_true q328
                                        obtain ⟨Ao61, co61, eo61⟩ := Kd.R_slice HO324.out
                                        subst eo61
                                        have p329 : 0 ≤ (0 : Int) := (by omega)
                                        have q329 : 0 < (t322.length : Int) := of_decide_eq_true (by first | (with_reducible assumption) | assumption)
                                        obtain ⟨ad329, e329, hx329_0, hx329_1, hx329_2, hx329_3⟩ := at_T37 (Kd.R_reads' HO324.out).2.2 0 p329 q329
                                        cases e329
                                        have qi329 : (0 < t322.length) = True := eq_true (by omega)
                                        (try rw [show ((0 : Int)).toNat = 0 from rfl] at hx329_0)
                                        (try rw [show 0 * 4 = 0 from rfl] at hx329_0)
                                        (try rw [Addr.add_zero'] at hx329_0)
                                        (try rw [show ((0 : Int)).toNat = 0 from rfl] at hx329_1)
                                        (try rw [show 0 * 4 = 0 from rfl] at hx329_1)
                                        (try rw [Addr.add_zero'] at hx329_1)
                                        (try rw [show ((0 : Int)).toNat = 0 from rfl] at hx329_2)
                                        (try rw [show 0 * 4 = 0 from rfl] at hx329_2)
                                        (try rw [Addr.add_zero'] at hx329_2)
                                        (try rw [show ((0 : Int)).toNat = 0 from rfl] at hx329_3)
                                        (try rw [show 0 * 4 = 0 from rfl] at hx329_3)
                                        (try rw [Addr.add_zero'] at hx329_3)
                                        have hn329_0 : ad329.block ≠ go35 := Kd.own_blk (by obtain ⟨cl_, hcl_⟩ := Kd.R_typed HO_3.out _ rfl; exact Kd.R_ne HO324.out hcl_ (by decide))
                                        have hn329_1 : ad329.block ≠ go36 := Kd.own_blk (by obtain ⟨cl_, hcl_⟩ := Kd.R_typed HO_4.out _ rfl; exact Kd.R_ne HO324.out hcl_ (by decide))
                                        replace hx329_0 := (cell_far (p := ⟨go35, ((ji26) : Int).toNat, none⟩) (by first | (rw [add_block]; exact hn329_0) | (show (Addr.add _ _).block ≠ _; rw [add_block]; exact hn329_0) | exact hn329_0) (.string (⟨#[]⟩ : ByteArray))).trans hx329_0
                                        replace hx329_1 := (cell_far (p := ⟨go35, ((ji26) : Int).toNat, none⟩) (by first | (rw [add_block]; exact hn329_0) | (show (Addr.add _ _).block ≠ _; rw [add_block]; exact hn329_0) | exact hn329_0) (.string (⟨#[]⟩ : ByteArray))).trans hx329_1
                                        replace hx329_2 := (cell_far (p := ⟨go35, ((ji26) : Int).toNat, none⟩) (by first | (rw [add_block]; exact hn329_0) | (show (Addr.add _ _).block ≠ _; rw [add_block]; exact hn329_0) | exact hn329_0) (.string (⟨#[]⟩ : ByteArray))).trans hx329_2
                                        replace hx329_3 := (cell_far (p := ⟨go35, ((ji26) : Int).toNat, none⟩) (by first | (rw [add_block]; exact hn329_0) | (show (Addr.add _ _).block ≠ _; rw [add_block]; exact hn329_0) | exact hn329_0) (.string (⟨#[]⟩ : ByteArray))).trans hx329_3
                                        replace hx329_0 := (cell_far (p := ⟨go36, ((ji30) : Int).toNat, none⟩) (by first | (rw [add_block]; exact hn329_1) | (show (Addr.add _ _).block ≠ _; rw [add_block]; exact hn329_1) | exact hn329_1) (.string (⟨#[]⟩ : ByteArray))).trans hx329_0
                                        replace hx329_1 := (cell_far (p := ⟨go36, ((ji30) : Int).toNat, none⟩) (by first | (rw [add_block]; exact hn329_1) | (show (Addr.add _ _).block ≠ _; rw [add_block]; exact hn329_1) | exact hn329_1) (.string (⟨#[]⟩ : ByteArray))).trans hx329_1
                                        replace hx329_2 := (cell_far (p := ⟨go36, ((ji30) : Int).toNat, none⟩) (by first | (rw [add_block]; exact hn329_1) | (show (Addr.add _ _).block ≠ _; rw [add_block]; exact hn329_1) | exact hn329_1) (.string (⟨#[]⟩ : ByteArray))).trans hx329_2
                                        replace hx329_3 := (cell_far (p := ⟨go36, ((ji30) : Int).toNat, none⟩) (by first | (rw [add_block]; exact hn329_1) | (show (Addr.add _ _).block ≠ _; rw [add_block]; exact hn329_1) | exact hn329_1) (.string (⟨#[]⟩ : ByteArray))).trans hx329_3
                                        clear hn329_0
                                        clear hn329_1
                                        replace p329 := eq_true p329
                                        replace q329 := eq_true q329
                                        have p330 : 0 ≤ (0 : Int) := (by omega)
                                        have q330 : 0 < (t322.length : Int) := of_decide_eq_true (by first | (with_reducible assumption) | assumption)
                                        obtain ⟨ad330, e330, hx330_0, hx330_1, hx330_2, hx330_3⟩ := at_T37 (Kd.R_reads' HO324.out).2.2 0 p330 q330
                                        obtain rfl : ad329 = ad330 := (by injection e330)
                                        have qi330 : (0 < t322.length) = True := eq_true (by omega)
                                        (try rw [show ((0 : Int)).toNat = 0 from rfl] at hx330_0)
                                        (try rw [show 0 * 4 = 0 from rfl] at hx330_0)
                                        (try rw [Addr.add_zero'] at hx330_0)
                                        (try rw [show ((0 : Int)).toNat = 0 from rfl] at hx330_1)
                                        (try rw [show 0 * 4 = 0 from rfl] at hx330_1)
                                        (try rw [Addr.add_zero'] at hx330_1)
                                        (try rw [show ((0 : Int)).toNat = 0 from rfl] at hx330_2)
                                        (try rw [show 0 * 4 = 0 from rfl] at hx330_2)
                                        (try rw [Addr.add_zero'] at hx330_2)
                                        (try rw [show ((0 : Int)).toNat = 0 from rfl] at hx330_3)
                                        (try rw [show 0 * 4 = 0 from rfl] at hx330_3)
                                        (try rw [Addr.add_zero'] at hx330_3)
                                        have hn330_0 : ad329.block ≠ go35 := Kd.own_blk (by obtain ⟨cl_, hcl_⟩ := Kd.R_typed HO_3.out _ rfl; exact Kd.R_ne HO324.out hcl_ (by decide))
                                        have hn330_1 : ad329.block ≠ go36 := Kd.own_blk (by obtain ⟨cl_, hcl_⟩ := Kd.R_typed HO_4.out _ rfl; exact Kd.R_ne HO324.out hcl_ (by decide))
                                        replace hx330_0 := (cell_far (p := ⟨go35, ((ji26) : Int).toNat, none⟩) (by first | (rw [add_block]; exact hn330_0) | (show (Addr.add _ _).block ≠ _; rw [add_block]; exact hn330_0) | exact hn330_0) (.string (⟨#[]⟩ : ByteArray))).trans hx330_0
                                        replace hx330_1 := (cell_far (p := ⟨go35, ((ji26) : Int).toNat, none⟩) (by first | (rw [add_block]; exact hn330_0) | (show (Addr.add _ _).block ≠ _; rw [add_block]; exact hn330_0) | exact hn330_0) (.string (⟨#[]⟩ : ByteArray))).trans hx330_1
                                        replace hx330_2 := (cell_far (p := ⟨go35, ((ji26) : Int).toNat, none⟩) (by first | (rw [add_block]; exact hn330_0) | (show (Addr.add _ _).block ≠ _; rw [add_block]; exact hn330_0) | exact hn330_0) (.string (⟨#[]⟩ : ByteArray))).trans hx330_2
                                        replace hx330_3 := (cell_far (p := ⟨go35, ((ji26) : Int).toNat, none⟩) (by first | (rw [add_block]; exact hn330_0) | (show (Addr.add _ _).block ≠ _; rw [add_block]; exact hn330_0) | exact hn330_0) (.string (⟨#[]⟩ : ByteArray))).trans hx330_3
                                        replace hx330_0 := (cell_far (p := ⟨go36, ((ji30) : Int).toNat, none⟩) (by first | (rw [add_block]; exact hn330_1) | (show (Addr.add _ _).block ≠ _; rw [add_block]; exact hn330_1) | exact hn330_1) (.string (⟨#[]⟩ : ByteArray))).trans hx330_0
                                        replace hx330_1 := (cell_far (p := ⟨go36, ((ji30) : Int).toNat, none⟩) (by first | (rw [add_block]; exact hn330_1) | (show (Addr.add _ _).block ≠ _; rw [add_block]; exact hn330_1) | exact hn330_1) (.string (⟨#[]⟩ : ByteArray))).trans hx330_1
                                        replace hx330_2 := (cell_far (p := ⟨go36, ((ji30) : Int).toNat, none⟩) (by first | (rw [add_block]; exact hn330_1) | (show (Addr.add _ _).block ≠ _; rw [add_block]; exact hn330_1) | exact hn330_1) (.string (⟨#[]⟩ : ByteArray))).trans hx330_2
                                        replace hx330_3 := (cell_far (p := ⟨go36, ((ji30) : Int).toNat, none⟩) (by first | (rw [add_block]; exact hn330_1) | (show (Addr.add _ _).block ≠ _; rw [add_block]; exact hn330_1) | exact hn330_1) (.string (⟨#[]⟩ : ByteArray))).trans hx330_3
                                        clear hn330_0
                                        clear hn330_1
                                        replace p330 := eq_true p330
                                        replace q330 := eq_true q330
                                        try go_wp2_with (first | (go_at_call 18; (with_reducible refine (lexer_Keywords.calls  t331 _ ?side1 A45.out).mono ?_); (case side1 => refine GW.below HG.out ?_; repeat (first | (with_reducible first | exact HB.out | apply below_alloc | apply pw_below_drewN | apply below_drew1 | refine below_set ?_ GB35.out | refine below_set ?_ GB36.out) | exact HB.out)); rintro e w62 ⟨v332, rfl, ho0, hb⟩; have n0_ := Aside0.mk (Kd.R_elder' (by (with_reducible repeat (first | apply Kd.R_alloc | apply Kd.R_drewN | apply Kd.R_drew)); exact (Kd.R_mono (Kd.R_far (p := ⟨go36, ((ji30) : Int).toNat, none⟩) (Kd.R_mono HQ58.out (fun k_ hk => (⟨hk, fun e_ => hk (by rw [e_]; rfl)⟩ : _ ∧ k_ ≠ go36))) (fun _ hk => hk.2) (.string (⟨#[]⟩ : ByteArray))) (fun _ h_ => h_.1))) (Kd.R_base ho0) hb); have n1_ := Aside0.mk (Kd.R_elder' (by (with_reducible repeat (first | apply Kd.R_alloc | apply Kd.R_drewN | apply Kd.R_drew)); exact (Kd.R_mono HQ59.out (fun _ h_ => h_.1))) (Kd.R_base ho0) hb); have n2_ := Aside0.mk (Kd.R_below (by (with_reducible repeat (first | apply Kd.R_alloc | apply Kd.R_drewN | apply Kd.R_drew)); exact (Kd.R_mono (Kd.R_mono (Kd.R_far (p := ⟨go36, ((ji30) : Int).toNat, none⟩) (Kd.R_far (p := ⟨go35, ((ji26) : Int).toNat, none⟩) (Kd.R_types (Kd.R_types HO321.out GG35.out (by decide)) GG36.out (by decide)) (fun _ hk => hk.1.2) (.string (⟨#[]⟩ : ByteArray))) (fun _ hk => hk.2) (.string (⟨#[]⟩ : ByteArray))) (fun _ h_ => h_.1)) (fun _ h_ => h_.1))) hb); have n3_ := Aside0.mk (Kd.R_below (by (with_reducible repeat (first | apply Kd.R_alloc | apply Kd.R_drewN | apply Kd.R_drew)); exact (Kd.R_mono (Kd.R_mono (Kd.R_far (p := ⟨go36, ((ji30) : Int).toNat, none⟩) (Kd.R_far (p := ⟨go35, ((ji26) : Int).toNat, none⟩) (Kd.R_types (Kd.R_types HO324.out GG35.out (by decide)) GG36.out (by decide)) (fun _ hk => hk.1.2) (.string (⟨#[]⟩ : ByteArray))) (fun _ hk => hk.2) (.string (⟨#[]⟩ : ByteArray))) (fun _ h_ => h_.1)) (fun _ h_ => h_.1))) hb); have n4_ := Aside0.mk (Kd.R_lower (Kd.R_new' (Kd.R_new' ho0 (Kd.R_lt (by (with_reducible repeat (first | apply Kd.R_alloc | apply Kd.R_drewN | apply Kd.R_drew)); exact (Kd.R_mono (Kd.R_far (p := ⟨go36, ((ji30) : Int).toNat, none⟩) (Kd.R_mono HQ58.out (fun k_ hk => (⟨hk, fun e_ => hk (by rw [e_]; rfl)⟩ : _ ∧ k_ ≠ go36))) (fun _ hk => hk.2) (.string (⟨#[]⟩ : ByteArray))) (fun _ h_ => h_.1))))) (Kd.R_lt (by (with_reducible repeat (first | apply Kd.R_alloc | apply Kd.R_drewN | apply Kd.R_drew)); exact (Kd.R_mono HQ59.out (fun _ h_ => h_.1))))) (below_size (by repeat (first | (with_reducible first | exact HB.out | apply below_alloc | apply pw_below_drewN | apply below_drew1 | refine below_set ?_ GB35.out | refine below_set ?_ GB36.out) | exact HB.out)))); have n5_ := Aside0.mk (below_step (by repeat (first | (with_reducible first | exact HB.out | apply below_alloc | apply pw_below_drewN | apply below_drew1 | refine below_set ?_ GB35.out | refine below_set ?_ GB36.out) | exact HB.out)) hb); clear HO_3; clear HO_4; clear HO321; clear HO324; clear HB; have HO_3 := n0_; have HO_4 := n1_; have HO321 := n2_; have HO324 := n3_; have HO333 := n4_; have HB := n5_; clear n0_ n1_ n2_ n3_ n4_ n5_; (try clear hb); (try clear hb2); (try clear hk); (try clear hi); (try clear ho0)) | (go_at_call 21; (with_reducible refine (trickleref15_Keywords.calls  t334 _ A46.out).mono ?_); rintro e w63 ⟨v335, rfl, ho0, hb⟩; have n0_ := Aside0.mk (Kd.R_elder' (by (with_reducible repeat (first | apply Kd.R_alloc | apply Kd.R_drewN | apply Kd.R_drew)); exact HO_3.out) (Kd.R_base ho0) hb); have n1_ := Aside0.mk (Kd.R_elder' (by (with_reducible repeat (first | apply Kd.R_alloc | apply Kd.R_drewN | apply Kd.R_drew)); exact HO_4.out) (Kd.R_base ho0) hb); have n2_ := Aside0.mk (Kd.R_below (by (with_reducible repeat (first | apply Kd.R_alloc | apply Kd.R_drewN | apply Kd.R_drew)); exact HO321.out) hb); have n3_ := Aside0.mk (Kd.R_below (by (with_reducible repeat (first | apply Kd.R_alloc | apply Kd.R_drewN | apply Kd.R_drew)); exact HO324.out) hb); have n4_ := Aside0.mk (Kd.R_elder' (by (with_reducible repeat (first | apply Kd.R_alloc | apply Kd.R_drewN | apply Kd.R_drew)); exact HO333.out) (Kd.R_base ho0) hb); have n5_ := Aside0.mk (Kd.R_lower (Kd.R_new' (Kd.R_new' (Kd.R_new' ho0 (Kd.R_lt (by (with_reducible repeat (first | apply Kd.R_alloc | apply Kd.R_drewN | apply Kd.R_drew)); exact HO_3.out))) (Kd.R_lt (by (with_reducible repeat (first | apply Kd.R_alloc | apply Kd.R_drewN | apply Kd.R_drew)); exact HO_4.out))) (Kd.R_lt (by (with_reducible repeat (first | apply Kd.R_alloc | apply Kd.R_drewN | apply Kd.R_drew)); exact HO333.out))) (below_size (by repeat (first | (with_reducible first | exact HB.out | apply below_alloc | apply pw_below_drewN | apply below_drew1) | exact HB.out)))); have n6_ := Aside0.mk (below_step (by repeat (first | (with_reducible first | exact HB.out | apply below_alloc | apply pw_below_drewN | apply below_drew1) | exact HB.out)) hb); clear HO_3; clear HO_4; clear HO321; clear HO324; clear HO333; clear HB; have HO_3 := n0_; have HO_4 := n1_; have HO321 := n2_; have HO324 := n3_; have HO333 := n4_; have HO336 := n5_; have HB := n6_; clear n0_ n1_ n2_ n3_ n4_ n5_ n6_; (try clear hb); (try clear hb2); (try clear hk); (try clear hi); (try clear ho0); obtain ⟨Ao64, co64, eo64⟩ := Kd.R_slice HO333.out; subst eo64; obtain ⟨Ao65, co65, eo65⟩ := Kd.R_slice HO336.out; subst eo65) | (go_at_call 20; (with_reducible refine (trickleref15_SameTexts.calls kj5 _ _ t331 _ _ t334 true _ ?side1 ?side2 ?side3 ?side4 A47.out).mono ?_); (case side1 => repeat (first | exact (Kd.R_reads' HO333.out).2.2 | (with_reducible refine Kd.C_alloc ?_ _) | (with_reducible refine Kd.C_drewN ?_ _) | (with_reducible refine Kd.C_drew ?_))); (case side2 => exact (Kd.R_reads' HO333.out).2.1); (case side3 => repeat (first | exact (Kd.R_reads' HO336.out).2.2 | (with_reducible refine Kd.C_alloc ?_ _) | (with_reducible refine Kd.C_drewN ?_ _) | (with_reducible refine Kd.C_drew ?_))); (case side4 => exact (Kd.R_reads' HO336.out).2.1); rintro e w' ⟨rfl, ⟨nd, rfl⟩⟩) | (go_at_call 19; (with_reducible refine (lexer_Punctuation.calls  t338 _ ?side1 A49.out).mono ?_); (case side1 => refine GW.below HG.out ?_; repeat (first | (with_reducible first | exact HB.out | apply below_alloc | apply pw_below_drewN | apply below_drew1) | exact HB.out)); rintro e w66 ⟨v339, rfl, ho0, hb⟩; have n0_ := Aside0.mk (Kd.R_elder' (by (with_reducible repeat (first | apply Kd.R_alloc | apply Kd.R_drewN | apply Kd.R_drew)); exact HO_3.out) (Kd.R_base ho0) hb); have n1_ := Aside0.mk (Kd.R_elder' (by (with_reducible repeat (first | apply Kd.R_alloc | apply Kd.R_drewN | apply Kd.R_drew)); exact HO_4.out) (Kd.R_base ho0) hb); have n2_ := Aside0.mk (Kd.R_below (by (with_reducible repeat (first | apply Kd.R_alloc | apply Kd.R_drewN | apply Kd.R_drew)); exact HO321.out) hb); have n3_ := Aside0.mk (Kd.R_below (by (with_reducible repeat (first | apply Kd.R_alloc | apply Kd.R_drewN | apply Kd.R_drew)); exact HO324.out) hb); have n4_ := Aside0.mk (Kd.R_elder' (by (with_reducible repeat (first | apply Kd.R_alloc | apply Kd.R_drewN | apply Kd.R_drew)); exact HO333.out) (Kd.R_base ho0) hb); have n5_ := Aside0.mk (Kd.R_elder' (by (with_reducible repeat (first | apply Kd.R_alloc | apply Kd.R_drewN | apply Kd.R_drew)); exact HO336.out) (Kd.R_base ho0) hb); have n6_ := Aside0.mk (Kd.R_lower (Kd.R_new' (Kd.R_new' (Kd.R_new' (Kd.R_new' ho0 (Kd.R_lt (by (with_reducible repeat (first | apply Kd.R_alloc | apply Kd.R_drewN | apply Kd.R_drew)); exact HO_3.out))) (Kd.R_lt (by (with_reducible repeat (first | apply Kd.R_alloc | apply Kd.R_drewN | apply Kd.R_drew)); exact HO_4.out))) (Kd.R_lt (by (with_reducible repeat (first | apply Kd.R_alloc | apply Kd.R_drewN | apply Kd.R_drew)); exact HO333.out))) (Kd.R_lt (by (with_reducible repeat (first | apply Kd.R_alloc | apply Kd.R_drewN | apply Kd.R_drew)); exact HO336.out))) (below_size (by repeat (first | (with_reducible first | exact HB.out | apply below_alloc | apply pw_below_drewN | apply below_drew1) | exact HB.out)))); have n7_ := Aside0.mk (below_step (by repeat (first | (with_reducible first | exact HB.out | apply below_alloc | apply pw_below_drewN | apply below_drew1) | exact HB.out)) hb); clear HO_3; clear HO_4; clear HO321; clear HO324; clear HO333; clear HO336; clear HB; have HO_3 := n0_; have HO_4 := n1_; have HO321 := n2_; have HO324 := n3_; have HO333 := n4_; have HO336 := n5_; have HO340 := n6_; have HB := n7_; clear n0_ n1_ n2_ n3_ n4_ n5_ n6_ n7_; (try clear hb); (try clear hb2); (try clear hk); (try clear hi); (try clear ho0)) | (go_at_call 22; (with_reducible refine (trickleref15_Punctuation.calls  t341 _ A50.out).mono ?_); rintro e w67 ⟨v342, rfl, ho0, hb⟩; have n0_ := Aside0.mk (Kd.R_elder' (by (with_reducible repeat (first | apply Kd.R_alloc | apply Kd.R_drewN | apply Kd.R_drew)); exact HO_3.out) (Kd.R_base ho0) hb); have n1_ := Aside0.mk (Kd.R_elder' (by (with_reducible repeat (first | apply Kd.R_alloc | apply Kd.R_drewN | apply Kd.R_drew)); exact HO_4.out) (Kd.R_base ho0) hb); have n2_ := Aside0.mk (Kd.R_below (by (with_reducible repeat (first | apply Kd.R_alloc | apply Kd.R_drewN | apply Kd.R_drew)); exact HO321.out) hb); have n3_ := Aside0.mk (Kd.R_below (by (with_reducible repeat (first | apply Kd.R_alloc | apply Kd.R_drewN | apply Kd.R_drew)); exact HO324.out) hb); have n4_ := Aside0.mk (Kd.R_elder' (by (with_reducible repeat (first | apply Kd.R_alloc | apply Kd.R_drewN | apply Kd.R_drew)); exact HO333.out) (Kd.R_base ho0) hb); have n5_ := Aside0.mk (Kd.R_elder' (by (with_reducible repeat (first | apply Kd.R_alloc | apply Kd.R_drewN | apply Kd.R_drew)); exact HO336.out) (Kd.R_base ho0) hb); have n6_ := Aside0.mk (Kd.R_elder' (by (with_reducible repeat (first | apply Kd.R_alloc | apply Kd.R_drewN | apply Kd.R_drew)); exact HO340.out) (Kd.R_base ho0) hb); have n7_ := Aside0.mk (Kd.R_lower (Kd.R_new' (Kd.R_new' (Kd.R_new' (Kd.R_new' (Kd.R_new' ho0 (Kd.R_lt (by (with_reducible repeat (first | apply Kd.R_alloc | apply Kd.R_drewN | apply Kd.R_drew)); exact HO_3.out))) (Kd.R_lt (by (with_reducible repeat (first | apply Kd.R_alloc | apply Kd.R_drewN | apply Kd.R_drew)); exact HO_4.out))) (Kd.R_lt (by (with_reducible repeat (first | apply Kd.R_alloc | apply Kd.R_drewN | apply Kd.R_drew)); exact HO333.out))) (Kd.R_lt (by (with_reducible repeat (first | apply Kd.R_alloc | apply Kd.R_drewN | apply Kd.R_drew)); exact HO336.out))) (Kd.R_lt (by (with_reducible repeat (first | apply Kd.R_alloc | apply Kd.R_drewN | apply Kd.R_drew)); exact HO340.out))) (below_size (by repeat (first | (with_reducible first | exact HB.out | apply below_alloc | apply pw_below_drewN | apply below_drew1) | exact HB.out)))); have n8_ := Aside0.mk (below_step (by repeat (first | (with_reducible first | exact HB.out | apply below_alloc | apply pw_below_drewN | apply below_drew1) | exact HB.out)) hb); clear HO_3; clear HO_4; clear HO321; clear HO324; clear HO333; clear HO336; clear HO340; clear HB; have HO_3 := n0_; have HO_4 := n1_; have HO321 := n2_; have HO324 := n3_; have HO333 := n4_; have HO336 := n5_; have HO340 := n6_; have HO343 := n7_; have HB := n8_; clear n0_ n1_ n2_ n3_ n4_ n5_ n6_ n7_ n8_; (try clear hb); (try clear hb2); (try clear hk); (try clear hi); (try clear ho0); obtain ⟨Ao68, co68, eo68⟩ := Kd.R_slice HO340.out; subst eo68; obtain ⟨Ao69, co69, eo69⟩ := Kd.R_slice HO343.out; subst eo69) | (go_at_call 20; (with_reducible refine (trickleref15_SameTexts.calls kj5 _ _ t338 _ _ t341 t344 _ ?side1 ?side2 ?side3 ?side4 A51.out).mono ?_); (case side1 => repeat (first | exact (Kd.R_reads' HO340.out).2.2 | (with_reducible refine Kd.C_alloc ?_ _) | (with_reducible refine Kd.C_drewN ?_ _) | (with_reducible refine Kd.C_drew ?_))); (case side2 => exact (Kd.R_reads' HO340.out).2.1); (case side3 => repeat (first | exact (Kd.R_reads' HO343.out).2.2 | (with_reducible refine Kd.C_alloc ?_ _) | (with_reducible refine Kd.C_drewN ?_ _) | (with_reducible refine Kd.C_drew ?_))); (case side4 => exact (Kd.R_reads' HO343.out).2.1); rintro e w' ⟨rfl, ⟨nd, rfl⟩⟩))
                                        go_ret
                                        exact ⟨by first | rfl | (simp [errW_none, errW_some] <;> rfl) | (simp only [← hji26, ← hji30]; first | rfl | (simp [errW_none, errW_some] <;> rfl)) | (simp [*, errW_none, errW_some] <;> rfl), by repeat (first | (with_reducible first | exact HB.out | apply below_alloc | apply pw_below_drewN | apply below_drew1) | exact HB.out)⟩
                                      · replace c48 := Bool.eq_false_iff.mpr c48
                                        subst c48
                                        have H1 : (some false) = some r := by rw [if_neg (show ¬ (false = true) by decide)] at H; exact H
                                        cases (Option.some.inj H1).trans HRT.out
                                    · rw [if_neg c44] at H
                                      have c44b0 : (((rd_T37 t322 0).f1).toList == (rdOf ByteArray.empty t306 (ji30)).toList) = false := beq_eq_false_iff_ne.mpr c44
                                      have c44b1 : (((rd_T37 t322 0).f1).toList != (rdOf ByteArray.empty t306 (ji30)).toList) = true := bne_iff_ne.mpr c44
                                      exact absurd ((Option.some.inj H).trans HRT.out) (by decide)
                                  · rw [if_neg c43] at H
                                    have c43b0 : (((rd_T37 t322 0).f0) == 4) = false := beq_eq_false_iff_ne.mpr c43
                                    have c43b1 : (((rd_T37 t322 0).f0) != 4) = true := bne_iff_ne.mpr c43
                                    exact absurd ((Option.some.inj H).trans HRT.out) (by decide)
                                · rw [if_neg c42] at H
                                  exact absurd H (by simp)
                              · rw [if_neg c41] at H
                                have c41b0 : ((t322.length : Int) == 2) = false := beq_eq_false_iff_ne.mpr c41
                                have c41b1 : ((t322.length : Int) != 2) = true := bne_iff_ne.mpr c41
                                exact absurd ((Option.some.inj H).trans HRT.out) (by decide)
                            · rw [if_neg c40] at H
                              have c40b0 : (((rd_T37 t319 0).f1).toList == (rdOf ByteArray.empty t303 (ji26)).toList) = false := beq_eq_false_iff_ne.mpr c40
                              have c40b1 : (((rd_T37 t319 0).f1).toList != (rdOf ByteArray.empty t303 (ji26)).toList) = true := bne_iff_ne.mpr c40
                              exact absurd ((Option.some.inj H).trans HRT.out) (by decide)
                          · rw [if_neg c39] at H
                            have c39b0 : (((rd_T37 t319 0).f0) == 3) = false := beq_eq_false_iff_ne.mpr c39
                            have c39b1 : (((rd_T37 t319 0).f0) != 3) = true := bne_iff_ne.mpr c39
                            exact absurd ((Option.some.inj H).trans HRT.out) (by decide)
                        · rw [if_neg c38] at H
                          exact absurd H (by simp)
                      · rw [if_neg c37] at H
                        have c37b0 : ((t319.length : Int) == 2) = false := beq_eq_false_iff_ne.mpr c37
                        have c37b1 : ((t319.length : Int) != 2) = true := bne_iff_ne.mpr c37
                        exact absurd ((Option.some.inj H).trans HRT.out) (by decide)
                    · rw [if_neg c32] at H
                      exact absurd H (by simp)
                  · rw [if_neg c31] at H
                    exact absurd H (by simp)
              · rw [if_neg c28] at H
                exact absurd H (by simp)
            · rw [if_neg c27] at H
              exact absurd H (by simp)
  · replace c3 := Bool.eq_false_iff.mpr c3
    subst c3
    have H1 : (some false) = some r := by rw [if_neg (show ¬ (false = true) by decide)] at H; exact H
    cases (Option.some.inj H1).trans HRT.out
end Go.Proofs.YtmpbkemicfmbaaaDoor.PX
/- LexerTables in plain words: the lists are the specified ones, and each element is scanned as one token of its kind. -/
namespace Go.Proofs.YtmpbkemicfmbaaaDoor.PX
open Go.RowKit Go.Proofs.YtmpbkemicfmbaaaDoorW.PrintWords Go.Proofs.YtmpbkemicfmbaaaDoorW.PrintLast Go.Proofs.YtmpbkemicfmbaaaDoorW.PrintMore
set_option linter.unusedVariables false
set_option linter.unusedSimpArgs false
theorem u8_bd15 {v : Int} (h : (Lit.int .u8 v).wf = true) : 0 ≤ v ∧ v ≤ 255 := by
  have h1 : IntKind.u8.min = 0 := by decide
  have h2 : IntKind.u8.max = 255 := by decide
  simp only [Lit.wf, h1, h2, Bool.and_eq_true, decide_eq_true_eq] at h
  exact h
/-- A text is scanned as one token of a kind. -/
def oneTok (k : Int) (p : ByteArray) : Bool :=
  match scan p with
  | [t, _] => decide (t.f0 = k) && decide (bs t.f1 = bs p)
  | _ => false
theorem kw_one : kwL.all (oneTok 3) = true := by kernel_rfl
theorem pu_one : puL.all (oneTok 4) = true := by kernel_rfl
theorem sameKw : Ev (fun k => trickleref15_SameTexts.f k kwL kwL) true := Ev.of (k := 40) (fun k => trickleref15_SameTexts.mono _ _ k) (by kernel_rfl)
theorem samePu : Ev (fun k => trickleref15_SameTexts.f k puL puL) true := Ev.of (k := 40) (fun k => trickleref15_SameTexts.mono _ _ k) (by kernel_rfl)
theorem one_parts {k : Int} {p : ByteArray} (h : oneTok k p = true) : (scan p).length = 2 ∧ (rd_T37 (scan p) 0).f0 = k ∧ (rd_T37 (scan p) 0).f1.toList = p.toList := by
  unfold oneTok at h
  split at h
  · rename_i t u e
    rw [Bool.and_eq_true, decide_eq_true_eq, decide_eq_true_eq] at h
    rw [e]
    refine ⟨rfl, h.1, ?_⟩
    rw [toList_bs, toList_bs]
    exact h.2
  · cases h
theorem short_all (l : List ByteArray) (h : l.all (fun p => decide (p.size ≤ 100)) = true) (i : Nat) (hi : i < l.length) : (bs l[i]).length ≤ 100 := by
  rw [bs_len]
  exact of_decide_eq_true (List.all_eq_true.mp h _ (List.getElem_mem hi))
theorem kw_short : kwL.all (fun p => decide (p.size ≤ 100)) = true := by kernel_rfl
theorem pu_short : puL.all (fun p => decide (p.size ≤ 100)) = true := by kernel_rfl
theorem tmod_nat (a : Int) (h0 : 0 ≤ a) (h1 : a ≤ 255) (n : Nat) : Int.tmod (wrap64 a) (n : Int) = ((a.toNat % n : Nat) : Int) := by
  rw [wrap_id (by omega) (by omega), Int.tmod_eq_emod_of_nonneg h0, Int.natCast_emod, Int.toNat_of_nonneg h0]
theorem tables_body (a : Int) (h0 : 0 ≤ a) (h1 : a ≤ 255) : Ev (fun k => tricklelaw15_LexerTables.j0 k a kwL puL (!true)) true := by
  have hk : kwL.length = 22 := by kernel_rfl
  have hp : puL.length = 23 := by kernel_rfl
  have hi : a.toNat % kwL.length < kwL.length := Nat.mod_lt _ (by omega)
  have hj : a.toNat % puL.length < puL.length := Nat.mod_lt _ (by omega)
  have e1 := tmod_nat a h0 h1 kwL.length
  have e2 := tmod_nat a h0 h1 puL.length
  generalize a.toNat % kwL.length = i at hi e1
  generalize a.toNat % puL.length = j at hj e2
  refine Ev.step (fun k => by rw [tricklelaw15_LexerTables.j0]) (Ev.neg (by decide) (Ev.neg (by omega) ?_))
  rw [e1, e2, rdOf_nat kwL i hi, rdOf_nat puL j hj]
  obtain ⟨x1, x2, x3⟩ := one_parts (List.all_eq_true.mp kw_one _ (List.getElem_mem hi))
  obtain ⟨y1, y2, y3⟩ := one_parts (List.all_eq_true.mp pu_one _ (List.getElem_mem hj))
  refine Ev.pos (by omega) (Ev.pos (by omega) (Ev.neg (by omega) (Ev.pos (by omega) (Ev.pos (by omega) (Ev.bind (scan_ev kwL[i] (by have := short_all kwL kw_short i hi; omega)) (Ev.bind (scan_ev puL[j] (by have := short_all puL pu_short j hj; omega)) ?_))))))
  refine Ev.pos (by omega) (Ev.pos (by omega) (Ev.pos x2 (Ev.pos x3 (Ev.pos (by omega) (Ev.pos (by omega) (Ev.pos y2 (Ev.pos y3 ?_)))))))
  exact Ev.const (a := kwL) rfl (Ev.const (a := kwL) rfl (Ev.bind sameKw (Ev.pos rfl (Ev.const (a := puL) rfl (Ev.const (a := puL) rfl (Ev.bind samePu (Ev.now _)))))))
end Go.Proofs.YtmpbkemicfmbaaaDoor.PX
namespace Go.Proofs.YtmpbkemicfmbaaaDoor.Pure
open Go.RowKit Go.Proofs.YtmpbkemicfmbaaaDoor.PX Go.Proofs.YtmpbkemicfmbaaaDoorW.PrintWords Go.Proofs.YtmpbkemicfmbaaaDoorW.PrintLast
set_option linter.unusedVariables false
theorem LexerTables (a : Int) (w : 0 ≤ a ∧ a ≤ 255) : ∃ k, tricklelaw15_LexerTables.f k a = some true := by
  refine Ev.rounds (Ev.congr (fun k => by rw [tricklelaw15_LexerTables.f]) (Ev.bind wakes15 (Ev.pos rfl ?_)))
  exact Ev.const (a := kwL) rfl (Ev.const (a := puL) rfl (Ev.const (a := kwL) rfl (Ev.bind sameKw (Ev.pos rfl (Ev.const (a := puL) rfl (Ev.bind samePu (tables_body a w.1 w.2)))))))
end Go.Proofs.YtmpbkemicfmbaaaDoor.Pure
