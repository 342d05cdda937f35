-- Written by a program of this session (wip/xprint.py, over the kit's print tool). Lean checks it.
import Derived.Test.YtakkifbcaedcoaaDoorPXx0
import Derived.Test.YtakkifbcaedcoaaDoorPXx7
import Derived.Test.YtakkifbcaedcoaaDoorPXx8
import Derived.Test.YtakkifbcaedcoaaDoorMAllowed
import Derived.Test.YtakkifbcaedcoaaDoorMSequence
namespace Go.Proofs.YtakkifbcaedcoaaDoor.PX
open Go.RowKit Go.Proofs.YtakkifbcaedcoaaDoorW.PrintWords Go.Proofs.YtakkifbcaedcoaaDoorW.PrintLast Go.Proofs.YtakkifbcaedcoaaDoorW.PrintMore
attribute [local go_sem] max2_int min2_int max_two min_two max_three min_three max_four min_four   -- for this text's walks alone
set_option linter.unusedVariables false
set_option linter.unusedSimpArgs false

/-! ### trickleref55_count: function 30 -/
def trickleref55_count.l0 : Nat → List (S55) → Int → Int → Int → Option (Int)
  | 0, _, _, _, _ => none
  | k + 1, x0, x1, x5, x6 => if x6 < (x0.length : Int) then (if 0 ≤ x6 then (if ((rd_T55 x0 x6).f0) = x1 then (trickleref55_count.l0 k x0 x1 (wrap64 (x5 + 1)) (wrap64 (x6 + 1))) else (trickleref55_count.l0 k x0 x1 x5 (wrap64 (x6 + 1)))) else (none)) else (some x5)
def trickleref55_count.f (k : Nat) (l0 : List (S55)) (a1 : Int) : Option (Int) := trickleref55_count.l0 k l0 a1 0 0
theorem trickleref55_count.mono_l : ∀ k, (∀ y0 y1 y2 y3, LeO (trickleref55_count.l0 k y0 y1 y2 y3) (trickleref55_count.l0 (k + 1) y0 y1 y2 y3))
  | 0 => fun _ _ _ _ r h => by simp [trickleref55_count.l0] at h
  | k + 1 => by
    have ih0 := trickleref55_count.mono_l k
    · intro y0 y1 y2 y3
      unfold trickleref55_count.l0
      repeat' first
      | (with_reducible exact ih0 _ _ _ _)
      | (with_reducible exact LeO.refl _)
      | (with_reducible exact LeO.none _)
      | (with_reducible refine LeO.ite ?_ ?_)
      | (with_reducible refine LeO.bind ?_ (fun _ => ?_))
      | exact ih0 _ _ _ _
      | exact LeO.none _
      | refine LeO.ite ?_ ?_
      | refine LeO.bind ?_ (fun _ => ?_)
theorem trickleref55_count.mono : ∀ a0 a1 k, LeO (trickleref55_count.f k a0 a1) (trickleref55_count.f (k + 1) a0 a1) := by
  intro a0 a1 k
  have ih0 := trickleref55_count.mono_l k
  unfold trickleref55_count.f
  repeat' first
      | (with_reducible exact ih0 _ _ _ _)
      | (with_reducible exact LeO.refl _)
      | (with_reducible exact LeO.none _)
      | (with_reducible refine LeO.ite ?_ ?_)
      | (with_reducible refine LeO.bind ?_ (fun _ => ?_))
      | exact ih0 _ _ _ _
      | exact LeO.none _
      | refine LeO.ite ?_ ?_
      | refine LeO.bind ?_ (fun _ => ?_)
set_option maxHeartbeats 8000000 in
set_option maxRecDepth 100000 in
theorem trickleref55_count.calls (k : Nat) (A0 : Option Addr) (c0 : Nat) (l0 : List (S55)) (a1 : Int) (r : Int) (w : World) (hr0 : Kd.C k55 w A0 l0.length l0) (hc0 : l0.length ≤ c0) (h : trickleref55_count.f k l0 a1 = some r) :
    Calls Tryd.prog 30 #[.slice A0 l0.length c0, .int .i64 a1] w fun e w' => e = .returned (.int .i64 r) ∧ Drawn0 w w' := by
  have HR0 := Aside0.mk hr0
  have HC0 := Aside0.mk hc0
  clear hr0 hc0
  have H : (trickleref55_count.l0 k l0 a1 0 0) = some r := h
  clear h
  have H' := Aside0.mk H
  clear H
  go_enter Tryd.func30, Tryd.ntmps30
  go_wp2
  go_loopg [5, 6] k (fun kq v5 v6 w' => ∃ (x5_1 : Int) (x6_1 : Int), v5 = .int .i64 x5_1 ∧ v6 = .int .i64 x6_1 ∧ Aside0 (trickleref55_count.l0 kq l0 a1 x5_1 x6_1 = some r) ∧ Aside0 (kq ≤ k) ∧ Drawn0 w w')
  case atStart => exact ⟨(0), (0), (by first | rfl | (simp; done) | (simp [*]; done)), (by first | rfl | (simp; done) | (simp [*]; done)), H', ⟨Nat.le_refl _⟩, by repeat (first | exact Drawn0.refl _ | apply Drawn0.step)⟩
  case round =>
    clear H'
    try clear p2
    obtain ⟨x5_1, x6_1, rfl, rfl, HA, HK1, ⟨m1, rfl⟩⟩ := hrel
    cases gk with
    | zero => exact absurd HA.out (by simp [trickleref55_count.l0])
    | succ k1 =>
      have H := HA.out
      clear HA
      simp only [trickleref55_count.l0] at H
      by_cases c3 : x6_1 < (l0.length : Int)
      · rw [if_pos c3] at H
        have c3b0 : decide (x6_1 < (l0.length : Int)) = true := decide_eq_true c3
        clear c3
        by_cases c4 : 0 ≤ x6_1
        · rw [if_pos c4] at H
          have c4b0 : decide (0 ≤ x6_1) = true := decide_eq_true c4
          clear c4
          by_cases c5 : ((rd_T55 l0 x6_1).f0) = a1
          · rw [if_pos c5] at H
            have c5b0 : (((rd_T55 l0 x6_1).f0) == a1) = true := beq_iff_eq.mpr c5
            have c5b1 : (((rd_T55 l0 x6_1).f0) != a1) = false := bne_eq_false_iff_eq.mpr c5
            clear c5
            have H' := Aside0.mk H
            clear H
            have p188 : 0 ≤ (x6_1 : Int) := of_decide_eq_true (by first | (with_reducible assumption) | assumption)
            have q188 : x6_1 < (l0.length : Int) := of_decide_eq_true (by first | (with_reducible assumption) | assumption)
            obtain ⟨ad188, e188, hx188_0, hx188_1, hx188_2, hx188_3, hx188_4, hx188_5⟩ := at_T55 HR0.out x6_1 p188 q188
            cases e188
            replace p188 := eq_true p188
            replace q188 := eq_true q188
            go_wp2
            go_roundg k1
            case measure => have := HK1.out; omega
            case rel => exact ⟨(wrap64 (x5_1 + 1)), (wrap64 (x6_1 + 1)), (by first | rfl | (simp; done) | (simp [*]; done)), (by first | rfl | (simp; done) | (simp [*]; done)), H', ⟨by have := HK1.out; omega⟩, by repeat (first | exact Drawn0.refl _ | apply Drawn0.step)⟩
          · rw [if_neg c5] at H
            have c5b0 : (((rd_T55 l0 x6_1).f0) == a1) = false := beq_eq_false_iff_ne.mpr c5
            have c5b1 : (((rd_T55 l0 x6_1).f0) != a1) = true := bne_iff_ne.mpr c5
            have H' := Aside0.mk H
            clear H
            have p188 : 0 ≤ (x6_1 : Int) := of_decide_eq_true (by first | (with_reducible assumption) | assumption)
            have q188 : x6_1 < (l0.length : Int) := of_decide_eq_true (by first | (with_reducible assumption) | assumption)
            obtain ⟨ad188, e188, hx188_0, hx188_1, hx188_2, hx188_3, hx188_4, hx188_5⟩ := at_T55 HR0.out x6_1 p188 q188
            cases e188
            replace p188 := eq_true p188
            replace q188 := eq_true q188
            go_wp2
            go_roundg k1
            case measure => have := HK1.out; omega
            case rel => exact ⟨(x5_1), (wrap64 (x6_1 + 1)), (by first | rfl | (simp; done) | (simp [*]; done)), (by first | rfl | (simp; done) | (simp [*]; done)), H', ⟨by have := HK1.out; omega⟩, by repeat (first | exact Drawn0.refl _ | apply Drawn0.step)⟩
        · rw [if_neg c4] at H
          exact absurd H (by simp)
      · rw [if_neg c3] at H
        have c3b0 : decide (x6_1 < (l0.length : Int)) = false := decide_eq_false c3
        clear c3
        obtain rfl := Option.some.inj H
        go_wp2
        go_ret
        exact ⟨by first | rfl | (simp; done) | (simp [*]; done), by repeat (first | exact Drawn0.refl _ | apply Drawn0.step)⟩

/-! ### trickleref55_Sequence: function 12 -/
mutual
def trickleref55_Sequence.l0 : Nat → List (S55) → List (S33) → Int → Option ((List (S33)))
  | 0, _, _, _ => none
  | k + 1, x0, x3, x4 => if x4 < (x0.length : Int) then (if 0 ≤ x4 then (if x4 ≤ (x0.length : Int) then ((trickleref55_indexed.f k (x0.take (x4 : Int).toNat)).bind fun bt193 => ((trickleref52_Valid.f k ((rd_T55 x0 x4).f0) ((rd_T55 x0 x4).f1) ((rd_T55 x0 x4).f2) ((rd_T55 x0 x4).f3) ((rd_T55 x0 x4).f4) ((rd_T55 x0 x4).f5)).bind fun t201 => (if t201 = true then ((trickleref55_allowed.f bt193.1 ((rd_T55 x0 x4).f0) ((rd_T55 x0 x4).f1) ((rd_T55 x0 x4).f2) ((rd_T55 x0 x4).f3) ((rd_T55 x0 x4).f4) ((rd_T55 x0 x4).f5)).bind fun t205 => (if t205 = true then (trickleref55_Sequence.j1 k x0 x3 x4 bt193.1 ((rd_T55 x0 x4).f0) ((rd_T55 x0 x4).f1) ((rd_T55 x0 x4).f2) ((rd_T55 x0 x4).f3) ((rd_T55 x0 x4).f4) ((rd_T55 x0 x4).f5)) else (if x3.length < 8796093022208 then (trickleref55_Sequence.j1 k x0 (x3 ++ [(⟨x4, 1⟩ : S33)]) x4 bt193.1 ((rd_T55 x0 x4).f0) ((rd_T55 x0 x4).f1) ((rd_T55 x0 x4).f2) ((rd_T55 x0 x4).f3) ((rd_T55 x0 x4).f4) ((rd_T55 x0 x4).f5)) else (none)))) else (if x3.length < 8796093022208 then (trickleref55_Sequence.l0 k x0 (x3 ++ [(⟨x4, 1⟩ : S33)]) (wrap64 (x4 + 1))) else (none))))) else (none)) else (none)) else (some x3)
def trickleref55_Sequence.j1 : Nat → List (S55) → List (S33) → Int → List (S55) → Int → Int → Int → Int → Int → Int → Option ((List (S33)))
  | 0, _, _, _, _, _, _, _, _, _, _ => none
  | k + 1, x0, x3, x4, x5, x201000, x201001, x201002, x201003, x201004, x201005 => if x201000 = 7 then ((trickleref55_count.f k x5 x201000).bind fun t209 => (trickleref55_Sequence.j2 k x0 x3 x4 (x201003 != t209))) else (if x201000 = 8 then ((trickleref55_count.f k x5 x201000).bind fun t210 => (trickleref55_Sequence.j2 k x0 x3 x4 (x201003 != t210))) else (trickleref55_Sequence.j2 k x0 x3 x4 false))
def trickleref55_Sequence.j2 : Nat → List (S55) → List (S33) → Int → Bool → Option ((List (S33)))
  | 0, _, _, _, _ => none
  | k + 1, x0, x3, x4, x58 => if x58 = true then (if x3.length < 8796093022208 then (trickleref55_Sequence.l0 k x0 (x3 ++ [(⟨x4, 2⟩ : S33)]) (wrap64 (x4 + 1))) else (none)) else (trickleref55_Sequence.l0 k x0 x3 (wrap64 (x4 + 1)))
end
def trickleref55_Sequence.f (k : Nat) (l0 : List (S55)) : Option ((List (S33))) := trickleref55_Sequence.l0 k l0 ([] : List (S33)) 0
theorem trickleref55_Sequence.mono_l : ∀ k, (∀ y0 y1 y2, LeO (trickleref55_Sequence.l0 k y0 y1 y2) (trickleref55_Sequence.l0 (k + 1) y0 y1 y2)) ∧ (∀ y0 y1 y2 y3 y4 y5 y6 y7 y8 y9, LeO (trickleref55_Sequence.j1 k y0 y1 y2 y3 y4 y5 y6 y7 y8 y9) (trickleref55_Sequence.j1 (k + 1) y0 y1 y2 y3 y4 y5 y6 y7 y8 y9)) ∧ (∀ y0 y1 y2 y3, LeO (trickleref55_Sequence.j2 k y0 y1 y2 y3) (trickleref55_Sequence.j2 (k + 1) y0 y1 y2 y3))
  | 0 => ⟨fun _ _ _ r h => by simp [trickleref55_Sequence.l0] at h, fun _ _ _ _ _ _ _ _ _ _ r h => by simp [trickleref55_Sequence.j1] at h, fun _ _ _ _ r h => by simp [trickleref55_Sequence.j2] at h⟩
  | k + 1 => by
    obtain ⟨ih0, ih1, ih2⟩ := trickleref55_Sequence.mono_l k
    refine ⟨?_, ?_, ?_⟩
    · intro y0 y1 y2
      unfold trickleref55_Sequence.l0
      repeat' first
      | (with_reducible exact ih0 _ _ _)
      | (with_reducible exact ih1 _ _ _ _ _ _ _ _ _ _)
      | (with_reducible exact ih2 _ _ _ _)
      | (with_reducible exact trickleref52_Valid.mono _ _ _ _ _ _ _)
      | (with_reducible exact trickleref55_count.mono _ _ _)
      | (with_reducible exact trickleref55_indexed.mono _ _)
      | (with_reducible exact LeO.refl _)
      | (with_reducible exact LeO.none _)
      | (with_reducible refine LeO.ite ?_ ?_)
      | (with_reducible refine LeO.bind ?_ (fun _ => ?_))
      | exact ih0 _ _ _
      | exact ih1 _ _ _ _ _ _ _ _ _ _
      | exact ih2 _ _ _ _
      | exact trickleref52_Valid.mono _ _ _ _ _ _ _
      | exact trickleref55_count.mono _ _ _
      | exact trickleref55_indexed.mono _ _
      | exact LeO.none _
      | refine LeO.ite ?_ ?_
      | refine LeO.bind ?_ (fun _ => ?_)
    · intro y0 y1 y2 y3 y4 y5 y6 y7 y8 y9
      unfold trickleref55_Sequence.j1
      repeat' first
      | (with_reducible exact ih0 _ _ _)
      | (with_reducible exact ih1 _ _ _ _ _ _ _ _ _ _)
      | (with_reducible exact ih2 _ _ _ _)
      | (with_reducible exact trickleref52_Valid.mono _ _ _ _ _ _ _)
      | (with_reducible exact trickleref55_count.mono _ _ _)
      | (with_reducible exact trickleref55_indexed.mono _ _)
      | (with_reducible exact LeO.refl _)
      | (with_reducible exact LeO.none _)
      | (with_reducible refine LeO.ite ?_ ?_)
      | (with_reducible refine LeO.bind ?_ (fun _ => ?_))
      | exact ih0 _ _ _
      | exact ih1 _ _ _ _ _ _ _ _ _ _
      | exact ih2 _ _ _ _
      | exact trickleref52_Valid.mono _ _ _ _ _ _ _
      | exact trickleref55_count.mono _ _ _
      | exact trickleref55_indexed.mono _ _
      | exact LeO.none _
      | refine LeO.ite ?_ ?_
      | refine LeO.bind ?_ (fun _ => ?_)
    · intro y0 y1 y2 y3
      unfold trickleref55_Sequence.j2
      repeat' first
      | (with_reducible exact ih0 _ _ _)
      | (with_reducible exact ih1 _ _ _ _ _ _ _ _ _ _)
      | (with_reducible exact ih2 _ _ _ _)
      | (with_reducible exact trickleref52_Valid.mono _ _ _ _ _ _ _)
      | (with_reducible exact trickleref55_count.mono _ _ _)
      | (with_reducible exact trickleref55_indexed.mono _ _)
      | (with_reducible exact LeO.refl _)
      | (with_reducible exact LeO.none _)
      | (with_reducible refine LeO.ite ?_ ?_)
      | (with_reducible refine LeO.bind ?_ (fun _ => ?_))
      | exact ih0 _ _ _
      | exact ih1 _ _ _ _ _ _ _ _ _ _
      | exact ih2 _ _ _ _
      | exact trickleref52_Valid.mono _ _ _ _ _ _ _
      | exact trickleref55_count.mono _ _ _
      | exact trickleref55_indexed.mono _ _
      | exact LeO.none _
      | refine LeO.ite ?_ ?_
      | refine LeO.bind ?_ (fun _ => ?_)
theorem trickleref55_Sequence.mono : ∀ a0 k, LeO (trickleref55_Sequence.f k a0) (trickleref55_Sequence.f (k + 1) a0) := by
  intro a0 k
  obtain ⟨ih0, ih1, ih2⟩ := trickleref55_Sequence.mono_l k
  unfold trickleref55_Sequence.f
  repeat' first
      | (with_reducible exact ih0 _ _ _)
      | (with_reducible exact ih1 _ _ _ _ _ _ _ _ _ _)
      | (with_reducible exact ih2 _ _ _ _)
      | (with_reducible exact trickleref52_Valid.mono _ _ _ _ _ _ _)
      | (with_reducible exact trickleref55_count.mono _ _ _)
      | (with_reducible exact trickleref55_indexed.mono _ _)
      | (with_reducible exact LeO.refl _)
      | (with_reducible exact LeO.none _)
      | (with_reducible refine LeO.ite ?_ ?_)
      | (with_reducible refine LeO.bind ?_ (fun _ => ?_))
      | exact ih0 _ _ _
      | exact ih1 _ _ _ _ _ _ _ _ _ _
      | exact ih2 _ _ _ _
      | exact trickleref52_Valid.mono _ _ _ _ _ _ _
      | exact trickleref55_count.mono _ _ _
      | exact trickleref55_indexed.mono _ _
      | exact LeO.none _
      | refine LeO.ite ?_ ?_
      | refine LeO.bind ?_ (fun _ => ?_)
set_option maxHeartbeats 8000000 in
set_option maxRecDepth 100000 in
theorem trickleref55_Sequence.calls (k : Nat) (A0 : Option Addr) (c0 : Nat) (l0 : List (S55)) (r : List (S33)) (w : World) (hr0 : Kd.C k55 w A0 l0.length l0) (hc0 : l0.length ≤ c0) (h : trickleref55_Sequence.f k l0 = some r) :
    Calls Tryd.prog 12 #[.slice A0 l0.length c0] w fun e w' => ∃ v0_ : Value, e = .returned (v0_) ∧ Kd.R k33 33 w' w.heap.size (fun _ => True) v0_ r ∧ Below w.heap.size w w' := by
  have hu55 := Tryd.underlying55
  have hu33 := Tryd.underlying33
  have HR0 := Aside0.mk hr0
  have HC0 := Aside0.mk hc0
  clear hr0 hc0
  have HB := Aside0.mk (Below.refl w.heap.size w)
  have H : (trickleref55_Sequence.l0 k l0 ([] : List (S33)) 0) = some r := h
  clear h
  have H' := Aside0.mk H
  clear H
  go_enter Tryd.func12, Tryd.ntmps12
  go_wp2
  repeat (go_quiet (fail); try go_wp2)
  go_loopg [3, 4] k (fun kq v3 v4 w' => ∃ (x3_1 : List (S33)) (x4_1 : Int), v4 = .int .i64 x4_1 ∧ Aside0 (trickleref55_Sequence.l0 kq l0 x3_1 x4_1 = some r) ∧ Aside0 (kq ≤ k) ∧ Aside0 (Kd.R k33 33 w' w.heap.size (fun _ => True) v3 x3_1) ∧ Aside0 (Below w.heap.size w w'))
  case atStart => exact ⟨(([] : List (S33))), (0), (by first | rfl | (simp; done) | (simp [*]; done)), H', ⟨Nat.le_refl _⟩, ⟨by first | exact Kd.R_nil _ _ _ _ _ | exact Kd.N_nil _ _ _ _ _ | exact Kd.V_nil _ _ _ _ _ | exact Kd.Q_nil _ _ _ _ _ | exact Kd.S_nil _ _ _ _ _⟩, ⟨by repeat (first | (with_reducible first | exact HB.out | apply below_alloc | apply pw_below_drewN | apply below_drew1) | exact HB.out)⟩⟩
  case round =>
    clear H'
    try clear c1
    obtain ⟨x3_1, x4_1, rfl, HA, HK1, HO_3, HB⟩ := hrel
    cases gk with
    | zero => exact absurd HA.out (by simp [trickleref55_Sequence.l0])
    | succ k1 =>
      have H := HA.out
      clear HA
      simp only [trickleref55_Sequence.l0] at H
      by_cases c2 : x4_1 < (l0.length : Int)
      · rw [if_pos c2] at H
        have c2b0 : decide (x4_1 < (l0.length : Int)) = true := decide_eq_true c2
        clear c2
        by_cases c3 : 0 ≤ x4_1
        · rw [if_pos c3] at H
          have c3b0 := eq_true c3
          have c3b1 : decide (0 ≤ x4_1) = true := decide_eq_true c3
          clear c3
          by_cases c4 : x4_1 ≤ (l0.length : Int)
          · rw [if_pos c4] at H
            have c4b0 := eq_true c4
            have c4b1 : decide (x4_1 ≤ (l0.length : Int)) = true := decide_eq_true c4
            clear c4
            obtain ⟨y189, hy189⟩ : ∃ y_ : List (S55), y_ = (l0.take (x4_1 : Int).toNat) := ⟨_, rfl⟩
            replace H : ((trickleref55_indexed.f k1 y189).bind fun bt193 => ((trickleref52_Valid.f k1 ((rd_T55 l0 x4_1).f0) ((rd_T55 l0 x4_1).f1) ((rd_T55 l0 x4_1).f2) ((rd_T55 l0 x4_1).f3) ((rd_T55 l0 x4_1).f4) ((rd_T55 l0 x4_1).f5)).bind fun t201 => (if t201 = true then ((trickleref55_allowed.f bt193.1 ((rd_T55 l0 x4_1).f0) ((rd_T55 l0 x4_1).f1) ((rd_T55 l0 x4_1).f2) ((rd_T55 l0 x4_1).f3) ((rd_T55 l0 x4_1).f4) ((rd_T55 l0 x4_1).f5)).bind fun t205 => (if t205 = true then (trickleref55_Sequence.j1 k1 l0 x3_1 x4_1 bt193.1 ((rd_T55 l0 x4_1).f0) ((rd_T55 l0 x4_1).f1) ((rd_T55 l0 x4_1).f2) ((rd_T55 l0 x4_1).f3) ((rd_T55 l0 x4_1).f4) ((rd_T55 l0 x4_1).f5)) else (if x3_1.length < 8796093022208 then (trickleref55_Sequence.j1 k1 l0 (x3_1 ++ [(⟨x4_1, 1⟩ : S33)]) x4_1 bt193.1 ((rd_T55 l0 x4_1).f0) ((rd_T55 l0 x4_1).f1) ((rd_T55 l0 x4_1).f2) ((rd_T55 l0 x4_1).f3) ((rd_T55 l0 x4_1).f4) ((rd_T55 l0 x4_1).f5)) else (none)))) else (if x3_1.length < 8796093022208 then (trickleref55_Sequence.l0 k1 l0 (x3_1 ++ [(⟨x4_1, 1⟩ : S33)]) (wrap64 (x4_1 + 1))) else (none))))) = some r := by first | (rw [hy189]; with_reducible exact H) | (have H2_ := (Option.bind_some _ _).symm.trans H; rw [hy189]; with_reducible exact H2_) | (have H2_ := (Option.bind_some _ _).symm.trans H; with_reducible exact H2_) | with_reducible exact H | (rw [hy189]; exact H) | exact H
            have Ny189 := Aside0.mk hy189
            clear hy189
            replace H := Option.bind_eq_some_iff.mp H
            obtain ⟨⟨t193, t194⟩, A50, H⟩ := H
            replace H : ((trickleref52_Valid.f k1 ((rd_T55 l0 x4_1).f0) ((rd_T55 l0 x4_1).f1) ((rd_T55 l0 x4_1).f2) ((rd_T55 l0 x4_1).f3) ((rd_T55 l0 x4_1).f4) ((rd_T55 l0 x4_1).f5)).bind fun t201 => (if t201 = true then ((trickleref55_allowed.f t193 ((rd_T55 l0 x4_1).f0) ((rd_T55 l0 x4_1).f1) ((rd_T55 l0 x4_1).f2) ((rd_T55 l0 x4_1).f3) ((rd_T55 l0 x4_1).f4) ((rd_T55 l0 x4_1).f5)).bind fun t205 => (if t205 = true then (trickleref55_Sequence.j1 k1 l0 x3_1 x4_1 t193 ((rd_T55 l0 x4_1).f0) ((rd_T55 l0 x4_1).f1) ((rd_T55 l0 x4_1).f2) ((rd_T55 l0 x4_1).f3) ((rd_T55 l0 x4_1).f4) ((rd_T55 l0 x4_1).f5)) else (if x3_1.length < 8796093022208 then (trickleref55_Sequence.j1 k1 l0 (x3_1 ++ [(⟨x4_1, 1⟩ : S33)]) x4_1 t193 ((rd_T55 l0 x4_1).f0) ((rd_T55 l0 x4_1).f1) ((rd_T55 l0 x4_1).f2) ((rd_T55 l0 x4_1).f3) ((rd_T55 l0 x4_1).f4) ((rd_T55 l0 x4_1).f5)) else (none)))) else (if x3_1.length < 8796093022208 then (trickleref55_Sequence.l0 k1 l0 (x3_1 ++ [(⟨x4_1, 1⟩ : S33)]) (wrap64 (x4_1 + 1))) else (none)))) = some r := H
            have A5 := Aside0.mk A50
            clear A50
            replace H := Option.bind_eq_some_iff.mp H
            obtain ⟨t201, A60, H⟩ := H
            replace H : (if t201 = true then ((trickleref55_allowed.f t193 ((rd_T55 l0 x4_1).f0) ((rd_T55 l0 x4_1).f1) ((rd_T55 l0 x4_1).f2) ((rd_T55 l0 x4_1).f3) ((rd_T55 l0 x4_1).f4) ((rd_T55 l0 x4_1).f5)).bind fun t205 => (if t205 = true then (trickleref55_Sequence.j1 k1 l0 x3_1 x4_1 t193 ((rd_T55 l0 x4_1).f0) ((rd_T55 l0 x4_1).f1) ((rd_T55 l0 x4_1).f2) ((rd_T55 l0 x4_1).f3) ((rd_T55 l0 x4_1).f4) ((rd_T55 l0 x4_1).f5)) else (if x3_1.length < 8796093022208 then (trickleref55_Sequence.j1 k1 l0 (x3_1 ++ [(⟨x4_1, 1⟩ : S33)]) x4_1 t193 ((rd_T55 l0 x4_1).f0) ((rd_T55 l0 x4_1).f1) ((rd_T55 l0 x4_1).f2) ((rd_T55 l0 x4_1).f3) ((rd_T55 l0 x4_1).f4) ((rd_T55 l0 x4_1).f5)) else (none)))) else (if x3_1.length < 8796093022208 then (trickleref55_Sequence.l0 k1 l0 (x3_1 ++ [(⟨x4_1, 1⟩ : S33)]) (wrap64 (x4_1 + 1))) else (none))) = some r := H
            have A6 := Aside0.mk A60
            clear A60
            by_cases c7 : t201 = true
            · subst c7
              have H1 : ((trickleref55_allowed.f t193 ((rd_T55 l0 x4_1).f0) ((rd_T55 l0 x4_1).f1) ((rd_T55 l0 x4_1).f2) ((rd_T55 l0 x4_1).f3) ((rd_T55 l0 x4_1).f4) ((rd_T55 l0 x4_1).f5)).bind fun t205 => (if t205 = true then (trickleref55_Sequence.j1 k1 l0 x3_1 x4_1 t193 ((rd_T55 l0 x4_1).f0) ((rd_T55 l0 x4_1).f1) ((rd_T55 l0 x4_1).f2) ((rd_T55 l0 x4_1).f3) ((rd_T55 l0 x4_1).f4) ((rd_T55 l0 x4_1).f5)) else (if x3_1.length < 8796093022208 then (trickleref55_Sequence.j1 k1 l0 (x3_1 ++ [(⟨x4_1, 1⟩ : S33)]) x4_1 t193 ((rd_T55 l0 x4_1).f0) ((rd_T55 l0 x4_1).f1) ((rd_T55 l0 x4_1).f2) ((rd_T55 l0 x4_1).f3) ((rd_T55 l0 x4_1).f4) ((rd_T55 l0 x4_1).f5)) else (none)))) = some r := by rw [if_pos rfl] at H; exact H
              clear H
              have H := H1
              clear H1
              replace H := Option.bind_eq_some_iff.mp H
              obtain ⟨t205, A80, H⟩ := H
              replace H : (if t205 = true then (trickleref55_Sequence.j1 k1 l0 x3_1 x4_1 t193 ((rd_T55 l0 x4_1).f0) ((rd_T55 l0 x4_1).f1) ((rd_T55 l0 x4_1).f2) ((rd_T55 l0 x4_1).f3) ((rd_T55 l0 x4_1).f4) ((rd_T55 l0 x4_1).f5)) else (if x3_1.length < 8796093022208 then (trickleref55_Sequence.j1 k1 l0 (x3_1 ++ [(⟨x4_1, 1⟩ : S33)]) x4_1 t193 ((rd_T55 l0 x4_1).f0) ((rd_T55 l0 x4_1).f1) ((rd_T55 l0 x4_1).f2) ((rd_T55 l0 x4_1).f3) ((rd_T55 l0 x4_1).f4) ((rd_T55 l0 x4_1).f5)) else (none))) = some r := H
              have A8 := Aside0.mk A80
              clear A80
              have HC9 := Aside0.mk H
              clear H
              have q10 : (x4_1 : Int) ≤ ((l0.length : Int) : Int) := of_decide_eq_true (by first | (with_reducible assumption) | assumption)
              obtain ⟨i010, hi010, _, hsz10, _⟩ := info_parts info55
              have hroom10 : l0.length ≤ c0 := HC0.out
              have hC10 : Kd.C k55 _ A0 l0.length l0 := HR0.out
              have hcut10 := cut_to (P := Tryd.prog) 22 55 .i64 Tryd.underlying22 hi010 A0 l0.length c0 x4_1 (of_decide_eq_true (by first | (with_reducible assumption) | assumption)) q10 hroom10
              have hr10 := Kd.C_take (m := (x4_1 : Int).toNat) hC10 (by omega)
              have hy10 : y189.length = (x4_1 : Int).toNat := (by rw [Ny189.out, List.length_take]; omega)
              rw [← Ny189.out] at hr10
              rw [← hy10] at hcut10
              have HR192 := Aside0.mk hr10
              have HC192 := Aside0.mk (show y189.length ≤ c0 from by omega)
              clear hr10 hC10 hroom10 hi010 hsz10
              have KY10 := Aside0.mk hy10
              clear hy10
              replace q10 := eq_true q10
              go_upto_if 36 with (first | (go_at_call 27; (with_reducible refine (trickleref55_indexed.calls k1 _ _ y189 t193 t194 _ ?side1 ?side2 A5.out).mono ?_); (case side1 => repeat (first | exact (Kd.C_below HR192.out HB.out) | (with_reducible refine Kd.C_alloc ?_ _) | (with_reducible refine Kd.C_drewN ?_ _) | (with_reducible refine Kd.C_drew ?_))); (case side2 => exact HC192.out); rintro e w11 ⟨v195, v197, rfl, ho0, ho1, hb⟩; have n0_ := Aside0.mk (Kd.R_below (by (with_reducible repeat (first | apply Kd.R_alloc | apply Kd.R_drewN | apply Kd.R_drew)); exact HO_3.out) hb); have n1_ := Aside0.mk (Kd.R_lower ho0 (below_size (by repeat (first | (with_reducible first | exact HB.out | apply below_alloc | apply pw_below_drewN | apply below_drew1) | exact HB.out)))); have n2_ := Aside0.mk (Kd.R_lower ho1 (below_size (by repeat (first | (with_reducible first | exact HB.out | apply below_alloc | apply pw_below_drewN | apply below_drew1) | exact HB.out)))); have n3_ := Aside0.mk (below_step (by repeat (first | (with_reducible first | exact HB.out | apply below_alloc | apply pw_below_drewN | apply below_drew1) | exact HB.out)) hb); clear HO_3; clear HB; have HO_3 := n0_; have HO196 := n1_; have HO198 := n2_; have HB := n3_; clear n0_ n1_ n2_ n3_; (try clear hb); (try clear hb2); (try clear hk); (try clear hi); (try clear ho0); (try clear ho1); have p199 : 0 ≤ (x4_1 : Int) := of_decide_eq_true (by first | (with_reducible assumption) | assumption); have q199 : x4_1 < (l0.length : Int) := of_decide_eq_true (by first | (with_reducible assumption) | assumption); obtain ⟨ad199, e199, hx199_0, hx199_1, hx199_2, hx199_3, hx199_4, hx199_5⟩ := at_T55 HR0.out x4_1 p199 q199; cases e199; replace hx199_0 := (HB.out.cell (World.block_lt_of_cell? w _ hx199_0)).trans hx199_0; replace hx199_1 := (HB.out.cell (World.block_lt_of_cell? w _ hx199_1)).trans hx199_1; replace hx199_2 := (HB.out.cell (World.block_lt_of_cell? w _ hx199_2)).trans hx199_2; replace hx199_3 := (HB.out.cell (World.block_lt_of_cell? w _ hx199_3)).trans hx199_3; replace hx199_4 := (HB.out.cell (World.block_lt_of_cell? w _ hx199_4)).trans hx199_4; replace hx199_5 := (HB.out.cell (World.block_lt_of_cell? w _ hx199_5)).trans hx199_5; replace p199 := eq_true p199; replace q199 := eq_true q199) | ((with_reducible refine gate_dst (N := 7) rfl ?_); refine box_event ?hg (N := 7) ?hd (cs := #[.int .i64 0, .int .i64 0, .int .i64 0, .int .i64 0, .int .i16 0, .int .i64 0]) (t := 55) ?hr ?_; (case hd => rfl); (case hg => rfl); (case hr => first | (go_simp; done) | (go_simp; rfl)); intro gb200 hg w12 hbox hb; have n0_ := Aside0.mk (Kd.R_below (by (with_reducible repeat (first | apply Kd.R_alloc | apply Kd.R_drewN | apply Kd.R_drew)); exact HO_3.out) hb); have n1_ := Aside0.mk (Kd.R_below (Kd.R_elderB (by (with_reducible repeat (first | apply Kd.R_alloc | apply Kd.R_drewN | apply Kd.R_drew)); exact HO196.out) gb200 (Nat.le_of_eq hg.symm)) hb); have n2_ := Aside0.mk (Kd.R_below (by (with_reducible repeat (first | apply Kd.R_alloc | apply Kd.R_drewN | apply Kd.R_drew)); exact HO198.out) hb); have n3_ := Aside0.mk (below_step (by repeat (first | (with_reducible first | exact HB.out | apply below_alloc | apply pw_below_drewN | apply below_drew1) | exact HB.out)) hb); have n4_ := Aside0.mk (hbox); have n5_ := Aside0.mk ((by rw [hg]; exact (below_size (by repeat (first | (with_reducible first | exact HB.out | apply below_alloc | apply pw_below_drewN | apply below_drew1) | exact HB.out))) : w.heap.size ≤ gb200)); have n6_ := Aside0.mk ((by rw [hg]; exact (below_size (by repeat (first | (with_reducible first | exact HB.out | apply below_alloc | apply pw_below_drewN | apply below_drew1) | exact HB.out))) : w.heap.size ≤ gb200)); clear HO_3; clear HO196; clear HO198; clear HB; have HO_3 := n0_; have HO196 := n1_; have HO198 := n2_; have HB := n3_; have BK200 := n4_; have GW200 := n5_; have GE200 := n6_; clear n0_ n1_ n2_ n3_ n4_ n5_ n6_; clear hb hbox hg; have hcz13_0 : w12.cell? ⟨gb200, 0, none⟩ = some (.int .i64 0) := (blk_cell BK200.out 0).trans rfl; have hcz13_1 : w12.cell? ⟨gb200, 1, none⟩ = some (.int .i64 0) := (blk_cell BK200.out 1).trans rfl; have hcz13_2 : w12.cell? ⟨gb200, 2, none⟩ = some (.int .i64 0) := (blk_cell BK200.out 2).trans rfl; have hcz13_3 : w12.cell? ⟨gb200, 3, none⟩ = some (.int .i64 0) := (blk_cell BK200.out 3).trans rfl; have hcz13_4 : w12.cell? ⟨gb200, 4, none⟩ = some (.int .i16 0) := (blk_cell BK200.out 4).trans rfl; have hcz13_5 : w12.cell? ⟨gb200, 5, none⟩ = some (.int .i64 0) := (blk_cell BK200.out 5).trans rfl; have hfz13_0 := blk_frozen BK200.out 0; have hfz13_1 := blk_frozen BK200.out 1; have hfz13_2 := blk_frozen BK200.out 2; have hfz13_3 := blk_frozen BK200.out 3; have hfz13_4 := blk_frozen BK200.out 4; have hfz13_5 := blk_frozen BK200.out 5) | (go_at_call 28; (with_reducible refine (trickleref52_Valid.calls k1 ((rd_T55 l0 x4_1).f0) ((rd_T55 l0 x4_1).f1) ((rd_T55 l0 x4_1).f2) ((rd_T55 l0 x4_1).f3) ((rd_T55 l0 x4_1).f4) ((rd_T55 l0 x4_1).f5) true _ A6.out).mono ?_); rintro e w14 ⟨rfl, hb⟩; have n0_ := Aside0.mk (Kd.R_below (by (with_reducible repeat (first | apply Kd.R_alloc | apply Kd.R_drewN | apply Kd.R_drew)); exact (Kd.R_mono (Kd.R_far (p := ⟨gb200, 5, none⟩) (Kd.R_far (p := ⟨gb200, 4, none⟩) (Kd.R_far (p := ⟨gb200, 3, none⟩) (Kd.R_far (p := ⟨gb200, 2, none⟩) (Kd.R_far (p := ⟨gb200, 1, none⟩) (Kd.R_far (p := ⟨gb200, 0, none⟩) (Kd.R_types HO_3.out BK200.out (by decide)) (fun _ hk => hk.2) (.int .i64 ((rd_T55 l0 x4_1).f0))) (fun _ hk => hk.2) (.int .i64 ((rd_T55 l0 x4_1).f1))) (fun _ hk => hk.2) (.int .i64 ((rd_T55 l0 x4_1).f2))) (fun _ hk => hk.2) (.int .i64 ((rd_T55 l0 x4_1).f3))) (fun _ hk => hk.2) (.int .i16 ((rd_T55 l0 x4_1).f4))) (fun _ hk => hk.2) (.int .i64 ((rd_T55 l0 x4_1).f5))) (fun _ h_ => h_.1))) hb); have n1_ := Aside0.mk (Kd.R_below (by (with_reducible repeat (first | apply Kd.R_alloc | apply Kd.R_drewN | apply Kd.R_drew)); exact (Kd.R_mono (Kd.R_far (p := ⟨gb200, 5, none⟩) (Kd.R_far (p := ⟨gb200, 4, none⟩) (Kd.R_far (p := ⟨gb200, 3, none⟩) (Kd.R_far (p := ⟨gb200, 2, none⟩) (Kd.R_far (p := ⟨gb200, 1, none⟩) (Kd.R_far (p := ⟨gb200, 0, none⟩) (Kd.R_mono HO196.out (fun k_ hk => (⟨hk, hk.2⟩ : _ ∧ k_ ≠ gb200))) (fun _ hk => hk.2) (.int .i64 ((rd_T55 l0 x4_1).f0))) (fun _ hk => hk.2) (.int .i64 ((rd_T55 l0 x4_1).f1))) (fun _ hk => hk.2) (.int .i64 ((rd_T55 l0 x4_1).f2))) (fun _ hk => hk.2) (.int .i64 ((rd_T55 l0 x4_1).f3))) (fun _ hk => hk.2) (.int .i16 ((rd_T55 l0 x4_1).f4))) (fun _ hk => hk.2) (.int .i64 ((rd_T55 l0 x4_1).f5))) (fun _ h_ => h_.1))) hb); have n2_ := Aside0.mk (Kd.R_below (by (with_reducible repeat (first | apply Kd.R_alloc | apply Kd.R_drewN | apply Kd.R_drew)); exact (Kd.R_mono (Kd.R_far (p := ⟨gb200, 5, none⟩) (Kd.R_far (p := ⟨gb200, 4, none⟩) (Kd.R_far (p := ⟨gb200, 3, none⟩) (Kd.R_far (p := ⟨gb200, 2, none⟩) (Kd.R_far (p := ⟨gb200, 1, none⟩) (Kd.R_far (p := ⟨gb200, 0, none⟩) (Kd.R_types HO198.out BK200.out (by decide)) (fun _ hk => hk.2) (.int .i64 ((rd_T55 l0 x4_1).f0))) (fun _ hk => hk.2) (.int .i64 ((rd_T55 l0 x4_1).f1))) (fun _ hk => hk.2) (.int .i64 ((rd_T55 l0 x4_1).f2))) (fun _ hk => hk.2) (.int .i64 ((rd_T55 l0 x4_1).f3))) (fun _ hk => hk.2) (.int .i16 ((rd_T55 l0 x4_1).f4))) (fun _ hk => hk.2) (.int .i64 ((rd_T55 l0 x4_1).f5))) (fun _ h_ => h_.1))) hb); have n3_ := Aside0.mk (blk_below (g := gb200) (o := .cells #[.int .i64 ((rd_T55 l0 x4_1).f0), .int .i64 ((rd_T55 l0 x4_1).f1), .int .i64 ((rd_T55 l0 x4_1).f2), .int .i64 ((rd_T55 l0 x4_1).f3), .int .i16 ((rd_T55 l0 x4_1).f4), .int .i64 ((rd_T55 l0 x4_1).f5)] 55 (0, 0)) (by (with_reducible repeat (first | refine blk_drewN ?_ _ | refine blk_drew ?_ | refine blk_alloc ?_ _)); refine blk_put (cs := #[.int .i64 ((rd_T55 l0 x4_1).f0), .int .i64 ((rd_T55 l0 x4_1).f1), .int .i64 ((rd_T55 l0 x4_1).f2), .int .i64 ((rd_T55 l0 x4_1).f3), .int .i16 ((rd_T55 l0 x4_1).f4), .int .i64 0]) ?_ 5 _ rfl; (with_reducible repeat (first | refine blk_drewN ?_ _ | refine blk_drew ?_ | refine blk_alloc ?_ _)); refine blk_put (cs := #[.int .i64 ((rd_T55 l0 x4_1).f0), .int .i64 ((rd_T55 l0 x4_1).f1), .int .i64 ((rd_T55 l0 x4_1).f2), .int .i64 ((rd_T55 l0 x4_1).f3), .int .i16 0, .int .i64 0]) ?_ 4 _ rfl; (with_reducible repeat (first | refine blk_drewN ?_ _ | refine blk_drew ?_ | refine blk_alloc ?_ _)); refine blk_put (cs := #[.int .i64 ((rd_T55 l0 x4_1).f0), .int .i64 ((rd_T55 l0 x4_1).f1), .int .i64 ((rd_T55 l0 x4_1).f2), .int .i64 0, .int .i16 0, .int .i64 0]) ?_ 3 _ rfl; (with_reducible repeat (first | refine blk_drewN ?_ _ | refine blk_drew ?_ | refine blk_alloc ?_ _)); refine blk_put (cs := #[.int .i64 ((rd_T55 l0 x4_1).f0), .int .i64 ((rd_T55 l0 x4_1).f1), .int .i64 0, .int .i64 0, .int .i16 0, .int .i64 0]) ?_ 2 _ rfl; (with_reducible repeat (first | refine blk_drewN ?_ _ | refine blk_drew ?_ | refine blk_alloc ?_ _)); refine blk_put (cs := #[.int .i64 ((rd_T55 l0 x4_1).f0), .int .i64 0, .int .i64 0, .int .i64 0, .int .i16 0, .int .i64 0]) ?_ 1 _ rfl; (with_reducible repeat (first | refine blk_drewN ?_ _ | refine blk_drew ?_ | refine blk_alloc ?_ _)); refine blk_put (cs := #[.int .i64 0, .int .i64 0, .int .i64 0, .int .i64 0, .int .i16 0, .int .i64 0]) ?_ 0 _ rfl; (with_reducible repeat (first | refine blk_drewN ?_ _ | refine blk_drew ?_ | refine blk_alloc ?_ _)); exact BK200.out) hb); have n4_ := Aside0.mk (below_step (by repeat (first | (with_reducible first | exact HB.out | apply below_alloc | apply pw_below_drewN | apply below_drew1 | refine below_set ?_ GE200.out) | exact HB.out)) hb); clear HO_3; clear HO196; clear HO198; clear BK200; clear HB; have HO_3 := n0_; have HO196 := n1_; have HO198 := n2_; have BK200 := n3_; have HB := n4_; clear n0_ n1_ n2_ n3_ n4_; (try clear hb); (try clear hb2); (try clear hk); (try clear hi); have hcz15_0 : w14.cell? ⟨gb200, 0, none⟩ = some (.int .i64 ((rd_T55 l0 x4_1).f0)) := (blk_cell BK200.out 0).trans rfl; have hcz15_1 : w14.cell? ⟨gb200, 1, none⟩ = some (.int .i64 ((rd_T55 l0 x4_1).f1)) := (blk_cell BK200.out 1).trans rfl; have hcz15_2 : w14.cell? ⟨gb200, 2, none⟩ = some (.int .i64 ((rd_T55 l0 x4_1).f2)) := (blk_cell BK200.out 2).trans rfl; have hcz15_3 : w14.cell? ⟨gb200, 3, none⟩ = some (.int .i64 ((rd_T55 l0 x4_1).f3)) := (blk_cell BK200.out 3).trans rfl; have hcz15_4 : w14.cell? ⟨gb200, 4, none⟩ = some (.int .i16 ((rd_T55 l0 x4_1).f4)) := (blk_cell BK200.out 4).trans rfl; have hcz15_5 : w14.cell? ⟨gb200, 5, none⟩ = some (.int .i64 ((rd_T55 l0 x4_1).f5)) := (blk_cell BK200.out 5).trans rfl; have hfz15_0 := blk_frozen BK200.out 0; have hfz15_1 := blk_frozen BK200.out 1; have hfz15_2 := blk_frozen BK200.out 2; have hfz15_3 := blk_frozen BK200.out 3; have hfz15_4 := blk_frozen BK200.out 4; have hfz15_5 := blk_frozen BK200.out 5; obtain ⟨Ao16, co16, eo16⟩ := Kd.R_slice HO196.out; subst eo16) | (go_at_call 29; (with_reducible refine (trickleref55_allowed.calls _ _ t193 ((rd_T55 l0 x4_1).f0) ((rd_T55 l0 x4_1).f1) ((rd_T55 l0 x4_1).f2) ((rd_T55 l0 x4_1).f3) ((rd_T55 l0 x4_1).f4) ((rd_T55 l0 x4_1).f5) t205 _ ?side1 ?side2 A8.out).mono ?_); (case side1 => repeat (first | exact (Kd.R_reads' HO196.out).2.2 | (with_reducible refine Kd.C_alloc ?_ _) | (with_reducible refine Kd.C_drewN ?_ _) | (with_reducible refine Kd.C_drew ?_))); (case side2 => exact (Kd.R_reads' HO196.out).2.1); rintro e w17 ⟨rfl, hb⟩; have n0_ := Aside0.mk (Kd.R_below (by (with_reducible repeat (first | apply Kd.R_alloc | apply Kd.R_drewN | apply Kd.R_drew)); exact HO_3.out) hb); have n1_ := Aside0.mk (Kd.R_below (by (with_reducible repeat (first | apply Kd.R_alloc | apply Kd.R_drewN | apply Kd.R_drew)); exact HO196.out) hb); have n2_ := Aside0.mk (Kd.R_below (by (with_reducible repeat (first | apply Kd.R_alloc | apply Kd.R_drewN | apply Kd.R_drew)); exact HO198.out) hb); have n3_ := Aside0.mk (blk_below (g := gb200) (o := .cells #[.int .i64 ((rd_T55 l0 x4_1).f0), .int .i64 ((rd_T55 l0 x4_1).f1), .int .i64 ((rd_T55 l0 x4_1).f2), .int .i64 ((rd_T55 l0 x4_1).f3), .int .i16 ((rd_T55 l0 x4_1).f4), .int .i64 ((rd_T55 l0 x4_1).f5)] 55 (0, 0)) (by (with_reducible repeat (first | refine blk_drewN ?_ _ | refine blk_drew ?_ | refine blk_alloc ?_ _)); exact BK200.out) hb); have n4_ := Aside0.mk (below_step (by repeat (first | (with_reducible first | exact HB.out | apply below_alloc | apply pw_below_drewN | apply below_drew1 | refine below_set ?_ GE200.out) | exact HB.out)) hb); clear HO_3; clear HO196; clear HO198; clear BK200; clear HB; have HO_3 := n0_; have HO196 := n1_; have HO198 := n2_; have BK200 := n3_; have HB := n4_; clear n0_ n1_ n2_ n3_ n4_; (try clear hb); (try clear hb2); (try clear hk); (try clear hi)))
              repeat (go_quiet (first | (go_at_call 27; (with_reducible refine (trickleref55_indexed.calls k1 _ _ y189 t193 t194 _ ?side1 ?side2 A5.out).mono ?_); (case side1 => repeat (first | exact (Kd.C_below HR192.out HB.out) | (with_reducible refine Kd.C_alloc ?_ _) | (with_reducible refine Kd.C_drewN ?_ _) | (with_reducible refine Kd.C_drew ?_))); (case side2 => exact HC192.out); rintro e w11 ⟨v195, v197, rfl, ho0, ho1, hb⟩; have n0_ := Aside0.mk (Kd.R_below (by (with_reducible repeat (first | apply Kd.R_alloc | apply Kd.R_drewN | apply Kd.R_drew)); exact HO_3.out) hb); have n1_ := Aside0.mk (Kd.R_lower ho0 (below_size (by repeat (first | (with_reducible first | exact HB.out | apply below_alloc | apply pw_below_drewN | apply below_drew1) | exact HB.out)))); have n2_ := Aside0.mk (Kd.R_lower ho1 (below_size (by repeat (first | (with_reducible first | exact HB.out | apply below_alloc | apply pw_below_drewN | apply below_drew1) | exact HB.out)))); have n3_ := Aside0.mk (below_step (by repeat (first | (with_reducible first | exact HB.out | apply below_alloc | apply pw_below_drewN | apply below_drew1) | exact HB.out)) hb); clear HO_3; clear HB; have HO_3 := n0_; have HO196 := n1_; have HO198 := n2_; have HB := n3_; clear n0_ n1_ n2_ n3_; (try clear hb); (try clear hb2); (try clear hk); (try clear hi); (try clear ho0); (try clear ho1); have p199 : 0 ≤ (x4_1 : Int) := of_decide_eq_true (by first | (with_reducible assumption) | assumption); have q199 : x4_1 < (l0.length : Int) := of_decide_eq_true (by first | (with_reducible assumption) | assumption); obtain ⟨ad199, e199, hx199_0, hx199_1, hx199_2, hx199_3, hx199_4, hx199_5⟩ := at_T55 HR0.out x4_1 p199 q199; cases e199; replace hx199_0 := (HB.out.cell (World.block_lt_of_cell? w _ hx199_0)).trans hx199_0; replace hx199_1 := (HB.out.cell (World.block_lt_of_cell? w _ hx199_1)).trans hx199_1; replace hx199_2 := (HB.out.cell (World.block_lt_of_cell? w _ hx199_2)).trans hx199_2; replace hx199_3 := (HB.out.cell (World.block_lt_of_cell? w _ hx199_3)).trans hx199_3; replace hx199_4 := (HB.out.cell (World.block_lt_of_cell? w _ hx199_4)).trans hx199_4; replace hx199_5 := (HB.out.cell (World.block_lt_of_cell? w _ hx199_5)).trans hx199_5; replace p199 := eq_true p199; replace q199 := eq_true q199) | ((with_reducible refine gate_dst (N := 7) rfl ?_); refine box_event ?hg (N := 7) ?hd (cs := #[.int .i64 0, .int .i64 0, .int .i64 0, .int .i64 0, .int .i16 0, .int .i64 0]) (t := 55) ?hr ?_; (case hd => rfl); (case hg => rfl); (case hr => first | (go_simp; done) | (go_simp; rfl)); intro gb200 hg w12 hbox hb; have n0_ := Aside0.mk (Kd.R_below (by (with_reducible repeat (first | apply Kd.R_alloc | apply Kd.R_drewN | apply Kd.R_drew)); exact HO_3.out) hb); have n1_ := Aside0.mk (Kd.R_below (Kd.R_elderB (by (with_reducible repeat (first | apply Kd.R_alloc | apply Kd.R_drewN | apply Kd.R_drew)); exact HO196.out) gb200 (Nat.le_of_eq hg.symm)) hb); have n2_ := Aside0.mk (Kd.R_below (by (with_reducible repeat (first | apply Kd.R_alloc | apply Kd.R_drewN | apply Kd.R_drew)); exact HO198.out) hb); have n3_ := Aside0.mk (below_step (by repeat (first | (with_reducible first | exact HB.out | apply below_alloc | apply pw_below_drewN | apply below_drew1) | exact HB.out)) hb); have n4_ := Aside0.mk (hbox); have n5_ := Aside0.mk ((by rw [hg]; exact (below_size (by repeat (first | (with_reducible first | exact HB.out | apply below_alloc | apply pw_below_drewN | apply below_drew1) | exact HB.out))) : w.heap.size ≤ gb200)); have n6_ := Aside0.mk ((by rw [hg]; exact (below_size (by repeat (first | (with_reducible first | exact HB.out | apply below_alloc | apply pw_below_drewN | apply below_drew1) | exact HB.out))) : w.heap.size ≤ gb200)); clear HO_3; clear HO196; clear HO198; clear HB; have HO_3 := n0_; have HO196 := n1_; have HO198 := n2_; have HB := n3_; have BK200 := n4_; have GW200 := n5_; have GE200 := n6_; clear n0_ n1_ n2_ n3_ n4_ n5_ n6_; clear hb hbox hg; have hcz13_0 : w12.cell? ⟨gb200, 0, none⟩ = some (.int .i64 0) := (blk_cell BK200.out 0).trans rfl; have hcz13_1 : w12.cell? ⟨gb200, 1, none⟩ = some (.int .i64 0) := (blk_cell BK200.out 1).trans rfl; have hcz13_2 : w12.cell? ⟨gb200, 2, none⟩ = some (.int .i64 0) := (blk_cell BK200.out 2).trans rfl; have hcz13_3 : w12.cell? ⟨gb200, 3, none⟩ = some (.int .i64 0) := (blk_cell BK200.out 3).trans rfl; have hcz13_4 : w12.cell? ⟨gb200, 4, none⟩ = some (.int .i16 0) := (blk_cell BK200.out 4).trans rfl; have hcz13_5 : w12.cell? ⟨gb200, 5, none⟩ = some (.int .i64 0) := (blk_cell BK200.out 5).trans rfl; have hfz13_0 := blk_frozen BK200.out 0; have hfz13_1 := blk_frozen BK200.out 1; have hfz13_2 := blk_frozen BK200.out 2; have hfz13_3 := blk_frozen BK200.out 3; have hfz13_4 := blk_frozen BK200.out 4; have hfz13_5 := blk_frozen BK200.out 5) | (go_at_call 28; (with_reducible refine (trickleref52_Valid.calls k1 ((rd_T55 l0 x4_1).f0) ((rd_T55 l0 x4_1).f1) ((rd_T55 l0 x4_1).f2) ((rd_T55 l0 x4_1).f3) ((rd_T55 l0 x4_1).f4) ((rd_T55 l0 x4_1).f5) true _ A6.out).mono ?_); rintro e w14 ⟨rfl, hb⟩; have n0_ := Aside0.mk (Kd.R_below (by (with_reducible repeat (first | apply Kd.R_alloc | apply Kd.R_drewN | apply Kd.R_drew)); exact (Kd.R_mono (Kd.R_far (p := ⟨gb200, 5, none⟩) (Kd.R_far (p := ⟨gb200, 4, none⟩) (Kd.R_far (p := ⟨gb200, 3, none⟩) (Kd.R_far (p := ⟨gb200, 2, none⟩) (Kd.R_far (p := ⟨gb200, 1, none⟩) (Kd.R_far (p := ⟨gb200, 0, none⟩) (Kd.R_types HO_3.out BK200.out (by decide)) (fun _ hk => hk.2) (.int .i64 ((rd_T55 l0 x4_1).f0))) (fun _ hk => hk.2) (.int .i64 ((rd_T55 l0 x4_1).f1))) (fun _ hk => hk.2) (.int .i64 ((rd_T55 l0 x4_1).f2))) (fun _ hk => hk.2) (.int .i64 ((rd_T55 l0 x4_1).f3))) (fun _ hk => hk.2) (.int .i16 ((rd_T55 l0 x4_1).f4))) (fun _ hk => hk.2) (.int .i64 ((rd_T55 l0 x4_1).f5))) (fun _ h_ => h_.1))) hb); have n1_ := Aside0.mk (Kd.R_below (by (with_reducible repeat (first | apply Kd.R_alloc | apply Kd.R_drewN | apply Kd.R_drew)); exact (Kd.R_mono (Kd.R_far (p := ⟨gb200, 5, none⟩) (Kd.R_far (p := ⟨gb200, 4, none⟩) (Kd.R_far (p := ⟨gb200, 3, none⟩) (Kd.R_far (p := ⟨gb200, 2, none⟩) (Kd.R_far (p := ⟨gb200, 1, none⟩) (Kd.R_far (p := ⟨gb200, 0, none⟩) (Kd.R_mono HO196.out (fun k_ hk => (⟨hk, hk.2⟩ : _ ∧ k_ ≠ gb200))) (fun _ hk => hk.2) (.int .i64 ((rd_T55 l0 x4_1).f0))) (fun _ hk => hk.2) (.int .i64 ((rd_T55 l0 x4_1).f1))) (fun _ hk => hk.2) (.int .i64 ((rd_T55 l0 x4_1).f2))) (fun _ hk => hk.2) (.int .i64 ((rd_T55 l0 x4_1).f3))) (fun _ hk => hk.2) (.int .i16 ((rd_T55 l0 x4_1).f4))) (fun _ hk => hk.2) (.int .i64 ((rd_T55 l0 x4_1).f5))) (fun _ h_ => h_.1))) hb); have n2_ := Aside0.mk (Kd.R_below (by (with_reducible repeat (first | apply Kd.R_alloc | apply Kd.R_drewN | apply Kd.R_drew)); exact (Kd.R_mono (Kd.R_far (p := ⟨gb200, 5, none⟩) (Kd.R_far (p := ⟨gb200, 4, none⟩) (Kd.R_far (p := ⟨gb200, 3, none⟩) (Kd.R_far (p := ⟨gb200, 2, none⟩) (Kd.R_far (p := ⟨gb200, 1, none⟩) (Kd.R_far (p := ⟨gb200, 0, none⟩) (Kd.R_types HO198.out BK200.out (by decide)) (fun _ hk => hk.2) (.int .i64 ((rd_T55 l0 x4_1).f0))) (fun _ hk => hk.2) (.int .i64 ((rd_T55 l0 x4_1).f1))) (fun _ hk => hk.2) (.int .i64 ((rd_T55 l0 x4_1).f2))) (fun _ hk => hk.2) (.int .i64 ((rd_T55 l0 x4_1).f3))) (fun _ hk => hk.2) (.int .i16 ((rd_T55 l0 x4_1).f4))) (fun _ hk => hk.2) (.int .i64 ((rd_T55 l0 x4_1).f5))) (fun _ h_ => h_.1))) hb); have n3_ := Aside0.mk (blk_below (g := gb200) (o := .cells #[.int .i64 ((rd_T55 l0 x4_1).f0), .int .i64 ((rd_T55 l0 x4_1).f1), .int .i64 ((rd_T55 l0 x4_1).f2), .int .i64 ((rd_T55 l0 x4_1).f3), .int .i16 ((rd_T55 l0 x4_1).f4), .int .i64 ((rd_T55 l0 x4_1).f5)] 55 (0, 0)) (by (with_reducible repeat (first | refine blk_drewN ?_ _ | refine blk_drew ?_ | refine blk_alloc ?_ _)); refine blk_put (cs := #[.int .i64 ((rd_T55 l0 x4_1).f0), .int .i64 ((rd_T55 l0 x4_1).f1), .int .i64 ((rd_T55 l0 x4_1).f2), .int .i64 ((rd_T55 l0 x4_1).f3), .int .i16 ((rd_T55 l0 x4_1).f4), .int .i64 0]) ?_ 5 _ rfl; (with_reducible repeat (first | refine blk_drewN ?_ _ | refine blk_drew ?_ | refine blk_alloc ?_ _)); refine blk_put (cs := #[.int .i64 ((rd_T55 l0 x4_1).f0), .int .i64 ((rd_T55 l0 x4_1).f1), .int .i64 ((rd_T55 l0 x4_1).f2), .int .i64 ((rd_T55 l0 x4_1).f3), .int .i16 0, .int .i64 0]) ?_ 4 _ rfl; (with_reducible repeat (first | refine blk_drewN ?_ _ | refine blk_drew ?_ | refine blk_alloc ?_ _)); refine blk_put (cs := #[.int .i64 ((rd_T55 l0 x4_1).f0), .int .i64 ((rd_T55 l0 x4_1).f1), .int .i64 ((rd_T55 l0 x4_1).f2), .int .i64 0, .int .i16 0, .int .i64 0]) ?_ 3 _ rfl; (with_reducible repeat (first | refine blk_drewN ?_ _ | refine blk_drew ?_ | refine blk_alloc ?_ _)); refine blk_put (cs := #[.int .i64 ((rd_T55 l0 x4_1).f0), .int .i64 ((rd_T55 l0 x4_1).f1), .int .i64 0, .int .i64 0, .int .i16 0, .int .i64 0]) ?_ 2 _ rfl; (with_reducible repeat (first | refine blk_drewN ?_ _ | refine blk_drew ?_ | refine blk_alloc ?_ _)); refine blk_put (cs := #[.int .i64 ((rd_T55 l0 x4_1).f0), .int .i64 0, .int .i64 0, .int .i64 0, .int .i16 0, .int .i64 0]) ?_ 1 _ rfl; (with_reducible repeat (first | refine blk_drewN ?_ _ | refine blk_drew ?_ | refine blk_alloc ?_ _)); refine blk_put (cs := #[.int .i64 0, .int .i64 0, .int .i64 0, .int .i64 0, .int .i16 0, .int .i64 0]) ?_ 0 _ rfl; (with_reducible repeat (first | refine blk_drewN ?_ _ | refine blk_drew ?_ | refine blk_alloc ?_ _)); exact BK200.out) hb); have n4_ := Aside0.mk (below_step (by repeat (first | (with_reducible first | exact HB.out | apply below_alloc | apply pw_below_drewN | apply below_drew1 | refine below_set ?_ GE200.out) | exact HB.out)) hb); clear HO_3; clear HO196; clear HO198; clear BK200; clear HB; have HO_3 := n0_; have HO196 := n1_; have HO198 := n2_; have BK200 := n3_; have HB := n4_; clear n0_ n1_ n2_ n3_ n4_; (try clear hb); (try clear hb2); (try clear hk); (try clear hi); have hcz15_0 : w14.cell? ⟨gb200, 0, none⟩ = some (.int .i64 ((rd_T55 l0 x4_1).f0)) := (blk_cell BK200.out 0).trans rfl; have hcz15_1 : w14.cell? ⟨gb200, 1, none⟩ = some (.int .i64 ((rd_T55 l0 x4_1).f1)) := (blk_cell BK200.out 1).trans rfl; have hcz15_2 : w14.cell? ⟨gb200, 2, none⟩ = some (.int .i64 ((rd_T55 l0 x4_1).f2)) := (blk_cell BK200.out 2).trans rfl; have hcz15_3 : w14.cell? ⟨gb200, 3, none⟩ = some (.int .i64 ((rd_T55 l0 x4_1).f3)) := (blk_cell BK200.out 3).trans rfl; have hcz15_4 : w14.cell? ⟨gb200, 4, none⟩ = some (.int .i16 ((rd_T55 l0 x4_1).f4)) := (blk_cell BK200.out 4).trans rfl; have hcz15_5 : w14.cell? ⟨gb200, 5, none⟩ = some (.int .i64 ((rd_T55 l0 x4_1).f5)) := (blk_cell BK200.out 5).trans rfl; have hfz15_0 := blk_frozen BK200.out 0; have hfz15_1 := blk_frozen BK200.out 1; have hfz15_2 := blk_frozen BK200.out 2; have hfz15_3 := blk_frozen BK200.out 3; have hfz15_4 := blk_frozen BK200.out 4; have hfz15_5 := blk_frozen BK200.out 5; obtain ⟨Ao16, co16, eo16⟩ := Kd.R_slice HO196.out; subst eo16) | (go_at_call 29; (with_reducible refine (trickleref55_allowed.calls _ _ t193 ((rd_T55 l0 x4_1).f0) ((rd_T55 l0 x4_1).f1) ((rd_T55 l0 x4_1).f2) ((rd_T55 l0 x4_1).f3) ((rd_T55 l0 x4_1).f4) ((rd_T55 l0 x4_1).f5) t205 _ ?side1 ?side2 A8.out).mono ?_); (case side1 => repeat (first | exact (Kd.R_reads' HO196.out).2.2 | (with_reducible refine Kd.C_alloc ?_ _) | (with_reducible refine Kd.C_drewN ?_ _) | (with_reducible refine Kd.C_drew ?_))); (case side2 => exact (Kd.R_reads' HO196.out).2.1); rintro e w17 ⟨rfl, hb⟩; have n0_ := Aside0.mk (Kd.R_below (by (with_reducible repeat (first | apply Kd.R_alloc | apply Kd.R_drewN | apply Kd.R_drew)); exact HO_3.out) hb); have n1_ := Aside0.mk (Kd.R_below (by (with_reducible repeat (first | apply Kd.R_alloc | apply Kd.R_drewN | apply Kd.R_drew)); exact HO196.out) hb); have n2_ := Aside0.mk (Kd.R_below (by (with_reducible repeat (first | apply Kd.R_alloc | apply Kd.R_drewN | apply Kd.R_drew)); exact HO198.out) hb); have n3_ := Aside0.mk (blk_below (g := gb200) (o := .cells #[.int .i64 ((rd_T55 l0 x4_1).f0), .int .i64 ((rd_T55 l0 x4_1).f1), .int .i64 ((rd_T55 l0 x4_1).f2), .int .i64 ((rd_T55 l0 x4_1).f3), .int .i16 ((rd_T55 l0 x4_1).f4), .int .i64 ((rd_T55 l0 x4_1).f5)] 55 (0, 0)) (by (with_reducible repeat (first | refine blk_drewN ?_ _ | refine blk_drew ?_ | refine blk_alloc ?_ _)); exact BK200.out) hb); have n4_ := Aside0.mk (below_step (by repeat (first | (with_reducible first | exact HB.out | apply below_alloc | apply pw_below_drewN | apply below_drew1 | refine below_set ?_ GE200.out) | exact HB.out)) hb); clear HO_3; clear HO196; clear HO198; clear BK200; clear HB; have HO_3 := n0_; have HO196 := n1_; have HO198 := n2_; have BK200 := n3_; have HB := n4_; clear n0_ n1_ n2_ n3_ n4_; (try clear hb); (try clear hb2); (try clear hk); (try clear hi))); go_upto_if 36 with (first | (go_at_call 27; (with_reducible refine (trickleref55_indexed.calls k1 _ _ y189 t193 t194 _ ?side1 ?side2 A5.out).mono ?_); (case side1 => repeat (first | exact (Kd.C_below HR192.out HB.out) | (with_reducible refine Kd.C_alloc ?_ _) | (with_reducible refine Kd.C_drewN ?_ _) | (with_reducible refine Kd.C_drew ?_))); (case side2 => exact HC192.out); rintro e w11 ⟨v195, v197, rfl, ho0, ho1, hb⟩; have n0_ := Aside0.mk (Kd.R_below (by (with_reducible repeat (first | apply Kd.R_alloc | apply Kd.R_drewN | apply Kd.R_drew)); exact HO_3.out) hb); have n1_ := Aside0.mk (Kd.R_lower ho0 (below_size (by repeat (first | (with_reducible first | exact HB.out | apply below_alloc | apply pw_below_drewN | apply below_drew1) | exact HB.out)))); have n2_ := Aside0.mk (Kd.R_lower ho1 (below_size (by repeat (first | (with_reducible first | exact HB.out | apply below_alloc | apply pw_below_drewN | apply below_drew1) | exact HB.out)))); have n3_ := Aside0.mk (below_step (by repeat (first | (with_reducible first | exact HB.out | apply below_alloc | apply pw_below_drewN | apply below_drew1) | exact HB.out)) hb); clear HO_3; clear HB; have HO_3 := n0_; have HO196 := n1_; have HO198 := n2_; have HB := n3_; clear n0_ n1_ n2_ n3_; (try clear hb); (try clear hb2); (try clear hk); (try clear hi); (try clear ho0); (try clear ho1); have p199 : 0 ≤ (x4_1 : Int) := of_decide_eq_true (by first | (with_reducible assumption) | assumption); have q199 : x4_1 < (l0.length : Int) := of_decide_eq_true (by first | (with_reducible assumption) | assumption); obtain ⟨ad199, e199, hx199_0, hx199_1, hx199_2, hx199_3, hx199_4, hx199_5⟩ := at_T55 HR0.out x4_1 p199 q199; cases e199; replace hx199_0 := (HB.out.cell (World.block_lt_of_cell? w _ hx199_0)).trans hx199_0; replace hx199_1 := (HB.out.cell (World.block_lt_of_cell? w _ hx199_1)).trans hx199_1; replace hx199_2 := (HB.out.cell (World.block_lt_of_cell? w _ hx199_2)).trans hx199_2; replace hx199_3 := (HB.out.cell (World.block_lt_of_cell? w _ hx199_3)).trans hx199_3; replace hx199_4 := (HB.out.cell (World.block_lt_of_cell? w _ hx199_4)).trans hx199_4; replace hx199_5 := (HB.out.cell (World.block_lt_of_cell? w _ hx199_5)).trans hx199_5; replace p199 := eq_true p199; replace q199 := eq_true q199) | ((with_reducible refine gate_dst (N := 7) rfl ?_); refine box_event ?hg (N := 7) ?hd (cs := #[.int .i64 0, .int .i64 0, .int .i64 0, .int .i64 0, .int .i16 0, .int .i64 0]) (t := 55) ?hr ?_; (case hd => rfl); (case hg => rfl); (case hr => first | (go_simp; done) | (go_simp; rfl)); intro gb200 hg w12 hbox hb; have n0_ := Aside0.mk (Kd.R_below (by (with_reducible repeat (first | apply Kd.R_alloc | apply Kd.R_drewN | apply Kd.R_drew)); exact HO_3.out) hb); have n1_ := Aside0.mk (Kd.R_below (Kd.R_elderB (by (with_reducible repeat (first | apply Kd.R_alloc | apply Kd.R_drewN | apply Kd.R_drew)); exact HO196.out) gb200 (Nat.le_of_eq hg.symm)) hb); have n2_ := Aside0.mk (Kd.R_below (by (with_reducible repeat (first | apply Kd.R_alloc | apply Kd.R_drewN | apply Kd.R_drew)); exact HO198.out) hb); have n3_ := Aside0.mk (below_step (by repeat (first | (with_reducible first | exact HB.out | apply below_alloc | apply pw_below_drewN | apply below_drew1) | exact HB.out)) hb); have n4_ := Aside0.mk (hbox); have n5_ := Aside0.mk ((by rw [hg]; exact (below_size (by repeat (first | (with_reducible first | exact HB.out | apply below_alloc | apply pw_below_drewN | apply below_drew1) | exact HB.out))) : w.heap.size ≤ gb200)); have n6_ := Aside0.mk ((by rw [hg]; exact (below_size (by repeat (first | (with_reducible first | exact HB.out | apply below_alloc | apply pw_below_drewN | apply below_drew1) | exact HB.out))) : w.heap.size ≤ gb200)); clear HO_3; clear HO196; clear HO198; clear HB; have HO_3 := n0_; have HO196 := n1_; have HO198 := n2_; have HB := n3_; have BK200 := n4_; have GW200 := n5_; have GE200 := n6_; clear n0_ n1_ n2_ n3_ n4_ n5_ n6_; clear hb hbox hg; have hcz13_0 : w12.cell? ⟨gb200, 0, none⟩ = some (.int .i64 0) := (blk_cell BK200.out 0).trans rfl; have hcz13_1 : w12.cell? ⟨gb200, 1, none⟩ = some (.int .i64 0) := (blk_cell BK200.out 1).trans rfl; have hcz13_2 : w12.cell? ⟨gb200, 2, none⟩ = some (.int .i64 0) := (blk_cell BK200.out 2).trans rfl; have hcz13_3 : w12.cell? ⟨gb200, 3, none⟩ = some (.int .i64 0) := (blk_cell BK200.out 3).trans rfl; have hcz13_4 : w12.cell? ⟨gb200, 4, none⟩ = some (.int .i16 0) := (blk_cell BK200.out 4).trans rfl; have hcz13_5 : w12.cell? ⟨gb200, 5, none⟩ = some (.int .i64 0) := (blk_cell BK200.out 5).trans rfl; have hfz13_0 := blk_frozen BK200.out 0; have hfz13_1 := blk_frozen BK200.out 1; have hfz13_2 := blk_frozen BK200.out 2; have hfz13_3 := blk_frozen BK200.out 3; have hfz13_4 := blk_frozen BK200.out 4; have hfz13_5 := blk_frozen BK200.out 5) | (go_at_call 28; (with_reducible refine (trickleref52_Valid.calls k1 ((rd_T55 l0 x4_1).f0) ((rd_T55 l0 x4_1).f1) ((rd_T55 l0 x4_1).f2) ((rd_T55 l0 x4_1).f3) ((rd_T55 l0 x4_1).f4) ((rd_T55 l0 x4_1).f5) true _ A6.out).mono ?_); rintro e w14 ⟨rfl, hb⟩; have n0_ := Aside0.mk (Kd.R_below (by (with_reducible repeat (first | apply Kd.R_alloc | apply Kd.R_drewN | apply Kd.R_drew)); exact (Kd.R_mono (Kd.R_far (p := ⟨gb200, 5, none⟩) (Kd.R_far (p := ⟨gb200, 4, none⟩) (Kd.R_far (p := ⟨gb200, 3, none⟩) (Kd.R_far (p := ⟨gb200, 2, none⟩) (Kd.R_far (p := ⟨gb200, 1, none⟩) (Kd.R_far (p := ⟨gb200, 0, none⟩) (Kd.R_types HO_3.out BK200.out (by decide)) (fun _ hk => hk.2) (.int .i64 ((rd_T55 l0 x4_1).f0))) (fun _ hk => hk.2) (.int .i64 ((rd_T55 l0 x4_1).f1))) (fun _ hk => hk.2) (.int .i64 ((rd_T55 l0 x4_1).f2))) (fun _ hk => hk.2) (.int .i64 ((rd_T55 l0 x4_1).f3))) (fun _ hk => hk.2) (.int .i16 ((rd_T55 l0 x4_1).f4))) (fun _ hk => hk.2) (.int .i64 ((rd_T55 l0 x4_1).f5))) (fun _ h_ => h_.1))) hb); have n1_ := Aside0.mk (Kd.R_below (by (with_reducible repeat (first | apply Kd.R_alloc | apply Kd.R_drewN | apply Kd.R_drew)); exact (Kd.R_mono (Kd.R_far (p := ⟨gb200, 5, none⟩) (Kd.R_far (p := ⟨gb200, 4, none⟩) (Kd.R_far (p := ⟨gb200, 3, none⟩) (Kd.R_far (p := ⟨gb200, 2, none⟩) (Kd.R_far (p := ⟨gb200, 1, none⟩) (Kd.R_far (p := ⟨gb200, 0, none⟩) (Kd.R_mono HO196.out (fun k_ hk => (⟨hk, hk.2⟩ : _ ∧ k_ ≠ gb200))) (fun _ hk => hk.2) (.int .i64 ((rd_T55 l0 x4_1).f0))) (fun _ hk => hk.2) (.int .i64 ((rd_T55 l0 x4_1).f1))) (fun _ hk => hk.2) (.int .i64 ((rd_T55 l0 x4_1).f2))) (fun _ hk => hk.2) (.int .i64 ((rd_T55 l0 x4_1).f3))) (fun _ hk => hk.2) (.int .i16 ((rd_T55 l0 x4_1).f4))) (fun _ hk => hk.2) (.int .i64 ((rd_T55 l0 x4_1).f5))) (fun _ h_ => h_.1))) hb); have n2_ := Aside0.mk (Kd.R_below (by (with_reducible repeat (first | apply Kd.R_alloc | apply Kd.R_drewN | apply Kd.R_drew)); exact (Kd.R_mono (Kd.R_far (p := ⟨gb200, 5, none⟩) (Kd.R_far (p := ⟨gb200, 4, none⟩) (Kd.R_far (p := ⟨gb200, 3, none⟩) (Kd.R_far (p := ⟨gb200, 2, none⟩) (Kd.R_far (p := ⟨gb200, 1, none⟩) (Kd.R_far (p := ⟨gb200, 0, none⟩) (Kd.R_types HO198.out BK200.out (by decide)) (fun _ hk => hk.2) (.int .i64 ((rd_T55 l0 x4_1).f0))) (fun _ hk => hk.2) (.int .i64 ((rd_T55 l0 x4_1).f1))) (fun _ hk => hk.2) (.int .i64 ((rd_T55 l0 x4_1).f2))) (fun _ hk => hk.2) (.int .i64 ((rd_T55 l0 x4_1).f3))) (fun _ hk => hk.2) (.int .i16 ((rd_T55 l0 x4_1).f4))) (fun _ hk => hk.2) (.int .i64 ((rd_T55 l0 x4_1).f5))) (fun _ h_ => h_.1))) hb); have n3_ := Aside0.mk (blk_below (g := gb200) (o := .cells #[.int .i64 ((rd_T55 l0 x4_1).f0), .int .i64 ((rd_T55 l0 x4_1).f1), .int .i64 ((rd_T55 l0 x4_1).f2), .int .i64 ((rd_T55 l0 x4_1).f3), .int .i16 ((rd_T55 l0 x4_1).f4), .int .i64 ((rd_T55 l0 x4_1).f5)] 55 (0, 0)) (by (with_reducible repeat (first | refine blk_drewN ?_ _ | refine blk_drew ?_ | refine blk_alloc ?_ _)); refine blk_put (cs := #[.int .i64 ((rd_T55 l0 x4_1).f0), .int .i64 ((rd_T55 l0 x4_1).f1), .int .i64 ((rd_T55 l0 x4_1).f2), .int .i64 ((rd_T55 l0 x4_1).f3), .int .i16 ((rd_T55 l0 x4_1).f4), .int .i64 0]) ?_ 5 _ rfl; (with_reducible repeat (first | refine blk_drewN ?_ _ | refine blk_drew ?_ | refine blk_alloc ?_ _)); refine blk_put (cs := #[.int .i64 ((rd_T55 l0 x4_1).f0), .int .i64 ((rd_T55 l0 x4_1).f1), .int .i64 ((rd_T55 l0 x4_1).f2), .int .i64 ((rd_T55 l0 x4_1).f3), .int .i16 0, .int .i64 0]) ?_ 4 _ rfl; (with_reducible repeat (first | refine blk_drewN ?_ _ | refine blk_drew ?_ | refine blk_alloc ?_ _)); refine blk_put (cs := #[.int .i64 ((rd_T55 l0 x4_1).f0), .int .i64 ((rd_T55 l0 x4_1).f1), .int .i64 ((rd_T55 l0 x4_1).f2), .int .i64 0, .int .i16 0, .int .i64 0]) ?_ 3 _ rfl; (with_reducible repeat (first | refine blk_drewN ?_ _ | refine blk_drew ?_ | refine blk_alloc ?_ _)); refine blk_put (cs := #[.int .i64 ((rd_T55 l0 x4_1).f0), .int .i64 ((rd_T55 l0 x4_1).f1), .int .i64 0, .int .i64 0, .int .i16 0, .int .i64 0]) ?_ 2 _ rfl; (with_reducible repeat (first | refine blk_drewN ?_ _ | refine blk_drew ?_ | refine blk_alloc ?_ _)); refine blk_put (cs := #[.int .i64 ((rd_T55 l0 x4_1).f0), .int .i64 0, .int .i64 0, .int .i64 0, .int .i16 0, .int .i64 0]) ?_ 1 _ rfl; (with_reducible repeat (first | refine blk_drewN ?_ _ | refine blk_drew ?_ | refine blk_alloc ?_ _)); refine blk_put (cs := #[.int .i64 0, .int .i64 0, .int .i64 0, .int .i64 0, .int .i16 0, .int .i64 0]) ?_ 0 _ rfl; (with_reducible repeat (first | refine blk_drewN ?_ _ | refine blk_drew ?_ | refine blk_alloc ?_ _)); exact BK200.out) hb); have n4_ := Aside0.mk (below_step (by repeat (first | (with_reducible first | exact HB.out | apply below_alloc | apply pw_below_drewN | apply below_drew1 | refine below_set ?_ GE200.out) | exact HB.out)) hb); clear HO_3; clear HO196; clear HO198; clear BK200; clear HB; have HO_3 := n0_; have HO196 := n1_; have HO198 := n2_; have BK200 := n3_; have HB := n4_; clear n0_ n1_ n2_ n3_ n4_; (try clear hb); (try clear hb2); (try clear hk); (try clear hi); have hcz15_0 : w14.cell? ⟨gb200, 0, none⟩ = some (.int .i64 ((rd_T55 l0 x4_1).f0)) := (blk_cell BK200.out 0).trans rfl; have hcz15_1 : w14.cell? ⟨gb200, 1, none⟩ = some (.int .i64 ((rd_T55 l0 x4_1).f1)) := (blk_cell BK200.out 1).trans rfl; have hcz15_2 : w14.cell? ⟨gb200, 2, none⟩ = some (.int .i64 ((rd_T55 l0 x4_1).f2)) := (blk_cell BK200.out 2).trans rfl; have hcz15_3 : w14.cell? ⟨gb200, 3, none⟩ = some (.int .i64 ((rd_T55 l0 x4_1).f3)) := (blk_cell BK200.out 3).trans rfl; have hcz15_4 : w14.cell? ⟨gb200, 4, none⟩ = some (.int .i16 ((rd_T55 l0 x4_1).f4)) := (blk_cell BK200.out 4).trans rfl; have hcz15_5 : w14.cell? ⟨gb200, 5, none⟩ = some (.int .i64 ((rd_T55 l0 x4_1).f5)) := (blk_cell BK200.out 5).trans rfl; have hfz15_0 := blk_frozen BK200.out 0; have hfz15_1 := blk_frozen BK200.out 1; have hfz15_2 := blk_frozen BK200.out 2; have hfz15_3 := blk_frozen BK200.out 3; have hfz15_4 := blk_frozen BK200.out 4; have hfz15_5 := blk_frozen BK200.out 5; obtain ⟨Ao16, co16, eo16⟩ := Kd.R_slice HO196.out; subst eo16) | (go_at_call 29; (with_reducible refine (trickleref55_allowed.calls _ _ t193 ((rd_T55 l0 x4_1).f0) ((rd_T55 l0 x4_1).f1) ((rd_T55 l0 x4_1).f2) ((rd_T55 l0 x4_1).f3) ((rd_T55 l0 x4_1).f4) ((rd_T55 l0 x4_1).f5) t205 _ ?side1 ?side2 A8.out).mono ?_); (case side1 => repeat (first | exact (Kd.R_reads' HO196.out).2.2 | (with_reducible refine Kd.C_alloc ?_ _) | (with_reducible refine Kd.C_drewN ?_ _) | (with_reducible refine Kd.C_drew ?_))); (case side2 => exact (Kd.R_reads' HO196.out).2.1); rintro e w17 ⟨rfl, hb⟩; have n0_ := Aside0.mk (Kd.R_below (by (with_reducible repeat (first | apply Kd.R_alloc | apply Kd.R_drewN | apply Kd.R_drew)); exact HO_3.out) hb); have n1_ := Aside0.mk (Kd.R_below (by (with_reducible repeat (first | apply Kd.R_alloc | apply Kd.R_drewN | apply Kd.R_drew)); exact HO196.out) hb); have n2_ := Aside0.mk (Kd.R_below (by (with_reducible repeat (first | apply Kd.R_alloc | apply Kd.R_drewN | apply Kd.R_drew)); exact HO198.out) hb); have n3_ := Aside0.mk (blk_below (g := gb200) (o := .cells #[.int .i64 ((rd_T55 l0 x4_1).f0), .int .i64 ((rd_T55 l0 x4_1).f1), .int .i64 ((rd_T55 l0 x4_1).f2), .int .i64 ((rd_T55 l0 x4_1).f3), .int .i16 ((rd_T55 l0 x4_1).f4), .int .i64 ((rd_T55 l0 x4_1).f5)] 55 (0, 0)) (by (with_reducible repeat (first | refine blk_drewN ?_ _ | refine blk_drew ?_ | refine blk_alloc ?_ _)); exact BK200.out) hb); have n4_ := Aside0.mk (below_step (by repeat (first | (with_reducible first | exact HB.out | apply below_alloc | apply pw_below_drewN | apply below_drew1 | refine below_set ?_ GE200.out) | exact HB.out)) hb); clear HO_3; clear HO196; clear HO198; clear BK200; clear HB; have HO_3 := n0_; have HO196 := n1_; have HO198 := n2_; have BK200 := n3_; have HB := n4_; clear n0_ n1_ n2_ n3_ n4_; (try clear hb); (try clear hb2); (try clear hk); (try clear hi))))
              (try simp only [Act.put, List.setIfInBounds_toArray, List.set_cons_zero, List.set_cons_succ])
              go_cut [3] (fun v3 wc => ∃ (kq : Nat) (x3_8 : List (S33)), Aside0 (trickleref55_Sequence.j1 kq l0 x3_8 x4_1 t193 ((rd_T55 l0 x4_1).f0) ((rd_T55 l0 x4_1).f1) ((rd_T55 l0 x4_1).f2) ((rd_T55 l0 x4_1).f3) ((rd_T55 l0 x4_1).f4) ((rd_T55 l0 x4_1).f5) = some r) ∧ Aside0 (kq ≤ k1) ∧ Aside0 (Kd.R k33 33 wc w.heap.size (fun _ => True) v3 x3_8) ∧ Aside0 (Kd.R k55 55 wc w.heap.size (fun k_ => k_ ≠ gb200) (.slice Ao16 t193.length co16) t193) ∧ Aside0 (wc.heap[gb200]? = some (.cells #[.int .i64 ((rd_T55 l0 x4_1).f0), .int .i64 ((rd_T55 l0 x4_1).f1), .int .i64 ((rd_T55 l0 x4_1).f2), .int .i64 ((rd_T55 l0 x4_1).f3), .int .i16 ((rd_T55 l0 x4_1).f4), .int .i64 ((rd_T55 l0 x4_1).f5)] 55 (0, 0))) ∧ Aside0 (Below w.heap.size w wc))
              case first =>
                have H := HC9.out
                clear HC9
                by_cases c18 : t205 = true
                · subst c18
                  have H1 : (trickleref55_Sequence.j1 k1 l0 x3_1 x4_1 t193 ((rd_T55 l0 x4_1).f0) ((rd_T55 l0 x4_1).f1) ((rd_T55 l0 x4_1).f2) ((rd_T55 l0 x4_1).f3) ((rd_T55 l0 x4_1).f4) ((rd_T55 l0 x4_1).f5)) = some r := by rw [if_pos rfl] at H; exact H
                  clear H
                  have H := H1
                  clear H1
                  have H' := Aside0.mk H
                  clear H
                  go_wp2
                  repeat (go_quiet (fail); try go_wp2)
                  go_meet
                  case rel => exact ⟨_, (x3_1), H', ⟨by have := HK1.out; first | omega | exact Nat.le_refl _⟩, ⟨by (with_reducible repeat (first | apply Kd.R_alloc | apply Kd.R_drewN | apply Kd.R_drew)); exact HO_3.out⟩, ⟨by (with_reducible repeat (first | apply Kd.R_alloc | apply Kd.R_drewN | apply Kd.R_drew)); exact Kd.R_mono HO196.out (fun _ hk => hk.2)⟩, ⟨by (with_reducible repeat (first | refine blk_drewN ?_ _ | refine blk_drew ?_ | refine blk_alloc ?_ _)); exact BK200.out⟩, ⟨by repeat (first | (with_reducible first | exact HB.out | apply below_alloc | apply pw_below_drewN | apply below_drew1 | refine below_set ?_ GE200.out) | exact HB.out)⟩⟩
                · replace c18 := Bool.eq_false_iff.mpr c18
                  subst c18
                  have H1 : (if x3_1.length < 8796093022208 then (trickleref55_Sequence.j1 k1 l0 (x3_1 ++ [(⟨x4_1, 1⟩ : S33)]) x4_1 t193 ((rd_T55 l0 x4_1).f0) ((rd_T55 l0 x4_1).f1) ((rd_T55 l0 x4_1).f2) ((rd_T55 l0 x4_1).f3) ((rd_T55 l0 x4_1).f4) ((rd_T55 l0 x4_1).f5)) else (none)) = some r := by rw [if_neg (show ¬ (false = true) by decide)] at H; exact H
                  clear H
                  have H := H1
                  clear H1
                  by_cases c19 : x3_1.length < 8796093022208
                  · rw [if_pos c19] at H
                    have LMc19 := Aside0.mk c19
                    clear c19
                    obtain ⟨y206, hy206⟩ : ∃ y_ : List (S33), y_ = (x3_1 ++ [(⟨x4_1, 1⟩ : S33)]) := ⟨_, rfl⟩
                    replace H : (trickleref55_Sequence.j1 k1 l0 y206 x4_1 t193 ((rd_T55 l0 x4_1).f0) ((rd_T55 l0 x4_1).f1) ((rd_T55 l0 x4_1).f2) ((rd_T55 l0 x4_1).f3) ((rd_T55 l0 x4_1).f4) ((rd_T55 l0 x4_1).f5)) = some r := by first | (rw [hy206]; with_reducible exact H) | (have H2_ := (Option.bind_some _ _).symm.trans H; rw [hy206]; with_reducible exact H2_) | (have H2_ := (Option.bind_some _ _).symm.trans H; with_reducible exact H2_) | with_reducible exact H | (rw [hy206]; exact H) | exact H
                    have Ny206 := Aside0.mk hy206
                    clear hy206
                    have H' := Aside0.mk H
                    clear H
                    go_wp2_with (first | ((with_reducible refine gate_builtin (b := .append) (xs := #[.tmp 37, .tmp 40]) rfl ?_); at_builtin; refine Kd.R_append k33 (w0 := w) w.heap.size rfl (.tmp 37) (.tmp 40) 25 33 (.agg #[(.int .i64 0), (.int .i64 0)]) 16 rfl Tryd.underlying25 info33 rfl (by decide) (by omega) u3 x3_1 (⟨x4_1, 1⟩ : S33) [.int .i64 x4_1, .int .i64 1] (fun _ => True) (fun _ => False) rfl rfl ?aP (fun _ hk => hk.elim) ?aF ?aO ?aB ?aS ?aL ?_; (case aP => exact k33_mkM _ _ _ (⟨x4_1, 1⟩ : S33)); (case aB => exact (by repeat (first | (with_reducible first | exact HB.out | apply below_alloc | apply pw_below_drewN | apply below_drew1 | refine below_set ?_ GE200.out) | exact HB.out))); (case aF => exact (fun _ _ => trivial)); (case aO => exact (by (with_reducible repeat (first | apply Kd.R_alloc | apply Kd.R_drewN | apply Kd.R_drew)); exact HO_3.out)); (case aS => exact (below_size (by repeat (first | (with_reducible first | exact HB.out | apply below_alloc | apply pw_below_drewN | apply below_drew1 | refine below_set ?_ GE200.out) | exact HB.out)))); (case aL => have := LMc19.out; omega); intro v207 w20 ho hb hg hat; rw [← Ny206.out] at ho; have n0_ := Aside0.mk (Kd.R_over' (by (with_reducible repeat (first | apply Kd.R_alloc | apply Kd.R_drewN | apply Kd.R_drew)); exact HO196.out) (Kd.R_typed (by (with_reducible repeat (first | apply Kd.R_alloc | apply Kd.R_drewN | apply Kd.R_drew)); exact HO_3.out)) (by decide) hg); have n1_ := Aside0.mk (Kd.R_over' (by (with_reducible repeat (first | apply Kd.R_alloc | apply Kd.R_drewN | apply Kd.R_drew)); exact HO198.out) (Kd.R_typed (by (with_reducible repeat (first | apply Kd.R_alloc | apply Kd.R_drewN | apply Kd.R_drew)); exact HO_3.out)) (by decide) hg); have n2_ := Aside0.mk (blk_grown (g := gb200) (o := .cells #[.int .i64 ((rd_T55 l0 x4_1).f0), .int .i64 ((rd_T55 l0 x4_1).f1), .int .i64 ((rd_T55 l0 x4_1).f2), .int .i64 ((rd_T55 l0 x4_1).f3), .int .i16 ((rd_T55 l0 x4_1).f4), .int .i64 ((rd_T55 l0 x4_1).f5)] 55 (0, 0)) (by (with_reducible repeat (first | refine blk_drewN ?_ _ | refine blk_drew ?_ | refine blk_alloc ?_ _)); exact BK200.out) hg (Kd.R_ne HO_3.out BK200.out (by decide))); have n3_ := Aside0.mk (hb); have n4_ := Aside0.mk (ho); clear HO196; clear HO198; clear BK200; clear HB; clear HO_3; have HO196 := n0_; have HO198 := n1_; have BK200 := n2_; have HB := n3_; have HO208 := n4_; clear n0_ n1_ n2_ n3_ n4_; clear ho hb hg hat))
                    repeat (go_quiet (first | ((with_reducible refine gate_builtin (b := .append) (xs := #[.tmp 37, .tmp 40]) rfl ?_); at_builtin; refine Kd.R_append k33 (w0 := w) w.heap.size rfl (.tmp 37) (.tmp 40) 25 33 (.agg #[(.int .i64 0), (.int .i64 0)]) 16 rfl Tryd.underlying25 info33 rfl (by decide) (by omega) u3 x3_1 (⟨x4_1, 1⟩ : S33) [.int .i64 x4_1, .int .i64 1] (fun _ => True) (fun _ => False) rfl rfl ?aP (fun _ hk => hk.elim) ?aF ?aO ?aB ?aS ?aL ?_; (case aP => exact k33_mkM _ _ _ (⟨x4_1, 1⟩ : S33)); (case aB => exact (by repeat (first | (with_reducible first | exact HB.out | apply below_alloc | apply pw_below_drewN | apply below_drew1 | refine below_set ?_ GE200.out) | exact HB.out))); (case aF => exact (fun _ _ => trivial)); (case aO => exact (by (with_reducible repeat (first | apply Kd.R_alloc | apply Kd.R_drewN | apply Kd.R_drew)); exact HO_3.out)); (case aS => exact (below_size (by repeat (first | (with_reducible first | exact HB.out | apply below_alloc | apply pw_below_drewN | apply below_drew1 | refine below_set ?_ GE200.out) | exact HB.out)))); (case aL => have := LMc19.out; omega); intro v207 w20 ho hb hg hat; rw [← Ny206.out] at ho; have n0_ := Aside0.mk (Kd.R_over' (by (with_reducible repeat (first | apply Kd.R_alloc | apply Kd.R_drewN | apply Kd.R_drew)); exact HO196.out) (Kd.R_typed (by (with_reducible repeat (first | apply Kd.R_alloc | apply Kd.R_drewN | apply Kd.R_drew)); exact HO_3.out)) (by decide) hg); have n1_ := Aside0.mk (Kd.R_over' (by (with_reducible repeat (first | apply Kd.R_alloc | apply Kd.R_drewN | apply Kd.R_drew)); exact HO198.out) (Kd.R_typed (by (with_reducible repeat (first | apply Kd.R_alloc | apply Kd.R_drewN | apply Kd.R_drew)); exact HO_3.out)) (by decide) hg); have n2_ := Aside0.mk (blk_grown (g := gb200) (o := .cells #[.int .i64 ((rd_T55 l0 x4_1).f0), .int .i64 ((rd_T55 l0 x4_1).f1), .int .i64 ((rd_T55 l0 x4_1).f2), .int .i64 ((rd_T55 l0 x4_1).f3), .int .i16 ((rd_T55 l0 x4_1).f4), .int .i64 ((rd_T55 l0 x4_1).f5)] 55 (0, 0)) (by (with_reducible repeat (first | refine blk_drewN ?_ _ | refine blk_drew ?_ | refine blk_alloc ?_ _)); exact BK200.out) hg (Kd.R_ne HO_3.out BK200.out (by decide))); have n3_ := Aside0.mk (hb); have n4_ := Aside0.mk (ho); clear HO196; clear HO198; clear BK200; clear HB; clear HO_3; have HO196 := n0_; have HO198 := n1_; have BK200 := n2_; have HB := n3_; have HO208 := n4_; clear n0_ n1_ n2_ n3_ n4_; clear ho hb hg hat)); try go_wp2_with (first | ((with_reducible refine gate_builtin (b := .append) (xs := #[.tmp 37, .tmp 40]) rfl ?_); at_builtin; refine Kd.R_append k33 (w0 := w) w.heap.size rfl (.tmp 37) (.tmp 40) 25 33 (.agg #[(.int .i64 0), (.int .i64 0)]) 16 rfl Tryd.underlying25 info33 rfl (by decide) (by omega) u3 x3_1 (⟨x4_1, 1⟩ : S33) [.int .i64 x4_1, .int .i64 1] (fun _ => True) (fun _ => False) rfl rfl ?aP (fun _ hk => hk.elim) ?aF ?aO ?aB ?aS ?aL ?_; (case aP => exact k33_mkM _ _ _ (⟨x4_1, 1⟩ : S33)); (case aB => exact (by repeat (first | (with_reducible first | exact HB.out | apply below_alloc | apply pw_below_drewN | apply below_drew1 | refine below_set ?_ GE200.out) | exact HB.out))); (case aF => exact (fun _ _ => trivial)); (case aO => exact (by (with_reducible repeat (first | apply Kd.R_alloc | apply Kd.R_drewN | apply Kd.R_drew)); exact HO_3.out)); (case aS => exact (below_size (by repeat (first | (with_reducible first | exact HB.out | apply below_alloc | apply pw_below_drewN | apply below_drew1 | refine below_set ?_ GE200.out) | exact HB.out)))); (case aL => have := LMc19.out; omega); intro v207 w20 ho hb hg hat; rw [← Ny206.out] at ho; have n0_ := Aside0.mk (Kd.R_over' (by (with_reducible repeat (first | apply Kd.R_alloc | apply Kd.R_drewN | apply Kd.R_drew)); exact HO196.out) (Kd.R_typed (by (with_reducible repeat (first | apply Kd.R_alloc | apply Kd.R_drewN | apply Kd.R_drew)); exact HO_3.out)) (by decide) hg); have n1_ := Aside0.mk (Kd.R_over' (by (with_reducible repeat (first | apply Kd.R_alloc | apply Kd.R_drewN | apply Kd.R_drew)); exact HO198.out) (Kd.R_typed (by (with_reducible repeat (first | apply Kd.R_alloc | apply Kd.R_drewN | apply Kd.R_drew)); exact HO_3.out)) (by decide) hg); have n2_ := Aside0.mk (blk_grown (g := gb200) (o := .cells #[.int .i64 ((rd_T55 l0 x4_1).f0), .int .i64 ((rd_T55 l0 x4_1).f1), .int .i64 ((rd_T55 l0 x4_1).f2), .int .i64 ((rd_T55 l0 x4_1).f3), .int .i16 ((rd_T55 l0 x4_1).f4), .int .i64 ((rd_T55 l0 x4_1).f5)] 55 (0, 0)) (by (with_reducible repeat (first | refine blk_drewN ?_ _ | refine blk_drew ?_ | refine blk_alloc ?_ _)); exact BK200.out) hg (Kd.R_ne HO_3.out BK200.out (by decide))); have n3_ := Aside0.mk (hb); have n4_ := Aside0.mk (ho); clear HO196; clear HO198; clear BK200; clear HB; clear HO_3; have HO196 := n0_; have HO198 := n1_; have BK200 := n2_; have HB := n3_; have HO208 := n4_; clear n0_ n1_ n2_ n3_ n4_; clear ho hb hg hat)))
                    go_meet
                    case rel => exact ⟨_, (y206), H', ⟨by have := HK1.out; first | omega | exact Nat.le_refl _⟩, ⟨by (with_reducible repeat (first | apply Kd.R_alloc | apply Kd.R_drewN | apply Kd.R_drew)); exact HO208.out⟩, ⟨by (with_reducible repeat (first | apply Kd.R_alloc | apply Kd.R_drewN | apply Kd.R_drew)); exact Kd.R_mono HO196.out (fun _ hk => hk.2)⟩, ⟨by (with_reducible repeat (first | refine blk_drewN ?_ _ | refine blk_drew ?_ | refine blk_alloc ?_ _)); exact BK200.out⟩, ⟨by repeat (first | (with_reducible first | exact HB.out | apply below_alloc | apply pw_below_drewN | apply below_drew1 | refine below_set ?_ GE200.out) | exact HB.out)⟩⟩
                  · rw [if_neg c19] at H
                    exact absurd H (by simp)
              case rest =>
                clear HC9
                try clear c1
                try clear p1
                try clear q1
                try clear hx1
                try clear c2
                try clear c2b0
                try clear p2
                try clear c3
                try clear c3b0
                try clear c3b1
                try clear c4
                try clear c4b0
                try clear c4b1
                try clear p6
                try clear c7
                try clear q10
                try clear c12
                try clear c18
                try clear c19
                try clear p19
                try clear q19
                try clear hx19
                try clear hcz13_0
                try clear hcz13_1
                try clear hcz13_2
                try clear hcz13_3
                try clear hcz13_4
                try clear hcz13_5
                try clear hcz15_0
                try clear hcz15_1
                try clear hcz15_2
                try clear hcz15_3
                try clear hcz15_4
                try clear hcz15_5
                try clear hfz13_0
                try clear hfz13_1
                try clear hfz13_2
                try clear hfz13_3
                try clear hfz13_4
                try clear hfz13_5
                try clear hfz15_0
                try clear hfz15_1
                try clear hfz15_2
                try clear hfz15_3
                try clear hfz15_4
                try clear hfz15_5
                try clear hx199_0
                try clear hx199_1
                try clear hx199_2
                try clear hx199_3
                try clear hx199_4
                try clear hx199_5
                try clear p199
                try clear q10
                try clear q199
                obtain ⟨kq, x3_8, HA, HJ8, HO_3, HO_5, BK200, HB⟩ := hcut
                cases kq with
                | zero => exact absurd HA.out (by simp [trickleref55_Sequence.j1])
                | succ kj8 =>
                  have H := HA.out
                  clear HA
                  simp only [trickleref55_Sequence.j1] at H
                  have HC21 := Aside0.mk H
                  clear H
                  go_upto_region 11 with (fail)
                  repeat (go_quiet (fail); go_upto_region 11 with (fail))
                  go_cut [58] (fun v58 wc => ∃ (kq : Nat) (x58_20 : Bool), v58 = .bool x58_20 ∧ Aside0 (trickleref55_Sequence.j2 kq l0 x3_8 x4_1 x58_20 = some r) ∧ Aside0 (kq ≤ kj8) ∧ Aside0 (Kd.R k33 33 wc w.heap.size (fun _ => True) u3 x3_8) ∧ Aside0 (wc.heap[gb200]? = some (.cells #[.int .i64 ((rd_T55 l0 x4_1).f0), .int .i64 ((rd_T55 l0 x4_1).f1), .int .i64 ((rd_T55 l0 x4_1).f2), .int .i64 ((rd_T55 l0 x4_1).f3), .int .i16 ((rd_T55 l0 x4_1).f4), .int .i64 ((rd_T55 l0 x4_1).f5)] 55 (0, 0))) ∧ Aside0 (Below w.heap.size w wc))
                  case first =>
                    have H := HC21.out
                    clear HC21
                    by_cases c22 : ((rd_T55 l0 x4_1).f0) = 7
                    · rw [if_pos c22] at H
                      have c22b0 : (((rd_T55 l0 x4_1).f0) == 7) = true := beq_iff_eq.mpr c22
                      have c22b1 : (((rd_T55 l0 x4_1).f0) != 7) = false := bne_eq_false_iff_eq.mpr c22
                      clear c22
                      (first | rw [c22b0] | (simp only [i64_w, i32_w]; rw [c22b0]) | skip)
                      replace H := Option.bind_eq_some_iff.mp H
                      obtain ⟨t209, A230, H⟩ := H
                      replace H : (trickleref55_Sequence.j2 kj8 l0 x3_8 x4_1 (((rd_T55 l0 x4_1).f3) != t209)) = some r := H
                      have A23 := Aside0.mk A230
                      clear A230
                      have H' := Aside0.mk H
                      clear H
                      have hcz24_0 : wc.cell? ⟨gb200, 0, none⟩ = some (.int .i64 ((rd_T55 l0 x4_1).f0)) := (blk_cell BK200.out 0).trans rfl
                      have hcz24_1 : wc.cell? ⟨gb200, 1, none⟩ = some (.int .i64 ((rd_T55 l0 x4_1).f1)) := (blk_cell BK200.out 1).trans rfl
                      have hcz24_2 : wc.cell? ⟨gb200, 2, none⟩ = some (.int .i64 ((rd_T55 l0 x4_1).f2)) := (blk_cell BK200.out 2).trans rfl
                      have hcz24_3 : wc.cell? ⟨gb200, 3, none⟩ = some (.int .i64 ((rd_T55 l0 x4_1).f3)) := (blk_cell BK200.out 3).trans rfl
                      have hcz24_4 : wc.cell? ⟨gb200, 4, none⟩ = some (.int .i16 ((rd_T55 l0 x4_1).f4)) := (blk_cell BK200.out 4).trans rfl
                      have hcz24_5 : wc.cell? ⟨gb200, 5, none⟩ = some (.int .i64 ((rd_T55 l0 x4_1).f5)) := (blk_cell BK200.out 5).trans rfl
                      have hfz24_0 := blk_frozen BK200.out 0
                      have hfz24_1 := blk_frozen BK200.out 1
                      have hfz24_2 := blk_frozen BK200.out 2
                      have hfz24_3 := blk_frozen BK200.out 3
                      have hfz24_4 := blk_frozen BK200.out 4
                      have hfz24_5 := blk_frozen BK200.out 5
                      go_wp2_with (first | (go_at_call 30; (with_reducible refine (trickleref55_count.calls kj8 _ _ t193 ((rd_T55 l0 x4_1).f0) t209 _ ?side1 ?side2 A23.out).mono ?_); (case side1 => repeat (first | exact (Kd.R_reads' HO_5.out).2.2 | (with_reducible refine Kd.C_alloc ?_ _) | (with_reducible refine Kd.C_drewN ?_ _) | (with_reducible refine Kd.C_drew ?_))); (case side2 => exact (Kd.R_reads' HO_5.out).2.1); rintro e w' ⟨rfl, ⟨nd, rfl⟩⟩; (try first | exact ⟨rfl, _, World.drewN_drewN _ _ _⟩ | exact ⟨rfl, _, Eq.trans (World.drewN_drewN _ _ _) (congrArg (World.drewN _) (Nat.add_assoc _ _ _))⟩)))
                      repeat (go_quiet (first | (go_at_call 30; (with_reducible refine (trickleref55_count.calls kj8 _ _ t193 ((rd_T55 l0 x4_1).f0) t209 _ ?side1 ?side2 A23.out).mono ?_); (case side1 => repeat (first | exact (Kd.R_reads' HO_5.out).2.2 | (with_reducible refine Kd.C_alloc ?_ _) | (with_reducible refine Kd.C_drewN ?_ _) | (with_reducible refine Kd.C_drew ?_))); (case side2 => exact (Kd.R_reads' HO_5.out).2.1); rintro e w' ⟨rfl, ⟨nd, rfl⟩⟩; (try first | exact ⟨rfl, _, World.drewN_drewN _ _ _⟩ | exact ⟨rfl, _, Eq.trans (World.drewN_drewN _ _ _) (congrArg (World.drewN _) (Nat.add_assoc _ _ _))⟩))); try go_wp2_with (first | (go_at_call 30; (with_reducible refine (trickleref55_count.calls kj8 _ _ t193 ((rd_T55 l0 x4_1).f0) t209 _ ?side1 ?side2 A23.out).mono ?_); (case side1 => repeat (first | exact (Kd.R_reads' HO_5.out).2.2 | (with_reducible refine Kd.C_alloc ?_ _) | (with_reducible refine Kd.C_drewN ?_ _) | (with_reducible refine Kd.C_drew ?_))); (case side2 => exact (Kd.R_reads' HO_5.out).2.1); rintro e w' ⟨rfl, ⟨nd, rfl⟩⟩; (try first | exact ⟨rfl, _, World.drewN_drewN _ _ _⟩ | exact ⟨rfl, _, Eq.trans (World.drewN_drewN _ _ _) (congrArg (World.drewN _) (Nat.add_assoc _ _ _))⟩))))
                      go_meet
                      case rel => exact ⟨_, ((((rd_T55 l0 x4_1).f3) != t209)), (by first | rfl | (simp; done) | (simp [*]; done)), H', ⟨by have := HK1.out; have := HJ8.out; first | omega | exact Nat.le_refl _⟩, ⟨by (with_reducible repeat (first | apply Kd.R_alloc | apply Kd.R_drewN | apply Kd.R_drew)); exact HO_3.out⟩, ⟨by (with_reducible repeat (first | refine blk_drewN ?_ _ | refine blk_drew ?_ | refine blk_alloc ?_ _)); exact BK200.out⟩, ⟨by repeat (first | (with_reducible first | exact HB.out | apply below_alloc | apply pw_below_drewN | apply below_drew1 | refine below_set ?_ GE200.out) | exact HB.out)⟩⟩
                    · rw [if_neg c22] at H
                      have c22b0 : (((rd_T55 l0 x4_1).f0) == 7) = false := beq_eq_false_iff_ne.mpr c22
                      have c22b1 : (((rd_T55 l0 x4_1).f0) != 7) = true := bne_iff_ne.mpr c22
                      (first | rw [c22b0] | (simp only [i64_w, i32_w]; rw [c22b0]) | skip)
                      by_cases c25 : ((rd_T55 l0 x4_1).f0) = 8
                      · rw [if_pos c25] at H
                        have c25b0 : (((rd_T55 l0 x4_1).f0) == 8) = true := beq_iff_eq.mpr c25
                        have c25b1 : (((rd_T55 l0 x4_1).f0) != 8) = false := bne_eq_false_iff_eq.mpr c25
                        clear c25
                        replace H := Option.bind_eq_some_iff.mp H
                        obtain ⟨t210, A260, H⟩ := H
                        replace H : (trickleref55_Sequence.j2 kj8 l0 x3_8 x4_1 (((rd_T55 l0 x4_1).f3) != t210)) = some r := H
                        have A26 := Aside0.mk A260
                        clear A260
                        have H' := Aside0.mk H
                        clear H
                        have hcz27_0 : wc.cell? ⟨gb200, 0, none⟩ = some (.int .i64 ((rd_T55 l0 x4_1).f0)) := (blk_cell BK200.out 0).trans rfl
                        have hcz27_1 : wc.cell? ⟨gb200, 1, none⟩ = some (.int .i64 ((rd_T55 l0 x4_1).f1)) := (blk_cell BK200.out 1).trans rfl
                        have hcz27_2 : wc.cell? ⟨gb200, 2, none⟩ = some (.int .i64 ((rd_T55 l0 x4_1).f2)) := (blk_cell BK200.out 2).trans rfl
                        have hcz27_3 : wc.cell? ⟨gb200, 3, none⟩ = some (.int .i64 ((rd_T55 l0 x4_1).f3)) := (blk_cell BK200.out 3).trans rfl
                        have hcz27_4 : wc.cell? ⟨gb200, 4, none⟩ = some (.int .i16 ((rd_T55 l0 x4_1).f4)) := (blk_cell BK200.out 4).trans rfl
                        have hcz27_5 : wc.cell? ⟨gb200, 5, none⟩ = some (.int .i64 ((rd_T55 l0 x4_1).f5)) := (blk_cell BK200.out 5).trans rfl
                        have hfz27_0 := blk_frozen BK200.out 0
                        have hfz27_1 := blk_frozen BK200.out 1
                        have hfz27_2 := blk_frozen BK200.out 2
                        have hfz27_3 := blk_frozen BK200.out 3
                        have hfz27_4 := blk_frozen BK200.out 4
                        have hfz27_5 := blk_frozen BK200.out 5
                        go_wp2_with (first | (go_at_call 30; (with_reducible refine (trickleref55_count.calls kj8 _ _ t193 ((rd_T55 l0 x4_1).f0) t210 _ ?side1 ?side2 A26.out).mono ?_); (case side1 => repeat (first | exact (Kd.R_reads' HO_5.out).2.2 | (with_reducible refine Kd.C_alloc ?_ _) | (with_reducible refine Kd.C_drewN ?_ _) | (with_reducible refine Kd.C_drew ?_))); (case side2 => exact (Kd.R_reads' HO_5.out).2.1); rintro e w' ⟨rfl, ⟨nd, rfl⟩⟩; (try first | exact ⟨rfl, _, World.drewN_drewN _ _ _⟩ | exact ⟨rfl, _, Eq.trans (World.drewN_drewN _ _ _) (congrArg (World.drewN _) (Nat.add_assoc _ _ _))⟩)))
                        repeat (go_quiet (first | (go_at_call 30; (with_reducible refine (trickleref55_count.calls kj8 _ _ t193 ((rd_T55 l0 x4_1).f0) t210 _ ?side1 ?side2 A26.out).mono ?_); (case side1 => repeat (first | exact (Kd.R_reads' HO_5.out).2.2 | (with_reducible refine Kd.C_alloc ?_ _) | (with_reducible refine Kd.C_drewN ?_ _) | (with_reducible refine Kd.C_drew ?_))); (case side2 => exact (Kd.R_reads' HO_5.out).2.1); rintro e w' ⟨rfl, ⟨nd, rfl⟩⟩; (try first | exact ⟨rfl, _, World.drewN_drewN _ _ _⟩ | exact ⟨rfl, _, Eq.trans (World.drewN_drewN _ _ _) (congrArg (World.drewN _) (Nat.add_assoc _ _ _))⟩))); try go_wp2_with (first | (go_at_call 30; (with_reducible refine (trickleref55_count.calls kj8 _ _ t193 ((rd_T55 l0 x4_1).f0) t210 _ ?side1 ?side2 A26.out).mono ?_); (case side1 => repeat (first | exact (Kd.R_reads' HO_5.out).2.2 | (with_reducible refine Kd.C_alloc ?_ _) | (with_reducible refine Kd.C_drewN ?_ _) | (with_reducible refine Kd.C_drew ?_))); (case side2 => exact (Kd.R_reads' HO_5.out).2.1); rintro e w' ⟨rfl, ⟨nd, rfl⟩⟩; (try first | exact ⟨rfl, _, World.drewN_drewN _ _ _⟩ | exact ⟨rfl, _, Eq.trans (World.drewN_drewN _ _ _) (congrArg (World.drewN _) (Nat.add_assoc _ _ _))⟩))))
                        go_meet
                        case rel => exact ⟨_, ((((rd_T55 l0 x4_1).f3) != t210)), (by first | rfl | (simp; done) | (simp [*]; done)), H', ⟨by have := HK1.out; have := HJ8.out; first | omega | exact Nat.le_refl _⟩, ⟨by (with_reducible repeat (first | apply Kd.R_alloc | apply Kd.R_drewN | apply Kd.R_drew)); exact HO_3.out⟩, ⟨by (with_reducible repeat (first | refine blk_drewN ?_ _ | refine blk_drew ?_ | refine blk_alloc ?_ _)); exact BK200.out⟩, ⟨by repeat (first | (with_reducible first | exact HB.out | apply below_alloc | apply pw_below_drewN | apply below_drew1 | refine below_set ?_ GE200.out) | exact HB.out)⟩⟩
                      · rw [if_neg c25] at H
                        have c25b0 : (((rd_T55 l0 x4_1).f0) == 8) = false := beq_eq_false_iff_ne.mpr c25
                        have c25b1 : (((rd_T55 l0 x4_1).f0) != 8) = true := bne_iff_ne.mpr c25
                        have H' := Aside0.mk H
                        clear H
                        have hcz28_0 : wc.cell? ⟨gb200, 0, none⟩ = some (.int .i64 ((rd_T55 l0 x4_1).f0)) := (blk_cell BK200.out 0).trans rfl
                        have hcz28_1 : wc.cell? ⟨gb200, 1, none⟩ = some (.int .i64 ((rd_T55 l0 x4_1).f1)) := (blk_cell BK200.out 1).trans rfl
                        have hcz28_2 : wc.cell? ⟨gb200, 2, none⟩ = some (.int .i64 ((rd_T55 l0 x4_1).f2)) := (blk_cell BK200.out 2).trans rfl
                        have hcz28_3 : wc.cell? ⟨gb200, 3, none⟩ = some (.int .i64 ((rd_T55 l0 x4_1).f3)) := (blk_cell BK200.out 3).trans rfl
                        have hcz28_4 : wc.cell? ⟨gb200, 4, none⟩ = some (.int .i16 ((rd_T55 l0 x4_1).f4)) := (blk_cell BK200.out 4).trans rfl
                        have hcz28_5 : wc.cell? ⟨gb200, 5, none⟩ = some (.int .i64 ((rd_T55 l0 x4_1).f5)) := (blk_cell BK200.out 5).trans rfl
                        have hfz28_0 := blk_frozen BK200.out 0
                        have hfz28_1 := blk_frozen BK200.out 1
                        have hfz28_2 := blk_frozen BK200.out 2
                        have hfz28_3 := blk_frozen BK200.out 3
                        have hfz28_4 := blk_frozen BK200.out 4
                        have hfz28_5 := blk_frozen BK200.out 5
                        go_wp2
                        repeat (go_quiet (fail); try go_wp2)
                        go_meet
                        case rel => exact ⟨_, (false), (by first | rfl | (simp; done) | (simp [*]; done)), H', ⟨by have := HK1.out; have := HJ8.out; first | omega | exact Nat.le_refl _⟩, ⟨by (with_reducible repeat (first | apply Kd.R_alloc | apply Kd.R_drewN | apply Kd.R_drew)); exact HO_3.out⟩, ⟨by (with_reducible repeat (first | refine blk_drewN ?_ _ | refine blk_drew ?_ | refine blk_alloc ?_ _)); exact BK200.out⟩, ⟨by repeat (first | (with_reducible first | exact HB.out | apply below_alloc | apply pw_below_drewN | apply below_drew1 | refine below_set ?_ GE200.out) | exact HB.out)⟩⟩
                  case rest =>
                    clear HC21
                    try clear c1
                    try clear p1
                    try clear q1
                    try clear hx1
                    try clear c2
                    try clear c2b0
                    try clear p2
                    try clear c3
                    try clear c3b0
                    try clear c3b1
                    try clear c4
                    try clear c4b0
                    try clear c4b1
                    try clear p6
                    try clear c7
                    try clear q10
                    try clear c12
                    try clear c18
                    try clear c19
                    try clear p19
                    try clear q19
                    try clear hx19
                    try clear c22
                    try clear c22b0
                    try clear c22b1
                    try clear c25
                    try clear c25b0
                    try clear c25b1
                    try clear hcz13_0
                    try clear hcz13_1
                    try clear hcz13_2
                    try clear hcz13_3
                    try clear hcz13_4
                    try clear hcz13_5
                    try clear hcz15_0
                    try clear hcz15_1
                    try clear hcz15_2
                    try clear hcz15_3
                    try clear hcz15_4
                    try clear hcz15_5
                    try clear hcz24_0
                    try clear hcz24_1
                    try clear hcz24_2
                    try clear hcz24_3
                    try clear hcz24_4
                    try clear hcz24_5
                    try clear hcz27_0
                    try clear hcz27_1
                    try clear hcz27_2
                    try clear hcz27_3
                    try clear hcz27_4
                    try clear hcz27_5
                    try clear hcz28_0
                    try clear hcz28_1
                    try clear hcz28_2
                    try clear hcz28_3
                    try clear hcz28_4
                    try clear hcz28_5
                    try clear hfz13_0
                    try clear hfz13_1
                    try clear hfz13_2
                    try clear hfz13_3
                    try clear hfz13_4
                    try clear hfz13_5
                    try clear hfz15_0
                    try clear hfz15_1
                    try clear hfz15_2
                    try clear hfz15_3
                    try clear hfz15_4
                    try clear hfz15_5
                    try clear hfz24_0
                    try clear hfz24_1
                    try clear hfz24_2
                    try clear hfz24_3
                    try clear hfz24_4
                    try clear hfz24_5
                    try clear hfz27_0
                    try clear hfz27_1
                    try clear hfz27_2
                    try clear hfz27_3
                    try clear hfz27_4
                    try clear hfz27_5
                    try clear hfz28_0
                    try clear hfz28_1
                    try clear hfz28_2
                    try clear hfz28_3
                    try clear hfz28_4
                    try clear hfz28_5
                    try clear hx199_0
                    try clear hx199_1
                    try clear hx199_2
                    try clear hx199_3
                    try clear hx199_4
                    try clear hx199_5
                    try clear p1
                    try clear p19
                    try clear p199
                    try clear p2
                    try clear p6
                    try clear q1
                    try clear q10
                    try clear q19
                    try clear q199
                    obtain ⟨kq, x58_20, rfl, HA, HJ20, HO_3, BK200, HB⟩ := hcut
                    cases kq with
                    | zero => exact absurd HA.out (by simp [trickleref55_Sequence.j2])
                    | succ kj20 =>
                      have H := HA.out
                      clear HA
                      simp only [trickleref55_Sequence.j2] at H
                      by_cases c29 : x58_20 = true
                      · subst c29
                        have H1 : (if x3_8.length < 8796093022208 then (trickleref55_Sequence.l0 kj20 l0 (x3_8 ++ [(⟨x4_1, 2⟩ : S33)]) (wrap64 (x4_1 + 1))) else (none)) = some r := by rw [if_pos rfl] at H; exact H
                        clear H
                        have H := H1
                        clear H1
                        by_cases c30 : x3_8.length < 8796093022208
                        · rw [if_pos c30] at H
                          have LMc30 := Aside0.mk c30
                          clear c30
                          obtain ⟨y211, hy211⟩ : ∃ y_ : List (S33), y_ = (x3_8 ++ [(⟨x4_1, 2⟩ : S33)]) := ⟨_, rfl⟩
                          replace H : (trickleref55_Sequence.l0 kj20 l0 y211 (wrap64 (x4_1 + 1))) = some r := by first | (rw [hy211]; with_reducible exact H) | (have H2_ := (Option.bind_some _ _).symm.trans H; rw [hy211]; with_reducible exact H2_) | (have H2_ := (Option.bind_some _ _).symm.trans H; with_reducible exact H2_) | with_reducible exact H | (rw [hy211]; exact H) | exact H
                          have Ny211 := Aside0.mk hy211
                          clear hy211
                          have H' := Aside0.mk H
                          clear H
                          go_wp2_with (first | ((with_reducible refine gate_builtin (b := .append) (xs := #[.tmp 59, .tmp 62]) rfl ?_); at_builtin; refine Kd.R_append k33 (w0 := w) w.heap.size rfl (.tmp 59) (.tmp 62) 25 33 (.agg #[(.int .i64 0), (.int .i64 0)]) 16 rfl Tryd.underlying25 info33 rfl (by decide) (by omega) u3 x3_8 (⟨x4_1, 2⟩ : S33) [.int .i64 x4_1, .int .i64 2] (fun _ => True) (fun _ => False) rfl rfl ?aP (fun _ hk => hk.elim) ?aF ?aO ?aB ?aS ?aL ?_; (case aP => exact k33_mkM _ _ _ (⟨x4_1, 2⟩ : S33)); (case aB => exact (by repeat (first | (with_reducible first | exact HB.out | apply below_alloc | apply pw_below_drewN | apply below_drew1 | refine below_set ?_ GE200.out) | exact HB.out))); (case aF => exact (fun _ _ => trivial)); (case aO => exact (by (with_reducible repeat (first | apply Kd.R_alloc | apply Kd.R_drewN | apply Kd.R_drew)); exact HO_3.out)); (case aS => exact (below_size (by repeat (first | (with_reducible first | exact HB.out | apply below_alloc | apply pw_below_drewN | apply below_drew1 | refine below_set ?_ GE200.out) | exact HB.out)))); (case aL => have := LMc30.out; omega); intro v212 w31 ho hb hg hat; rw [← Ny211.out] at ho; have n0_ := Aside0.mk (blk_grown (g := gb200) (o := .cells #[.int .i64 ((rd_T55 l0 x4_1).f0), .int .i64 ((rd_T55 l0 x4_1).f1), .int .i64 ((rd_T55 l0 x4_1).f2), .int .i64 ((rd_T55 l0 x4_1).f3), .int .i16 ((rd_T55 l0 x4_1).f4), .int .i64 ((rd_T55 l0 x4_1).f5)] 55 (0, 0)) (by (with_reducible repeat (first | refine blk_drewN ?_ _ | refine blk_drew ?_ | refine blk_alloc ?_ _)); exact BK200.out) hg (Kd.R_ne HO_3.out BK200.out (by decide))); have n1_ := Aside0.mk (hb); have n2_ := Aside0.mk (ho); clear BK200; clear HB; clear HO_3; have BK200 := n0_; have HB := n1_; have HO213 := n2_; clear n0_ n1_ n2_; clear ho hb hg hat))
                          repeat (go_quiet (first | ((with_reducible refine gate_builtin (b := .append) (xs := #[.tmp 59, .tmp 62]) rfl ?_); at_builtin; refine Kd.R_append k33 (w0 := w) w.heap.size rfl (.tmp 59) (.tmp 62) 25 33 (.agg #[(.int .i64 0), (.int .i64 0)]) 16 rfl Tryd.underlying25 info33 rfl (by decide) (by omega) u3 x3_8 (⟨x4_1, 2⟩ : S33) [.int .i64 x4_1, .int .i64 2] (fun _ => True) (fun _ => False) rfl rfl ?aP (fun _ hk => hk.elim) ?aF ?aO ?aB ?aS ?aL ?_; (case aP => exact k33_mkM _ _ _ (⟨x4_1, 2⟩ : S33)); (case aB => exact (by repeat (first | (with_reducible first | exact HB.out | apply below_alloc | apply pw_below_drewN | apply below_drew1 | refine below_set ?_ GE200.out) | exact HB.out))); (case aF => exact (fun _ _ => trivial)); (case aO => exact (by (with_reducible repeat (first | apply Kd.R_alloc | apply Kd.R_drewN | apply Kd.R_drew)); exact HO_3.out)); (case aS => exact (below_size (by repeat (first | (with_reducible first | exact HB.out | apply below_alloc | apply pw_below_drewN | apply below_drew1 | refine below_set ?_ GE200.out) | exact HB.out)))); (case aL => have := LMc30.out; omega); intro v212 w31 ho hb hg hat; rw [← Ny211.out] at ho; have n0_ := Aside0.mk (blk_grown (g := gb200) (o := .cells #[.int .i64 ((rd_T55 l0 x4_1).f0), .int .i64 ((rd_T55 l0 x4_1).f1), .int .i64 ((rd_T55 l0 x4_1).f2), .int .i64 ((rd_T55 l0 x4_1).f3), .int .i16 ((rd_T55 l0 x4_1).f4), .int .i64 ((rd_T55 l0 x4_1).f5)] 55 (0, 0)) (by (with_reducible repeat (first | refine blk_drewN ?_ _ | refine blk_drew ?_ | refine blk_alloc ?_ _)); exact BK200.out) hg (Kd.R_ne HO_3.out BK200.out (by decide))); have n1_ := Aside0.mk (hb); have n2_ := Aside0.mk (ho); clear BK200; clear HB; clear HO_3; have BK200 := n0_; have HB := n1_; have HO213 := n2_; clear n0_ n1_ n2_; clear ho hb hg hat)); try go_wp2_with (first | ((with_reducible refine gate_builtin (b := .append) (xs := #[.tmp 59, .tmp 62]) rfl ?_); at_builtin; refine Kd.R_append k33 (w0 := w) w.heap.size rfl (.tmp 59) (.tmp 62) 25 33 (.agg #[(.int .i64 0), (.int .i64 0)]) 16 rfl Tryd.underlying25 info33 rfl (by decide) (by omega) u3 x3_8 (⟨x4_1, 2⟩ : S33) [.int .i64 x4_1, .int .i64 2] (fun _ => True) (fun _ => False) rfl rfl ?aP (fun _ hk => hk.elim) ?aF ?aO ?aB ?aS ?aL ?_; (case aP => exact k33_mkM _ _ _ (⟨x4_1, 2⟩ : S33)); (case aB => exact (by repeat (first | (with_reducible first | exact HB.out | apply below_alloc | apply pw_below_drewN | apply below_drew1 | refine below_set ?_ GE200.out) | exact HB.out))); (case aF => exact (fun _ _ => trivial)); (case aO => exact (by (with_reducible repeat (first | apply Kd.R_alloc | apply Kd.R_drewN | apply Kd.R_drew)); exact HO_3.out)); (case aS => exact (below_size (by repeat (first | (with_reducible first | exact HB.out | apply below_alloc | apply pw_below_drewN | apply below_drew1 | refine below_set ?_ GE200.out) | exact HB.out)))); (case aL => have := LMc30.out; omega); intro v212 w31 ho hb hg hat; rw [← Ny211.out] at ho; have n0_ := Aside0.mk (blk_grown (g := gb200) (o := .cells #[.int .i64 ((rd_T55 l0 x4_1).f0), .int .i64 ((rd_T55 l0 x4_1).f1), .int .i64 ((rd_T55 l0 x4_1).f2), .int .i64 ((rd_T55 l0 x4_1).f3), .int .i16 ((rd_T55 l0 x4_1).f4), .int .i64 ((rd_T55 l0 x4_1).f5)] 55 (0, 0)) (by (with_reducible repeat (first | refine blk_drewN ?_ _ | refine blk_drew ?_ | refine blk_alloc ?_ _)); exact BK200.out) hg (Kd.R_ne HO_3.out BK200.out (by decide))); have n1_ := Aside0.mk (hb); have n2_ := Aside0.mk (ho); clear BK200; clear HB; clear HO_3; have BK200 := n0_; have HB := n1_; have HO213 := n2_; clear n0_ n1_ n2_; clear ho hb hg hat)))
                          go_roundg kj20
                          case measure => have := HK1.out; have := HJ8.out; have := HJ20.out; omega
                          case rel => exact ⟨(y211), (wrap64 (x4_1 + 1)), (by first | rfl | (simp; done) | (simp [*]; done)), H', ⟨by have := HK1.out; have := HJ8.out; have := HJ20.out; omega⟩, ⟨by (with_reducible repeat (first | apply Kd.R_alloc | apply Kd.R_drewN | apply Kd.R_drew)); exact HO213.out⟩, ⟨by repeat (first | (with_reducible first | exact HB.out | apply below_alloc | apply pw_below_drewN | apply below_drew1 | refine below_set ?_ GE200.out) | exact HB.out)⟩⟩
                        · rw [if_neg c30] at H
                          exact absurd H (by simp)
                      · replace c29 := Bool.eq_false_iff.mpr c29
                        subst c29
                        have H1 : (trickleref55_Sequence.l0 kj20 l0 x3_8 (wrap64 (x4_1 + 1))) = some r := by rw [if_neg (show ¬ (false = true) by decide)] at H; exact H
                        clear H
                        have H := H1
                        clear H1
                        have H' := Aside0.mk H
                        clear H
                        go_wp2
                        repeat (go_quiet (fail); try go_wp2)
                        go_roundg kj20
                        case measure => have := HK1.out; have := HJ8.out; have := HJ20.out; omega
                        case rel => exact ⟨(x3_8), (wrap64 (x4_1 + 1)), (by first | rfl | (simp; done) | (simp [*]; done)), H', ⟨by have := HK1.out; have := HJ8.out; have := HJ20.out; omega⟩, ⟨by (with_reducible repeat (first | apply Kd.R_alloc | apply Kd.R_drewN | apply Kd.R_drew)); exact HO_3.out⟩, ⟨by repeat (first | (with_reducible first | exact HB.out | apply below_alloc | apply pw_below_drewN | apply below_drew1 | refine below_set ?_ GE200.out) | exact HB.out)⟩⟩
            · replace c7 := Bool.eq_false_iff.mpr c7
              subst c7
              have H1 : (if x3_1.length < 8796093022208 then (trickleref55_Sequence.l0 k1 l0 (x3_1 ++ [(⟨x4_1, 1⟩ : S33)]) (wrap64 (x4_1 + 1))) else (none)) = some r := by rw [if_neg (show ¬ (false = true) by decide)] at H; exact H
              clear H
              have H := H1
              clear H1
              by_cases c32 : x3_1.length < 8796093022208
              · rw [if_pos c32] at H
                have LMc32 := Aside0.mk c32
                clear c32
                obtain ⟨y202, hy202⟩ : ∃ y_ : List (S33), y_ = (x3_1 ++ [(⟨x4_1, 1⟩ : S33)]) := ⟨_, rfl⟩
                replace H : (trickleref55_Sequence.l0 k1 l0 y202 (wrap64 (x4_1 + 1))) = some r := by first | (rw [hy202]; with_reducible exact H) | (have H2_ := (Option.bind_some _ _).symm.trans H; rw [hy202]; with_reducible exact H2_) | (have H2_ := (Option.bind_some _ _).symm.trans H; with_reducible exact H2_) | with_reducible exact H | (rw [hy202]; exact H) | exact H
                have Ny202 := Aside0.mk hy202
                clear hy202
                have H' := Aside0.mk H
                clear H
                have q33 : (x4_1 : Int) ≤ ((l0.length : Int) : Int) := of_decide_eq_true (by first | (with_reducible assumption) | assumption)
                obtain ⟨i033, hi033, _, hsz33, _⟩ := info_parts info55
                have hroom33 : l0.length ≤ c0 := HC0.out
                have hC33 : Kd.C k55 _ A0 l0.length l0 := HR0.out
                have hcut33 := cut_to (P := Tryd.prog) 22 55 .i64 Tryd.underlying22 hi033 A0 l0.length c0 x4_1 (of_decide_eq_true (by first | (with_reducible assumption) | assumption)) q33 hroom33
                have hr33 := Kd.C_take (m := (x4_1 : Int).toNat) hC33 (by omega)
                have hy33 : y189.length = (x4_1 : Int).toNat := (by rw [Ny189.out, List.length_take]; omega)
                rw [← Ny189.out] at hr33
                rw [← hy33] at hcut33
                have HR192 := Aside0.mk hr33
                have HC192 := Aside0.mk (show y189.length ≤ c0 from by omega)
                clear hr33 hC33 hroom33 hi033 hsz33
                have KY33 := Aside0.mk hy33
                clear hy33
                replace q33 := eq_true q33
                go_wp2_with (first | (go_at_call 27; (with_reducible refine (trickleref55_indexed.calls k1 _ _ y189 t193 t194 _ ?side1 ?side2 A5.out).mono ?_); (case side1 => repeat (first | exact (Kd.C_below HR192.out HB.out) | (with_reducible refine Kd.C_alloc ?_ _) | (with_reducible refine Kd.C_drewN ?_ _) | (with_reducible refine Kd.C_drew ?_))); (case side2 => exact HC192.out); rintro e w34 ⟨v195, v197, rfl, ho0, ho1, hb⟩; have n0_ := Aside0.mk (Kd.R_below (by (with_reducible repeat (first | apply Kd.R_alloc | apply Kd.R_drewN | apply Kd.R_drew)); exact HO_3.out) hb); have n1_ := Aside0.mk (Kd.R_lower ho0 (below_size (by repeat (first | (with_reducible first | exact HB.out | apply below_alloc | apply pw_below_drewN | apply below_drew1) | exact HB.out)))); have n2_ := Aside0.mk (Kd.R_lower ho1 (below_size (by repeat (first | (with_reducible first | exact HB.out | apply below_alloc | apply pw_below_drewN | apply below_drew1) | exact HB.out)))); have n3_ := Aside0.mk (below_step (by repeat (first | (with_reducible first | exact HB.out | apply below_alloc | apply pw_below_drewN | apply below_drew1) | exact HB.out)) hb); clear HO_3; clear HB; have HO_3 := n0_; have HO196 := n1_; have HO198 := n2_; have HB := n3_; clear n0_ n1_ n2_ n3_; (try clear hb); (try clear hb2); (try clear hk); (try clear hi); (try clear ho0); (try clear ho1); have p199 : 0 ≤ (x4_1 : Int) := of_decide_eq_true (by first | (with_reducible assumption) | assumption); have q199 : x4_1 < (l0.length : Int) := of_decide_eq_true (by first | (with_reducible assumption) | assumption); obtain ⟨ad199, e199, hx199_0, hx199_1, hx199_2, hx199_3, hx199_4, hx199_5⟩ := at_T55 HR0.out x4_1 p199 q199; cases e199; replace hx199_0 := (HB.out.cell (World.block_lt_of_cell? w _ hx199_0)).trans hx199_0; replace hx199_1 := (HB.out.cell (World.block_lt_of_cell? w _ hx199_1)).trans hx199_1; replace hx199_2 := (HB.out.cell (World.block_lt_of_cell? w _ hx199_2)).trans hx199_2; replace hx199_3 := (HB.out.cell (World.block_lt_of_cell? w _ hx199_3)).trans hx199_3; replace hx199_4 := (HB.out.cell (World.block_lt_of_cell? w _ hx199_4)).trans hx199_4; replace hx199_5 := (HB.out.cell (World.block_lt_of_cell? w _ hx199_5)).trans hx199_5; replace p199 := eq_true p199; replace q199 := eq_true q199) | ((with_reducible refine gate_dst (N := 7) rfl ?_); refine box_event ?hg (N := 7) ?hd (cs := #[.int .i64 0, .int .i64 0, .int .i64 0, .int .i64 0, .int .i16 0, .int .i64 0]) (t := 55) ?hr ?_; (case hd => rfl); (case hg => rfl); (case hr => first | (go_simp; done) | (go_simp; rfl)); intro gb200 hg w35 hbox hb; have n0_ := Aside0.mk (Kd.R_below (by (with_reducible repeat (first | apply Kd.R_alloc | apply Kd.R_drewN | apply Kd.R_drew)); exact HO_3.out) hb); have n1_ := Aside0.mk (Kd.R_below (Kd.R_elderB (by (with_reducible repeat (first | apply Kd.R_alloc | apply Kd.R_drewN | apply Kd.R_drew)); exact HO196.out) gb200 (Nat.le_of_eq hg.symm)) hb); have n2_ := Aside0.mk (Kd.R_below (by (with_reducible repeat (first | apply Kd.R_alloc | apply Kd.R_drewN | apply Kd.R_drew)); exact HO198.out) hb); have n3_ := Aside0.mk (below_step (by repeat (first | (with_reducible first | exact HB.out | apply below_alloc | apply pw_below_drewN | apply below_drew1) | exact HB.out)) hb); have n4_ := Aside0.mk (hbox); have n5_ := Aside0.mk ((by rw [hg]; exact (below_size (by repeat (first | (with_reducible first | exact HB.out | apply below_alloc | apply pw_below_drewN | apply below_drew1) | exact HB.out))) : w.heap.size ≤ gb200)); have n6_ := Aside0.mk ((by rw [hg]; exact (below_size (by repeat (first | (with_reducible first | exact HB.out | apply below_alloc | apply pw_below_drewN | apply below_drew1) | exact HB.out))) : w.heap.size ≤ gb200)); clear HO_3; clear HO196; clear HO198; clear HB; have HO_3 := n0_; have HO196 := n1_; have HO198 := n2_; have HB := n3_; have BK200 := n4_; have GW200 := n5_; have GE200 := n6_; clear n0_ n1_ n2_ n3_ n4_ n5_ n6_; clear hb hbox hg; have hcz36_0 : w35.cell? ⟨gb200, 0, none⟩ = some (.int .i64 0) := (blk_cell BK200.out 0).trans rfl; have hcz36_1 : w35.cell? ⟨gb200, 1, none⟩ = some (.int .i64 0) := (blk_cell BK200.out 1).trans rfl; have hcz36_2 : w35.cell? ⟨gb200, 2, none⟩ = some (.int .i64 0) := (blk_cell BK200.out 2).trans rfl; have hcz36_3 : w35.cell? ⟨gb200, 3, none⟩ = some (.int .i64 0) := (blk_cell BK200.out 3).trans rfl; have hcz36_4 : w35.cell? ⟨gb200, 4, none⟩ = some (.int .i16 0) := (blk_cell BK200.out 4).trans rfl; have hcz36_5 : w35.cell? ⟨gb200, 5, none⟩ = some (.int .i64 0) := (blk_cell BK200.out 5).trans rfl; have hfz36_0 := blk_frozen BK200.out 0; have hfz36_1 := blk_frozen BK200.out 1; have hfz36_2 := blk_frozen BK200.out 2; have hfz36_3 := blk_frozen BK200.out 3; have hfz36_4 := blk_frozen BK200.out 4; have hfz36_5 := blk_frozen BK200.out 5) | (go_at_call 28; (with_reducible refine (trickleref52_Valid.calls k1 ((rd_T55 l0 x4_1).f0) ((rd_T55 l0 x4_1).f1) ((rd_T55 l0 x4_1).f2) ((rd_T55 l0 x4_1).f3) ((rd_T55 l0 x4_1).f4) ((rd_T55 l0 x4_1).f5) false _ A6.out).mono ?_); rintro e w37 ⟨rfl, hb⟩; have n0_ := Aside0.mk (Kd.R_below (by (with_reducible repeat (first | apply Kd.R_alloc | apply Kd.R_drewN | apply Kd.R_drew)); exact (Kd.R_mono (Kd.R_far (p := ⟨gb200, 5, none⟩) (Kd.R_far (p := ⟨gb200, 4, none⟩) (Kd.R_far (p := ⟨gb200, 3, none⟩) (Kd.R_far (p := ⟨gb200, 2, none⟩) (Kd.R_far (p := ⟨gb200, 1, none⟩) (Kd.R_far (p := ⟨gb200, 0, none⟩) (Kd.R_types HO_3.out BK200.out (by decide)) (fun _ hk => hk.2) (.int .i64 ((rd_T55 l0 x4_1).f0))) (fun _ hk => hk.2) (.int .i64 ((rd_T55 l0 x4_1).f1))) (fun _ hk => hk.2) (.int .i64 ((rd_T55 l0 x4_1).f2))) (fun _ hk => hk.2) (.int .i64 ((rd_T55 l0 x4_1).f3))) (fun _ hk => hk.2) (.int .i16 ((rd_T55 l0 x4_1).f4))) (fun _ hk => hk.2) (.int .i64 ((rd_T55 l0 x4_1).f5))) (fun _ h_ => h_.1))) hb); have n1_ := Aside0.mk (Kd.R_below (by (with_reducible repeat (first | apply Kd.R_alloc | apply Kd.R_drewN | apply Kd.R_drew)); exact (Kd.R_mono (Kd.R_far (p := ⟨gb200, 5, none⟩) (Kd.R_far (p := ⟨gb200, 4, none⟩) (Kd.R_far (p := ⟨gb200, 3, none⟩) (Kd.R_far (p := ⟨gb200, 2, none⟩) (Kd.R_far (p := ⟨gb200, 1, none⟩) (Kd.R_far (p := ⟨gb200, 0, none⟩) (Kd.R_mono HO196.out (fun k_ hk => (⟨hk, hk.2⟩ : _ ∧ k_ ≠ gb200))) (fun _ hk => hk.2) (.int .i64 ((rd_T55 l0 x4_1).f0))) (fun _ hk => hk.2) (.int .i64 ((rd_T55 l0 x4_1).f1))) (fun _ hk => hk.2) (.int .i64 ((rd_T55 l0 x4_1).f2))) (fun _ hk => hk.2) (.int .i64 ((rd_T55 l0 x4_1).f3))) (fun _ hk => hk.2) (.int .i16 ((rd_T55 l0 x4_1).f4))) (fun _ hk => hk.2) (.int .i64 ((rd_T55 l0 x4_1).f5))) (fun _ h_ => h_.1))) hb); have n2_ := Aside0.mk (Kd.R_below (by (with_reducible repeat (first | apply Kd.R_alloc | apply Kd.R_drewN | apply Kd.R_drew)); exact (Kd.R_mono (Kd.R_far (p := ⟨gb200, 5, none⟩) (Kd.R_far (p := ⟨gb200, 4, none⟩) (Kd.R_far (p := ⟨gb200, 3, none⟩) (Kd.R_far (p := ⟨gb200, 2, none⟩) (Kd.R_far (p := ⟨gb200, 1, none⟩) (Kd.R_far (p := ⟨gb200, 0, none⟩) (Kd.R_types HO198.out BK200.out (by decide)) (fun _ hk => hk.2) (.int .i64 ((rd_T55 l0 x4_1).f0))) (fun _ hk => hk.2) (.int .i64 ((rd_T55 l0 x4_1).f1))) (fun _ hk => hk.2) (.int .i64 ((rd_T55 l0 x4_1).f2))) (fun _ hk => hk.2) (.int .i64 ((rd_T55 l0 x4_1).f3))) (fun _ hk => hk.2) (.int .i16 ((rd_T55 l0 x4_1).f4))) (fun _ hk => hk.2) (.int .i64 ((rd_T55 l0 x4_1).f5))) (fun _ h_ => h_.1))) hb); have n3_ := Aside0.mk (blk_below (g := gb200) (o := .cells #[.int .i64 ((rd_T55 l0 x4_1).f0), .int .i64 ((rd_T55 l0 x4_1).f1), .int .i64 ((rd_T55 l0 x4_1).f2), .int .i64 ((rd_T55 l0 x4_1).f3), .int .i16 ((rd_T55 l0 x4_1).f4), .int .i64 ((rd_T55 l0 x4_1).f5)] 55 (0, 0)) (by (with_reducible repeat (first | refine blk_drewN ?_ _ | refine blk_drew ?_ | refine blk_alloc ?_ _)); refine blk_put (cs := #[.int .i64 ((rd_T55 l0 x4_1).f0), .int .i64 ((rd_T55 l0 x4_1).f1), .int .i64 ((rd_T55 l0 x4_1).f2), .int .i64 ((rd_T55 l0 x4_1).f3), .int .i16 ((rd_T55 l0 x4_1).f4), .int .i64 0]) ?_ 5 _ rfl; (with_reducible repeat (first | refine blk_drewN ?_ _ | refine blk_drew ?_ | refine blk_alloc ?_ _)); refine blk_put (cs := #[.int .i64 ((rd_T55 l0 x4_1).f0), .int .i64 ((rd_T55 l0 x4_1).f1), .int .i64 ((rd_T55 l0 x4_1).f2), .int .i64 ((rd_T55 l0 x4_1).f3), .int .i16 0, .int .i64 0]) ?_ 4 _ rfl; (with_reducible repeat (first | refine blk_drewN ?_ _ | refine blk_drew ?_ | refine blk_alloc ?_ _)); refine blk_put (cs := #[.int .i64 ((rd_T55 l0 x4_1).f0), .int .i64 ((rd_T55 l0 x4_1).f1), .int .i64 ((rd_T55 l0 x4_1).f2), .int .i64 0, .int .i16 0, .int .i64 0]) ?_ 3 _ rfl; (with_reducible repeat (first | refine blk_drewN ?_ _ | refine blk_drew ?_ | refine blk_alloc ?_ _)); refine blk_put (cs := #[.int .i64 ((rd_T55 l0 x4_1).f0), .int .i64 ((rd_T55 l0 x4_1).f1), .int .i64 0, .int .i64 0, .int .i16 0, .int .i64 0]) ?_ 2 _ rfl; (with_reducible repeat (first | refine blk_drewN ?_ _ | refine blk_drew ?_ | refine blk_alloc ?_ _)); refine blk_put (cs := #[.int .i64 ((rd_T55 l0 x4_1).f0), .int .i64 0, .int .i64 0, .int .i64 0, .int .i16 0, .int .i64 0]) ?_ 1 _ rfl; (with_reducible repeat (first | refine blk_drewN ?_ _ | refine blk_drew ?_ | refine blk_alloc ?_ _)); refine blk_put (cs := #[.int .i64 0, .int .i64 0, .int .i64 0, .int .i64 0, .int .i16 0, .int .i64 0]) ?_ 0 _ rfl; (with_reducible repeat (first | refine blk_drewN ?_ _ | refine blk_drew ?_ | refine blk_alloc ?_ _)); exact BK200.out) hb); have n4_ := Aside0.mk (below_step (by repeat (first | (with_reducible first | exact HB.out | apply below_alloc | apply pw_below_drewN | apply below_drew1 | refine below_set ?_ GE200.out) | exact HB.out)) hb); clear HO_3; clear HO196; clear HO198; clear BK200; clear HB; have HO_3 := n0_; have HO196 := n1_; have HO198 := n2_; have BK200 := n3_; have HB := n4_; clear n0_ n1_ n2_ n3_ n4_; (try clear hb); (try clear hb2); (try clear hk); (try clear hi)) | ((with_reducible refine gate_builtin (b := .append) (xs := #[.tmp 28, .tmp 31]) rfl ?_); at_builtin; refine Kd.R_append k33 (w0 := w) w.heap.size rfl (.tmp 28) (.tmp 31) 25 33 (.agg #[(.int .i64 0), (.int .i64 0)]) 16 rfl Tryd.underlying25 info33 rfl (by decide) (by omega) u3 x3_1 (⟨x4_1, 1⟩ : S33) [.int .i64 x4_1, .int .i64 1] (fun _ => True) (fun _ => False) rfl rfl ?aP (fun _ hk => hk.elim) ?aF ?aO ?aB ?aS ?aL ?_; (case aP => exact k33_mkM _ _ _ (⟨x4_1, 1⟩ : S33)); (case aB => exact (by repeat (first | (with_reducible first | exact HB.out | apply below_alloc | apply pw_below_drewN | apply below_drew1 | refine below_set ?_ GE200.out) | exact HB.out))); (case aF => exact (fun _ _ => trivial)); (case aO => exact (by (with_reducible repeat (first | apply Kd.R_alloc | apply Kd.R_drewN | apply Kd.R_drew)); exact HO_3.out)); (case aS => exact (below_size (by repeat (first | (with_reducible first | exact HB.out | apply below_alloc | apply pw_below_drewN | apply below_drew1 | refine below_set ?_ GE200.out) | exact HB.out)))); (case aL => have := LMc32.out; omega); intro v203 w38 ho hb hg hat; rw [← Ny202.out] at ho; have n0_ := Aside0.mk (Kd.R_over' (by (with_reducible repeat (first | apply Kd.R_alloc | apply Kd.R_drewN | apply Kd.R_drew)); exact HO196.out) (Kd.R_typed (by (with_reducible repeat (first | apply Kd.R_alloc | apply Kd.R_drewN | apply Kd.R_drew)); exact HO_3.out)) (by decide) hg); have n1_ := Aside0.mk (Kd.R_over' (by (with_reducible repeat (first | apply Kd.R_alloc | apply Kd.R_drewN | apply Kd.R_drew)); exact HO198.out) (Kd.R_typed (by (with_reducible repeat (first | apply Kd.R_alloc | apply Kd.R_drewN | apply Kd.R_drew)); exact HO_3.out)) (by decide) hg); have n2_ := Aside0.mk (blk_grown (g := gb200) (o := .cells #[.int .i64 ((rd_T55 l0 x4_1).f0), .int .i64 ((rd_T55 l0 x4_1).f1), .int .i64 ((rd_T55 l0 x4_1).f2), .int .i64 ((rd_T55 l0 x4_1).f3), .int .i16 ((rd_T55 l0 x4_1).f4), .int .i64 ((rd_T55 l0 x4_1).f5)] 55 (0, 0)) (by (with_reducible repeat (first | refine blk_drewN ?_ _ | refine blk_drew ?_ | refine blk_alloc ?_ _)); exact BK200.out) hg (Kd.R_ne HO_3.out BK200.out (by decide))); have n3_ := Aside0.mk (hb); have n4_ := Aside0.mk (ho); clear HO196; clear HO198; clear BK200; clear HB; clear HO_3; have HO196 := n0_; have HO198 := n1_; have BK200 := n2_; have HB := n3_; have HO204 := n4_; clear n0_ n1_ n2_ n3_ n4_; clear ho hb hg hat))
                repeat (go_quiet (first | (go_at_call 27; (with_reducible refine (trickleref55_indexed.calls k1 _ _ y189 t193 t194 _ ?side1 ?side2 A5.out).mono ?_); (case side1 => repeat (first | exact (Kd.C_below HR192.out HB.out) | (with_reducible refine Kd.C_alloc ?_ _) | (with_reducible refine Kd.C_drewN ?_ _) | (with_reducible refine Kd.C_drew ?_))); (case side2 => exact HC192.out); rintro e w34 ⟨v195, v197, rfl, ho0, ho1, hb⟩; have n0_ := Aside0.mk (Kd.R_below (by (with_reducible repeat (first | apply Kd.R_alloc | apply Kd.R_drewN | apply Kd.R_drew)); exact HO_3.out) hb); have n1_ := Aside0.mk (Kd.R_lower ho0 (below_size (by repeat (first | (with_reducible first | exact HB.out | apply below_alloc | apply pw_below_drewN | apply below_drew1) | exact HB.out)))); have n2_ := Aside0.mk (Kd.R_lower ho1 (below_size (by repeat (first | (with_reducible first | exact HB.out | apply below_alloc | apply pw_below_drewN | apply below_drew1) | exact HB.out)))); have n3_ := Aside0.mk (below_step (by repeat (first | (with_reducible first | exact HB.out | apply below_alloc | apply pw_below_drewN | apply below_drew1) | exact HB.out)) hb); clear HO_3; clear HB; have HO_3 := n0_; have HO196 := n1_; have HO198 := n2_; have HB := n3_; clear n0_ n1_ n2_ n3_; (try clear hb); (try clear hb2); (try clear hk); (try clear hi); (try clear ho0); (try clear ho1); have p199 : 0 ≤ (x4_1 : Int) := of_decide_eq_true (by first | (with_reducible assumption) | assumption); have q199 : x4_1 < (l0.length : Int) := of_decide_eq_true (by first | (with_reducible assumption) | assumption); obtain ⟨ad199, e199, hx199_0, hx199_1, hx199_2, hx199_3, hx199_4, hx199_5⟩ := at_T55 HR0.out x4_1 p199 q199; cases e199; replace hx199_0 := (HB.out.cell (World.block_lt_of_cell? w _ hx199_0)).trans hx199_0; replace hx199_1 := (HB.out.cell (World.block_lt_of_cell? w _ hx199_1)).trans hx199_1; replace hx199_2 := (HB.out.cell (World.block_lt_of_cell? w _ hx199_2)).trans hx199_2; replace hx199_3 := (HB.out.cell (World.block_lt_of_cell? w _ hx199_3)).trans hx199_3; replace hx199_4 := (HB.out.cell (World.block_lt_of_cell? w _ hx199_4)).trans hx199_4; replace hx199_5 := (HB.out.cell (World.block_lt_of_cell? w _ hx199_5)).trans hx199_5; replace p199 := eq_true p199; replace q199 := eq_true q199) | ((with_reducible refine gate_dst (N := 7) rfl ?_); refine box_event ?hg (N := 7) ?hd (cs := #[.int .i64 0, .int .i64 0, .int .i64 0, .int .i64 0, .int .i16 0, .int .i64 0]) (t := 55) ?hr ?_; (case hd => rfl); (case hg => rfl); (case hr => first | (go_simp; done) | (go_simp; rfl)); intro gb200 hg w35 hbox hb; have n0_ := Aside0.mk (Kd.R_below (by (with_reducible repeat (first | apply Kd.R_alloc | apply Kd.R_drewN | apply Kd.R_drew)); exact HO_3.out) hb); have n1_ := Aside0.mk (Kd.R_below (Kd.R_elderB (by (with_reducible repeat (first | apply Kd.R_alloc | apply Kd.R_drewN | apply Kd.R_drew)); exact HO196.out) gb200 (Nat.le_of_eq hg.symm)) hb); have n2_ := Aside0.mk (Kd.R_below (by (with_reducible repeat (first | apply Kd.R_alloc | apply Kd.R_drewN | apply Kd.R_drew)); exact HO198.out) hb); have n3_ := Aside0.mk (below_step (by repeat (first | (with_reducible first | exact HB.out | apply below_alloc | apply pw_below_drewN | apply below_drew1) | exact HB.out)) hb); have n4_ := Aside0.mk (hbox); have n5_ := Aside0.mk ((by rw [hg]; exact (below_size (by repeat (first | (with_reducible first | exact HB.out | apply below_alloc | apply pw_below_drewN | apply below_drew1) | exact HB.out))) : w.heap.size ≤ gb200)); have n6_ := Aside0.mk ((by rw [hg]; exact (below_size (by repeat (first | (with_reducible first | exact HB.out | apply below_alloc | apply pw_below_drewN | apply below_drew1) | exact HB.out))) : w.heap.size ≤ gb200)); clear HO_3; clear HO196; clear HO198; clear HB; have HO_3 := n0_; have HO196 := n1_; have HO198 := n2_; have HB := n3_; have BK200 := n4_; have GW200 := n5_; have GE200 := n6_; clear n0_ n1_ n2_ n3_ n4_ n5_ n6_; clear hb hbox hg; have hcz36_0 : w35.cell? ⟨gb200, 0, none⟩ = some (.int .i64 0) := (blk_cell BK200.out 0).trans rfl; have hcz36_1 : w35.cell? ⟨gb200, 1, none⟩ = some (.int .i64 0) := (blk_cell BK200.out 1).trans rfl; have hcz36_2 : w35.cell? ⟨gb200, 2, none⟩ = some (.int .i64 0) := (blk_cell BK200.out 2).trans rfl; have hcz36_3 : w35.cell? ⟨gb200, 3, none⟩ = some (.int .i64 0) := (blk_cell BK200.out 3).trans rfl; have hcz36_4 : w35.cell? ⟨gb200, 4, none⟩ = some (.int .i16 0) := (blk_cell BK200.out 4).trans rfl; have hcz36_5 : w35.cell? ⟨gb200, 5, none⟩ = some (.int .i64 0) := (blk_cell BK200.out 5).trans rfl; have hfz36_0 := blk_frozen BK200.out 0; have hfz36_1 := blk_frozen BK200.out 1; have hfz36_2 := blk_frozen BK200.out 2; have hfz36_3 := blk_frozen BK200.out 3; have hfz36_4 := blk_frozen BK200.out 4; have hfz36_5 := blk_frozen BK200.out 5) | (go_at_call 28; (with_reducible refine (trickleref52_Valid.calls k1 ((rd_T55 l0 x4_1).f0) ((rd_T55 l0 x4_1).f1) ((rd_T55 l0 x4_1).f2) ((rd_T55 l0 x4_1).f3) ((rd_T55 l0 x4_1).f4) ((rd_T55 l0 x4_1).f5) false _ A6.out).mono ?_); rintro e w37 ⟨rfl, hb⟩; have n0_ := Aside0.mk (Kd.R_below (by (with_reducible repeat (first | apply Kd.R_alloc | apply Kd.R_drewN | apply Kd.R_drew)); exact (Kd.R_mono (Kd.R_far (p := ⟨gb200, 5, none⟩) (Kd.R_far (p := ⟨gb200, 4, none⟩) (Kd.R_far (p := ⟨gb200, 3, none⟩) (Kd.R_far (p := ⟨gb200, 2, none⟩) (Kd.R_far (p := ⟨gb200, 1, none⟩) (Kd.R_far (p := ⟨gb200, 0, none⟩) (Kd.R_types HO_3.out BK200.out (by decide)) (fun _ hk => hk.2) (.int .i64 ((rd_T55 l0 x4_1).f0))) (fun _ hk => hk.2) (.int .i64 ((rd_T55 l0 x4_1).f1))) (fun _ hk => hk.2) (.int .i64 ((rd_T55 l0 x4_1).f2))) (fun _ hk => hk.2) (.int .i64 ((rd_T55 l0 x4_1).f3))) (fun _ hk => hk.2) (.int .i16 ((rd_T55 l0 x4_1).f4))) (fun _ hk => hk.2) (.int .i64 ((rd_T55 l0 x4_1).f5))) (fun _ h_ => h_.1))) hb); have n1_ := Aside0.mk (Kd.R_below (by (with_reducible repeat (first | apply Kd.R_alloc | apply Kd.R_drewN | apply Kd.R_drew)); exact (Kd.R_mono (Kd.R_far (p := ⟨gb200, 5, none⟩) (Kd.R_far (p := ⟨gb200, 4, none⟩) (Kd.R_far (p := ⟨gb200, 3, none⟩) (Kd.R_far (p := ⟨gb200, 2, none⟩) (Kd.R_far (p := ⟨gb200, 1, none⟩) (Kd.R_far (p := ⟨gb200, 0, none⟩) (Kd.R_mono HO196.out (fun k_ hk => (⟨hk, hk.2⟩ : _ ∧ k_ ≠ gb200))) (fun _ hk => hk.2) (.int .i64 ((rd_T55 l0 x4_1).f0))) (fun _ hk => hk.2) (.int .i64 ((rd_T55 l0 x4_1).f1))) (fun _ hk => hk.2) (.int .i64 ((rd_T55 l0 x4_1).f2))) (fun _ hk => hk.2) (.int .i64 ((rd_T55 l0 x4_1).f3))) (fun _ hk => hk.2) (.int .i16 ((rd_T55 l0 x4_1).f4))) (fun _ hk => hk.2) (.int .i64 ((rd_T55 l0 x4_1).f5))) (fun _ h_ => h_.1))) hb); have n2_ := Aside0.mk (Kd.R_below (by (with_reducible repeat (first | apply Kd.R_alloc | apply Kd.R_drewN | apply Kd.R_drew)); exact (Kd.R_mono (Kd.R_far (p := ⟨gb200, 5, none⟩) (Kd.R_far (p := ⟨gb200, 4, none⟩) (Kd.R_far (p := ⟨gb200, 3, none⟩) (Kd.R_far (p := ⟨gb200, 2, none⟩) (Kd.R_far (p := ⟨gb200, 1, none⟩) (Kd.R_far (p := ⟨gb200, 0, none⟩) (Kd.R_types HO198.out BK200.out (by decide)) (fun _ hk => hk.2) (.int .i64 ((rd_T55 l0 x4_1).f0))) (fun _ hk => hk.2) (.int .i64 ((rd_T55 l0 x4_1).f1))) (fun _ hk => hk.2) (.int .i64 ((rd_T55 l0 x4_1).f2))) (fun _ hk => hk.2) (.int .i64 ((rd_T55 l0 x4_1).f3))) (fun _ hk => hk.2) (.int .i16 ((rd_T55 l0 x4_1).f4))) (fun _ hk => hk.2) (.int .i64 ((rd_T55 l0 x4_1).f5))) (fun _ h_ => h_.1))) hb); have n3_ := Aside0.mk (blk_below (g := gb200) (o := .cells #[.int .i64 ((rd_T55 l0 x4_1).f0), .int .i64 ((rd_T55 l0 x4_1).f1), .int .i64 ((rd_T55 l0 x4_1).f2), .int .i64 ((rd_T55 l0 x4_1).f3), .int .i16 ((rd_T55 l0 x4_1).f4), .int .i64 ((rd_T55 l0 x4_1).f5)] 55 (0, 0)) (by (with_reducible repeat (first | refine blk_drewN ?_ _ | refine blk_drew ?_ | refine blk_alloc ?_ _)); refine blk_put (cs := #[.int .i64 ((rd_T55 l0 x4_1).f0), .int .i64 ((rd_T55 l0 x4_1).f1), .int .i64 ((rd_T55 l0 x4_1).f2), .int .i64 ((rd_T55 l0 x4_1).f3), .int .i16 ((rd_T55 l0 x4_1).f4), .int .i64 0]) ?_ 5 _ rfl; (with_reducible repeat (first | refine blk_drewN ?_ _ | refine blk_drew ?_ | refine blk_alloc ?_ _)); refine blk_put (cs := #[.int .i64 ((rd_T55 l0 x4_1).f0), .int .i64 ((rd_T55 l0 x4_1).f1), .int .i64 ((rd_T55 l0 x4_1).f2), .int .i64 ((rd_T55 l0 x4_1).f3), .int .i16 0, .int .i64 0]) ?_ 4 _ rfl; (with_reducible repeat (first | refine blk_drewN ?_ _ | refine blk_drew ?_ | refine blk_alloc ?_ _)); refine blk_put (cs := #[.int .i64 ((rd_T55 l0 x4_1).f0), .int .i64 ((rd_T55 l0 x4_1).f1), .int .i64 ((rd_T55 l0 x4_1).f2), .int .i64 0, .int .i16 0, .int .i64 0]) ?_ 3 _ rfl; (with_reducible repeat (first | refine blk_drewN ?_ _ | refine blk_drew ?_ | refine blk_alloc ?_ _)); refine blk_put (cs := #[.int .i64 ((rd_T55 l0 x4_1).f0), .int .i64 ((rd_T55 l0 x4_1).f1), .int .i64 0, .int .i64 0, .int .i16 0, .int .i64 0]) ?_ 2 _ rfl; (with_reducible repeat (first | refine blk_drewN ?_ _ | refine blk_drew ?_ | refine blk_alloc ?_ _)); refine blk_put (cs := #[.int .i64 ((rd_T55 l0 x4_1).f0), .int .i64 0, .int .i64 0, .int .i64 0, .int .i16 0, .int .i64 0]) ?_ 1 _ rfl; (with_reducible repeat (first | refine blk_drewN ?_ _ | refine blk_drew ?_ | refine blk_alloc ?_ _)); refine blk_put (cs := #[.int .i64 0, .int .i64 0, .int .i64 0, .int .i64 0, .int .i16 0, .int .i64 0]) ?_ 0 _ rfl; (with_reducible repeat (first | refine blk_drewN ?_ _ | refine blk_drew ?_ | refine blk_alloc ?_ _)); exact BK200.out) hb); have n4_ := Aside0.mk (below_step (by repeat (first | (with_reducible first | exact HB.out | apply below_alloc | apply pw_below_drewN | apply below_drew1 | refine below_set ?_ GE200.out) | exact HB.out)) hb); clear HO_3; clear HO196; clear HO198; clear BK200; clear HB; have HO_3 := n0_; have HO196 := n1_; have HO198 := n2_; have BK200 := n3_; have HB := n4_; clear n0_ n1_ n2_ n3_ n4_; (try clear hb); (try clear hb2); (try clear hk); (try clear hi)) | ((with_reducible refine gate_builtin (b := .append) (xs := #[.tmp 28, .tmp 31]) rfl ?_); at_builtin; refine Kd.R_append k33 (w0 := w) w.heap.size rfl (.tmp 28) (.tmp 31) 25 33 (.agg #[(.int .i64 0), (.int .i64 0)]) 16 rfl Tryd.underlying25 info33 rfl (by decide) (by omega) u3 x3_1 (⟨x4_1, 1⟩ : S33) [.int .i64 x4_1, .int .i64 1] (fun _ => True) (fun _ => False) rfl rfl ?aP (fun _ hk => hk.elim) ?aF ?aO ?aB ?aS ?aL ?_; (case aP => exact k33_mkM _ _ _ (⟨x4_1, 1⟩ : S33)); (case aB => exact (by repeat (first | (with_reducible first | exact HB.out | apply below_alloc | apply pw_below_drewN | apply below_drew1 | refine below_set ?_ GE200.out) | exact HB.out))); (case aF => exact (fun _ _ => trivial)); (case aO => exact (by (with_reducible repeat (first | apply Kd.R_alloc | apply Kd.R_drewN | apply Kd.R_drew)); exact HO_3.out)); (case aS => exact (below_size (by repeat (first | (with_reducible first | exact HB.out | apply below_alloc | apply pw_below_drewN | apply below_drew1 | refine below_set ?_ GE200.out) | exact HB.out)))); (case aL => have := LMc32.out; omega); intro v203 w38 ho hb hg hat; rw [← Ny202.out] at ho; have n0_ := Aside0.mk (Kd.R_over' (by (with_reducible repeat (first | apply Kd.R_alloc | apply Kd.R_drewN | apply Kd.R_drew)); exact HO196.out) (Kd.R_typed (by (with_reducible repeat (first | apply Kd.R_alloc | apply Kd.R_drewN | apply Kd.R_drew)); exact HO_3.out)) (by decide) hg); have n1_ := Aside0.mk (Kd.R_over' (by (with_reducible repeat (first | apply Kd.R_alloc | apply Kd.R_drewN | apply Kd.R_drew)); exact HO198.out) (Kd.R_typed (by (with_reducible repeat (first | apply Kd.R_alloc | apply Kd.R_drewN | apply Kd.R_drew)); exact HO_3.out)) (by decide) hg); have n2_ := Aside0.mk (blk_grown (g := gb200) (o := .cells #[.int .i64 ((rd_T55 l0 x4_1).f0), .int .i64 ((rd_T55 l0 x4_1).f1), .int .i64 ((rd_T55 l0 x4_1).f2), .int .i64 ((rd_T55 l0 x4_1).f3), .int .i16 ((rd_T55 l0 x4_1).f4), .int .i64 ((rd_T55 l0 x4_1).f5)] 55 (0, 0)) (by (with_reducible repeat (first | refine blk_drewN ?_ _ | refine blk_drew ?_ | refine blk_alloc ?_ _)); exact BK200.out) hg (Kd.R_ne HO_3.out BK200.out (by decide))); have n3_ := Aside0.mk (hb); have n4_ := Aside0.mk (ho); clear HO196; clear HO198; clear BK200; clear HB; clear HO_3; have HO196 := n0_; have HO198 := n1_; have BK200 := n2_; have HB := n3_; have HO204 := n4_; clear n0_ n1_ n2_ n3_ n4_; clear ho hb hg hat)); try go_wp2_with (first | (go_at_call 27; (with_reducible refine (trickleref55_indexed.calls k1 _ _ y189 t193 t194 _ ?side1 ?side2 A5.out).mono ?_); (case side1 => repeat (first | exact (Kd.C_below HR192.out HB.out) | (with_reducible refine Kd.C_alloc ?_ _) | (with_reducible refine Kd.C_drewN ?_ _) | (with_reducible refine Kd.C_drew ?_))); (case side2 => exact HC192.out); rintro e w34 ⟨v195, v197, rfl, ho0, ho1, hb⟩; have n0_ := Aside0.mk (Kd.R_below (by (with_reducible repeat (first | apply Kd.R_alloc | apply Kd.R_drewN | apply Kd.R_drew)); exact HO_3.out) hb); have n1_ := Aside0.mk (Kd.R_lower ho0 (below_size (by repeat (first | (with_reducible first | exact HB.out | apply below_alloc | apply pw_below_drewN | apply below_drew1) | exact HB.out)))); have n2_ := Aside0.mk (Kd.R_lower ho1 (below_size (by repeat (first | (with_reducible first | exact HB.out | apply below_alloc | apply pw_below_drewN | apply below_drew1) | exact HB.out)))); have n3_ := Aside0.mk (below_step (by repeat (first | (with_reducible first | exact HB.out | apply below_alloc | apply pw_below_drewN | apply below_drew1) | exact HB.out)) hb); clear HO_3; clear HB; have HO_3 := n0_; have HO196 := n1_; have HO198 := n2_; have HB := n3_; clear n0_ n1_ n2_ n3_; (try clear hb); (try clear hb2); (try clear hk); (try clear hi); (try clear ho0); (try clear ho1); have p199 : 0 ≤ (x4_1 : Int) := of_decide_eq_true (by first | (with_reducible assumption) | assumption); have q199 : x4_1 < (l0.length : Int) := of_decide_eq_true (by first | (with_reducible assumption) | assumption); obtain ⟨ad199, e199, hx199_0, hx199_1, hx199_2, hx199_3, hx199_4, hx199_5⟩ := at_T55 HR0.out x4_1 p199 q199; cases e199; replace hx199_0 := (HB.out.cell (World.block_lt_of_cell? w _ hx199_0)).trans hx199_0; replace hx199_1 := (HB.out.cell (World.block_lt_of_cell? w _ hx199_1)).trans hx199_1; replace hx199_2 := (HB.out.cell (World.block_lt_of_cell? w _ hx199_2)).trans hx199_2; replace hx199_3 := (HB.out.cell (World.block_lt_of_cell? w _ hx199_3)).trans hx199_3; replace hx199_4 := (HB.out.cell (World.block_lt_of_cell? w _ hx199_4)).trans hx199_4; replace hx199_5 := (HB.out.cell (World.block_lt_of_cell? w _ hx199_5)).trans hx199_5; replace p199 := eq_true p199; replace q199 := eq_true q199) | ((with_reducible refine gate_dst (N := 7) rfl ?_); refine box_event ?hg (N := 7) ?hd (cs := #[.int .i64 0, .int .i64 0, .int .i64 0, .int .i64 0, .int .i16 0, .int .i64 0]) (t := 55) ?hr ?_; (case hd => rfl); (case hg => rfl); (case hr => first | (go_simp; done) | (go_simp; rfl)); intro gb200 hg w35 hbox hb; have n0_ := Aside0.mk (Kd.R_below (by (with_reducible repeat (first | apply Kd.R_alloc | apply Kd.R_drewN | apply Kd.R_drew)); exact HO_3.out) hb); have n1_ := Aside0.mk (Kd.R_below (Kd.R_elderB (by (with_reducible repeat (first | apply Kd.R_alloc | apply Kd.R_drewN | apply Kd.R_drew)); exact HO196.out) gb200 (Nat.le_of_eq hg.symm)) hb); have n2_ := Aside0.mk (Kd.R_below (by (with_reducible repeat (first | apply Kd.R_alloc | apply Kd.R_drewN | apply Kd.R_drew)); exact HO198.out) hb); have n3_ := Aside0.mk (below_step (by repeat (first | (with_reducible first | exact HB.out | apply below_alloc | apply pw_below_drewN | apply below_drew1) | exact HB.out)) hb); have n4_ := Aside0.mk (hbox); have n5_ := Aside0.mk ((by rw [hg]; exact (below_size (by repeat (first | (with_reducible first | exact HB.out | apply below_alloc | apply pw_below_drewN | apply below_drew1) | exact HB.out))) : w.heap.size ≤ gb200)); have n6_ := Aside0.mk ((by rw [hg]; exact (below_size (by repeat (first | (with_reducible first | exact HB.out | apply below_alloc | apply pw_below_drewN | apply below_drew1) | exact HB.out))) : w.heap.size ≤ gb200)); clear HO_3; clear HO196; clear HO198; clear HB; have HO_3 := n0_; have HO196 := n1_; have HO198 := n2_; have HB := n3_; have BK200 := n4_; have GW200 := n5_; have GE200 := n6_; clear n0_ n1_ n2_ n3_ n4_ n5_ n6_; clear hb hbox hg; have hcz36_0 : w35.cell? ⟨gb200, 0, none⟩ = some (.int .i64 0) := (blk_cell BK200.out 0).trans rfl; have hcz36_1 : w35.cell? ⟨gb200, 1, none⟩ = some (.int .i64 0) := (blk_cell BK200.out 1).trans rfl; have hcz36_2 : w35.cell? ⟨gb200, 2, none⟩ = some (.int .i64 0) := (blk_cell BK200.out 2).trans rfl; have hcz36_3 : w35.cell? ⟨gb200, 3, none⟩ = some (.int .i64 0) := (blk_cell BK200.out 3).trans rfl; have hcz36_4 : w35.cell? ⟨gb200, 4, none⟩ = some (.int .i16 0) := (blk_cell BK200.out 4).trans rfl; have hcz36_5 : w35.cell? ⟨gb200, 5, none⟩ = some (.int .i64 0) := (blk_cell BK200.out 5).trans rfl; have hfz36_0 := blk_frozen BK200.out 0; have hfz36_1 := blk_frozen BK200.out 1; have hfz36_2 := blk_frozen BK200.out 2; have hfz36_3 := blk_frozen BK200.out 3; have hfz36_4 := blk_frozen BK200.out 4; have hfz36_5 := blk_frozen BK200.out 5) | (go_at_call 28; (with_reducible refine (trickleref52_Valid.calls k1 ((rd_T55 l0 x4_1).f0) ((rd_T55 l0 x4_1).f1) ((rd_T55 l0 x4_1).f2) ((rd_T55 l0 x4_1).f3) ((rd_T55 l0 x4_1).f4) ((rd_T55 l0 x4_1).f5) false _ A6.out).mono ?_); rintro e w37 ⟨rfl, hb⟩; have n0_ := Aside0.mk (Kd.R_below (by (with_reducible repeat (first | apply Kd.R_alloc | apply Kd.R_drewN | apply Kd.R_drew)); exact (Kd.R_mono (Kd.R_far (p := ⟨gb200, 5, none⟩) (Kd.R_far (p := ⟨gb200, 4, none⟩) (Kd.R_far (p := ⟨gb200, 3, none⟩) (Kd.R_far (p := ⟨gb200, 2, none⟩) (Kd.R_far (p := ⟨gb200, 1, none⟩) (Kd.R_far (p := ⟨gb200, 0, none⟩) (Kd.R_types HO_3.out BK200.out (by decide)) (fun _ hk => hk.2) (.int .i64 ((rd_T55 l0 x4_1).f0))) (fun _ hk => hk.2) (.int .i64 ((rd_T55 l0 x4_1).f1))) (fun _ hk => hk.2) (.int .i64 ((rd_T55 l0 x4_1).f2))) (fun _ hk => hk.2) (.int .i64 ((rd_T55 l0 x4_1).f3))) (fun _ hk => hk.2) (.int .i16 ((rd_T55 l0 x4_1).f4))) (fun _ hk => hk.2) (.int .i64 ((rd_T55 l0 x4_1).f5))) (fun _ h_ => h_.1))) hb); have n1_ := Aside0.mk (Kd.R_below (by (with_reducible repeat (first | apply Kd.R_alloc | apply Kd.R_drewN | apply Kd.R_drew)); exact (Kd.R_mono (Kd.R_far (p := ⟨gb200, 5, none⟩) (Kd.R_far (p := ⟨gb200, 4, none⟩) (Kd.R_far (p := ⟨gb200, 3, none⟩) (Kd.R_far (p := ⟨gb200, 2, none⟩) (Kd.R_far (p := ⟨gb200, 1, none⟩) (Kd.R_far (p := ⟨gb200, 0, none⟩) (Kd.R_mono HO196.out (fun k_ hk => (⟨hk, hk.2⟩ : _ ∧ k_ ≠ gb200))) (fun _ hk => hk.2) (.int .i64 ((rd_T55 l0 x4_1).f0))) (fun _ hk => hk.2) (.int .i64 ((rd_T55 l0 x4_1).f1))) (fun _ hk => hk.2) (.int .i64 ((rd_T55 l0 x4_1).f2))) (fun _ hk => hk.2) (.int .i64 ((rd_T55 l0 x4_1).f3))) (fun _ hk => hk.2) (.int .i16 ((rd_T55 l0 x4_1).f4))) (fun _ hk => hk.2) (.int .i64 ((rd_T55 l0 x4_1).f5))) (fun _ h_ => h_.1))) hb); have n2_ := Aside0.mk (Kd.R_below (by (with_reducible repeat (first | apply Kd.R_alloc | apply Kd.R_drewN | apply Kd.R_drew)); exact (Kd.R_mono (Kd.R_far (p := ⟨gb200, 5, none⟩) (Kd.R_far (p := ⟨gb200, 4, none⟩) (Kd.R_far (p := ⟨gb200, 3, none⟩) (Kd.R_far (p := ⟨gb200, 2, none⟩) (Kd.R_far (p := ⟨gb200, 1, none⟩) (Kd.R_far (p := ⟨gb200, 0, none⟩) (Kd.R_types HO198.out BK200.out (by decide)) (fun _ hk => hk.2) (.int .i64 ((rd_T55 l0 x4_1).f0))) (fun _ hk => hk.2) (.int .i64 ((rd_T55 l0 x4_1).f1))) (fun _ hk => hk.2) (.int .i64 ((rd_T55 l0 x4_1).f2))) (fun _ hk => hk.2) (.int .i64 ((rd_T55 l0 x4_1).f3))) (fun _ hk => hk.2) (.int .i16 ((rd_T55 l0 x4_1).f4))) (fun _ hk => hk.2) (.int .i64 ((rd_T55 l0 x4_1).f5))) (fun _ h_ => h_.1))) hb); have n3_ := Aside0.mk (blk_below (g := gb200) (o := .cells #[.int .i64 ((rd_T55 l0 x4_1).f0), .int .i64 ((rd_T55 l0 x4_1).f1), .int .i64 ((rd_T55 l0 x4_1).f2), .int .i64 ((rd_T55 l0 x4_1).f3), .int .i16 ((rd_T55 l0 x4_1).f4), .int .i64 ((rd_T55 l0 x4_1).f5)] 55 (0, 0)) (by (with_reducible repeat (first | refine blk_drewN ?_ _ | refine blk_drew ?_ | refine blk_alloc ?_ _)); refine blk_put (cs := #[.int .i64 ((rd_T55 l0 x4_1).f0), .int .i64 ((rd_T55 l0 x4_1).f1), .int .i64 ((rd_T55 l0 x4_1).f2), .int .i64 ((rd_T55 l0 x4_1).f3), .int .i16 ((rd_T55 l0 x4_1).f4), .int .i64 0]) ?_ 5 _ rfl; (with_reducible repeat (first | refine blk_drewN ?_ _ | refine blk_drew ?_ | refine blk_alloc ?_ _)); refine blk_put (cs := #[.int .i64 ((rd_T55 l0 x4_1).f0), .int .i64 ((rd_T55 l0 x4_1).f1), .int .i64 ((rd_T55 l0 x4_1).f2), .int .i64 ((rd_T55 l0 x4_1).f3), .int .i16 0, .int .i64 0]) ?_ 4 _ rfl; (with_reducible repeat (first | refine blk_drewN ?_ _ | refine blk_drew ?_ | refine blk_alloc ?_ _)); refine blk_put (cs := #[.int .i64 ((rd_T55 l0 x4_1).f0), .int .i64 ((rd_T55 l0 x4_1).f1), .int .i64 ((rd_T55 l0 x4_1).f2), .int .i64 0, .int .i16 0, .int .i64 0]) ?_ 3 _ rfl; (with_reducible repeat (first | refine blk_drewN ?_ _ | refine blk_drew ?_ | refine blk_alloc ?_ _)); refine blk_put (cs := #[.int .i64 ((rd_T55 l0 x4_1).f0), .int .i64 ((rd_T55 l0 x4_1).f1), .int .i64 0, .int .i64 0, .int .i16 0, .int .i64 0]) ?_ 2 _ rfl; (with_reducible repeat (first | refine blk_drewN ?_ _ | refine blk_drew ?_ | refine blk_alloc ?_ _)); refine blk_put (cs := #[.int .i64 ((rd_T55 l0 x4_1).f0), .int .i64 0, .int .i64 0, .int .i64 0, .int .i16 0, .int .i64 0]) ?_ 1 _ rfl; (with_reducible repeat (first | refine blk_drewN ?_ _ | refine blk_drew ?_ | refine blk_alloc ?_ _)); refine blk_put (cs := #[.int .i64 0, .int .i64 0, .int .i64 0, .int .i64 0, .int .i16 0, .int .i64 0]) ?_ 0 _ rfl; (with_reducible repeat (first | refine blk_drewN ?_ _ | refine blk_drew ?_ | refine blk_alloc ?_ _)); exact BK200.out) hb); have n4_ := Aside0.mk (below_step (by repeat (first | (with_reducible first | exact HB.out | apply below_alloc | apply pw_below_drewN | apply below_drew1 | refine below_set ?_ GE200.out) | exact HB.out)) hb); clear HO_3; clear HO196; clear HO198; clear BK200; clear HB; have HO_3 := n0_; have HO196 := n1_; have HO198 := n2_; have BK200 := n3_; have HB := n4_; clear n0_ n1_ n2_ n3_ n4_; (try clear hb); (try clear hb2); (try clear hk); (try clear hi)) | ((with_reducible refine gate_builtin (b := .append) (xs := #[.tmp 28, .tmp 31]) rfl ?_); at_builtin; refine Kd.R_append k33 (w0 := w) w.heap.size rfl (.tmp 28) (.tmp 31) 25 33 (.agg #[(.int .i64 0), (.int .i64 0)]) 16 rfl Tryd.underlying25 info33 rfl (by decide) (by omega) u3 x3_1 (⟨x4_1, 1⟩ : S33) [.int .i64 x4_1, .int .i64 1] (fun _ => True) (fun _ => False) rfl rfl ?aP (fun _ hk => hk.elim) ?aF ?aO ?aB ?aS ?aL ?_; (case aP => exact k33_mkM _ _ _ (⟨x4_1, 1⟩ : S33)); (case aB => exact (by repeat (first | (with_reducible first | exact HB.out | apply below_alloc | apply pw_below_drewN | apply below_drew1 | refine below_set ?_ GE200.out) | exact HB.out))); (case aF => exact (fun _ _ => trivial)); (case aO => exact (by (with_reducible repeat (first | apply Kd.R_alloc | apply Kd.R_drewN | apply Kd.R_drew)); exact HO_3.out)); (case aS => exact (below_size (by repeat (first | (with_reducible first | exact HB.out | apply below_alloc | apply pw_below_drewN | apply below_drew1 | refine below_set ?_ GE200.out) | exact HB.out)))); (case aL => have := LMc32.out; omega); intro v203 w38 ho hb hg hat; rw [← Ny202.out] at ho; have n0_ := Aside0.mk (Kd.R_over' (by (with_reducible repeat (first | apply Kd.R_alloc | apply Kd.R_drewN | apply Kd.R_drew)); exact HO196.out) (Kd.R_typed (by (with_reducible repeat (first | apply Kd.R_alloc | apply Kd.R_drewN | apply Kd.R_drew)); exact HO_3.out)) (by decide) hg); have n1_ := Aside0.mk (Kd.R_over' (by (with_reducible repeat (first | apply Kd.R_alloc | apply Kd.R_drewN | apply Kd.R_drew)); exact HO198.out) (Kd.R_typed (by (with_reducible repeat (first | apply Kd.R_alloc | apply Kd.R_drewN | apply Kd.R_drew)); exact HO_3.out)) (by decide) hg); have n2_ := Aside0.mk (blk_grown (g := gb200) (o := .cells #[.int .i64 ((rd_T55 l0 x4_1).f0), .int .i64 ((rd_T55 l0 x4_1).f1), .int .i64 ((rd_T55 l0 x4_1).f2), .int .i64 ((rd_T55 l0 x4_1).f3), .int .i16 ((rd_T55 l0 x4_1).f4), .int .i64 ((rd_T55 l0 x4_1).f5)] 55 (0, 0)) (by (with_reducible repeat (first | refine blk_drewN ?_ _ | refine blk_drew ?_ | refine blk_alloc ?_ _)); exact BK200.out) hg (Kd.R_ne HO_3.out BK200.out (by decide))); have n3_ := Aside0.mk (hb); have n4_ := Aside0.mk (ho); clear HO196; clear HO198; clear BK200; clear HB; clear HO_3; have HO196 := n0_; have HO198 := n1_; have BK200 := n2_; have HB := n3_; have HO204 := n4_; clear n0_ n1_ n2_ n3_ n4_; clear ho hb hg hat)))
                go_roundg k1
                case measure => have := HK1.out; omega
                case rel => exact ⟨(y202), (wrap64 (x4_1 + 1)), (by first | rfl | (simp; done) | (simp [*]; done)), H', ⟨by have := HK1.out; omega⟩, ⟨by (with_reducible repeat (first | apply Kd.R_alloc | apply Kd.R_drewN | apply Kd.R_drew)); exact HO204.out⟩, ⟨by repeat (first | (with_reducible first | exact HB.out | apply below_alloc | apply pw_below_drewN | apply below_drew1 | refine below_set ?_ GE200.out) | exact HB.out)⟩⟩
              · rw [if_neg c32] at H
                exact absurd H (by simp)
          · rw [if_neg c4] at H
            exact absurd H (by simp)
        · rw [if_neg c3] at H
          exact absurd H (by simp)
      · rw [if_neg c2] at H
        have c2b0 : decide (x4_1 < (l0.length : Int)) = false := decide_eq_false c2
        clear c2
        obtain rfl := Option.some.inj H
        go_wp2
        repeat (go_quiet (fail); try go_wp2)
        go_ret
        exact ⟨_, by first | rfl | (simp [errW_none, errW_some] <;> rfl) | (simp [*, errW_none, errW_some] <;> rfl), by (with_reducible repeat (first | apply Kd.R_alloc | apply Kd.R_drewN | apply Kd.R_drew)); exact HO_3.out, by repeat (first | (with_reducible first | exact HB.out | apply below_alloc | apply pw_below_drewN | apply below_drew1) | exact HB.out)⟩

/-! ### tricklelaw55_VerifySequence: function 3 -/
def tricklelaw55_VerifySequence.f (k : Nat) (l0 : List (S55)) : Option (Bool) := (tricklelaw55_wakes.f).bind fun t214 => (if t214 = true then (if (l0.length : Int) > 90 then (some true) else ((verify_Sequence.f l0).bind fun t215 => ((tricklelaw55_plain.f k t215).bind fun t218 => ((trickleref55_Sequence.f k l0).bind fun t221 => ((trickleref55_Same.f k t218 t221).bind fun t224 => (some t224)))))) else (some false))
theorem tricklelaw55_VerifySequence.mono : ∀ a0 k, LeO (tricklelaw55_VerifySequence.f k a0) (tricklelaw55_VerifySequence.f (k + 1) a0) := by
  intro a0 k
  unfold tricklelaw55_VerifySequence.f
  repeat' first
      | (with_reducible exact tricklelaw55_plain.mono _ _)
      | (with_reducible exact trickleref55_Same.mono _ _ _)
      | (with_reducible exact trickleref55_Sequence.mono _ _)
      | (with_reducible exact LeO.refl _)
      | (with_reducible exact LeO.none _)
      | (with_reducible refine LeO.ite ?_ ?_)
      | (with_reducible refine LeO.bind ?_ (fun _ => ?_))
      | exact tricklelaw55_plain.mono _ _
      | exact trickleref55_Same.mono _ _ _
      | exact trickleref55_Sequence.mono _ _
      | exact LeO.none _
      | refine LeO.ite ?_ ?_
      | refine LeO.bind ?_ (fun _ => ?_)
set_option maxHeartbeats 8000000 in
set_option maxRecDepth 100000 in
theorem tricklelaw55_VerifySequence.calls (k : Nat) (A0 : Option Addr) (c0 : Nat) (l0 : List (S55)) (r : Bool) (w : World) (hr0 : Kd.C k55 w A0 l0.length l0) (hc0 : l0.length ≤ c0) (hG : GW w) (h : tricklelaw55_VerifySequence.f k l0 = some r) :
    Calls Tryd.prog 3 #[.slice A0 l0.length c0] w fun e w' => e = .returned (.bool r) ∧ Below w.heap.size w w' := by
  have HG := Aside0.mk hG
  clear hG
  have HR0 := Aside0.mk hr0
  have HC0 := Aside0.mk hc0
  clear hr0 hc0
  have HB := Aside0.mk (Below.refl w.heap.size w)
  have H : ((tricklelaw55_wakes.f).bind fun t214 => (if t214 = true then (if (l0.length : Int) > 90 then (some true) else ((verify_Sequence.f l0).bind fun t215 => ((tricklelaw55_plain.f k t215).bind fun t218 => ((trickleref55_Sequence.f k l0).bind fun t221 => ((trickleref55_Same.f k t218 t221).bind fun t224 => (some t224)))))) else (some false))) = some r := h
  clear h
  replace H := Option.bind_eq_some_iff.mp H
  obtain ⟨t214, A20, H⟩ := H
  replace H : (if t214 = true then (if (l0.length : Int) > 90 then (some true) else ((verify_Sequence.f l0).bind fun t215 => ((tricklelaw55_plain.f k t215).bind fun t218 => ((trickleref55_Sequence.f k l0).bind fun t221 => ((trickleref55_Same.f k t218 t221).bind fun t224 => (some t224)))))) else (some false)) = some r := H
  have A2 := Aside0.mk A20
  clear A20
  by_cases c3 : t214 = true
  · subst c3
    have H1 : (if (l0.length : Int) > 90 then (some true) else ((verify_Sequence.f l0).bind fun t215 => ((tricklelaw55_plain.f k t215).bind fun t218 => ((trickleref55_Sequence.f k l0).bind fun t221 => ((trickleref55_Same.f k t218 t221).bind fun t224 => (some t224)))))) = some r := by rw [if_pos rfl] at H; exact H
    clear H
    have H := H1
    clear H1
    by_cases c4 : (l0.length : Int) > 90
    · rw [if_pos c4] at H
      have c4b0 : decide (90 < (l0.length : Int)) = true := decide_eq_true c4
      have c4b1 : decide (90 < l0.length) = true := decide_eq_true (by omega)
      clear c4
      obtain rfl := Option.some.inj H
      go_enter Tryd.func3, Tryd.ntmps3
      go_wp2_with (first | ((with_reducible refine gate_callee (f := 8) rfl ?_); refine goesL_ (some 3) rfl rfl Tryd.func8 (by kernel_rfl) rfl #[] rfl (by (try simp only [List.map_toArray, List.map_cons, List.map_nil]); first | done | rfl | (simp only [List.length_drop, List.length_take]; rfl)) ?_; (with_reducible refine (tricklelaw55_wakes.calls  true _ ?side1 A2.out).mono ?_); (case side1 => refine GW.below HG.out ?_; repeat (first | (with_reducible first | exact HB.out | apply below_alloc | apply pw_below_drewN | apply below_drew1) | exact HB.out)); rintro e w5 ⟨rfl, hb⟩; refine ⟨_, rfl, ?_⟩; have n0_ := Aside0.mk (below_step (by repeat (first | (with_reducible first | exact HB.out | apply below_alloc | apply pw_below_drewN | apply below_drew1) | exact HB.out)) hb); clear HB; have HB := n0_; clear n0_; (try clear hb); (try clear hb2); (try clear hk); (try clear hi)))
      go_ret
      exact ⟨by first | rfl | (simp [errW_none, errW_some] <;> rfl) | (simp [*, errW_none, errW_some] <;> rfl), by repeat (first | (with_reducible first | exact HB.out | apply below_alloc | apply pw_below_drewN | apply below_drew1) | exact HB.out)⟩
    · rw [if_neg c4] at H
      have c4b0 : decide (90 < (l0.length : Int)) = false := decide_eq_false c4
      have c4b1 : decide (90 < l0.length) = false := decide_eq_false (by omega)
      clear c4
      replace H := Option.bind_eq_some_iff.mp H
      obtain ⟨t215, A60, H⟩ := H
      replace H : ((tricklelaw55_plain.f k t215).bind fun t218 => ((trickleref55_Sequence.f k l0).bind fun t221 => ((trickleref55_Same.f k t218 t221).bind fun t224 => (some t224)))) = some r := H
      have A6 := Aside0.mk A60
      clear A60
      replace H := Option.bind_eq_some_iff.mp H
      obtain ⟨t218, A70, H⟩ := H
      replace H : ((trickleref55_Sequence.f k l0).bind fun t221 => ((trickleref55_Same.f k t218 t221).bind fun t224 => (some t224))) = some r := H
      have A7 := Aside0.mk A70
      clear A70
      replace H := Option.bind_eq_some_iff.mp H
      obtain ⟨t221, A80, H⟩ := H
      replace H : ((trickleref55_Same.f k t218 t221).bind fun t224 => (some t224)) = some r := H
      have A8 := Aside0.mk A80
      clear A80
      replace H := Option.bind_eq_some_iff.mp H
      obtain ⟨t224, A90, H⟩ := H
      replace H : (some t224) = some r := H
      have A9 := Aside0.mk A90
      clear A90
      obtain rfl := Option.some.inj H
      go_enter Tryd.func3, Tryd.ntmps3
      go_wp2_with (first | ((with_reducible refine gate_callee (f := 8) rfl ?_); refine goesL_ (some 3) rfl rfl Tryd.func8 (by kernel_rfl) rfl #[] rfl (by (try simp only [List.map_toArray, List.map_cons, List.map_nil]); first | done | rfl | (simp only [List.length_drop, List.length_take]; rfl)) ?_; (with_reducible refine (tricklelaw55_wakes.calls  true _ ?side1 A2.out).mono ?_); (case side1 => refine GW.below HG.out ?_; repeat (first | (with_reducible first | exact HB.out | apply below_alloc | apply pw_below_drewN | apply below_drew1) | exact HB.out)); rintro e w10 ⟨rfl, hb⟩; refine ⟨_, rfl, ?_⟩; have n0_ := Aside0.mk (below_step (by repeat (first | (with_reducible first | exact HB.out | apply below_alloc | apply pw_below_drewN | apply below_drew1) | exact HB.out)) hb); clear HB; have HB := n0_; clear n0_; (try clear hb); (try clear hb2); (try clear hk); (try clear hi)) | (go_at_call 11; (with_reducible refine (verify_Sequence.calls _ _ l0 t215 _ ?side1 ?side2 ?side3 A6.out).mono ?_); (case side1 => repeat (first | exact (Kd.C_below HR0.out HB.out) | (with_reducible refine Kd.C_alloc ?_ _) | (with_reducible refine Kd.C_drewN ?_ _) | (with_reducible refine Kd.C_drew ?_))); (case side2 => exact HC0.out); (case side3 => refine GW.below HG.out ?_; repeat (first | (with_reducible first | exact HB.out | apply below_alloc | apply pw_below_drewN | apply below_drew1) | exact HB.out)); rintro e w11 ⟨v216, rfl, ho0, hb⟩; have n0_ := Aside0.mk (Kd.R_lower ho0 (below_size (by repeat (first | (with_reducible first | exact HB.out | apply below_alloc | apply pw_below_drewN | apply below_drew1) | exact HB.out)))); have n1_ := Aside0.mk (below_step (by repeat (first | (with_reducible first | exact HB.out | apply below_alloc | apply pw_below_drewN | apply below_drew1) | exact HB.out)) hb); clear HB; have HO217 := n0_; have HB := n1_; clear n0_ n1_; (try clear hb); (try clear hb2); (try clear hk); (try clear hi); (try clear ho0); obtain ⟨Ao12, co12, eo12⟩ := Kd.R_slice HO217.out; subst eo12) | (go_at_call 10; (with_reducible refine (tricklelaw55_plain.calls k _ _ t215 t218 _ ?side1 ?side2 A7.out).mono ?_); (case side1 => repeat (first | exact (Kd.R_reads' HO217.out).2.2 | (with_reducible refine Kd.C_alloc ?_ _) | (with_reducible refine Kd.C_drewN ?_ _) | (with_reducible refine Kd.C_drew ?_))); (case side2 => exact (Kd.R_reads' HO217.out).2.1); rintro e w13 ⟨v219, rfl, ho0, hb⟩; have n0_ := Aside0.mk (Kd.R_below (by (with_reducible repeat (first | apply Kd.R_alloc | apply Kd.R_drewN | apply Kd.R_drew)); exact HO217.out) hb); have n1_ := Aside0.mk (Kd.R_lower ho0 (below_size (by repeat (first | (with_reducible first | exact HB.out | apply below_alloc | apply pw_below_drewN | apply below_drew1) | exact HB.out)))); have n2_ := Aside0.mk (below_step (by repeat (first | (with_reducible first | exact HB.out | apply below_alloc | apply pw_below_drewN | apply below_drew1) | exact HB.out)) hb); clear HO217; clear HB; have HO217 := n0_; have HO220 := n1_; have HB := n2_; clear n0_ n1_ n2_; (try clear hb); (try clear hb2); (try clear hk); (try clear hi); (try clear ho0)) | (go_at_call 12; (with_reducible refine (trickleref55_Sequence.calls k _ _ l0 t221 _ ?side1 ?side2 A8.out).mono ?_); (case side1 => repeat (first | exact (Kd.C_below HR0.out HB.out) | (with_reducible refine Kd.C_alloc ?_ _) | (with_reducible refine Kd.C_drewN ?_ _) | (with_reducible refine Kd.C_drew ?_))); (case side2 => exact HC0.out); rintro e w14 ⟨v222, rfl, ho0, hb⟩; have n0_ := Aside0.mk (Kd.R_below (by (with_reducible repeat (first | apply Kd.R_alloc | apply Kd.R_drewN | apply Kd.R_drew)); exact HO217.out) hb); have n1_ := Aside0.mk (Kd.R_elder' (by (with_reducible repeat (first | apply Kd.R_alloc | apply Kd.R_drewN | apply Kd.R_drew)); exact HO220.out) (Kd.R_base ho0) hb); have n2_ := Aside0.mk (Kd.R_lower (Kd.R_new' ho0 (Kd.R_lt (by (with_reducible repeat (first | apply Kd.R_alloc | apply Kd.R_drewN | apply Kd.R_drew)); exact HO220.out))) (below_size (by repeat (first | (with_reducible first | exact HB.out | apply below_alloc | apply pw_below_drewN | apply below_drew1) | exact HB.out)))); have n3_ := Aside0.mk (below_step (by repeat (first | (with_reducible first | exact HB.out | apply below_alloc | apply pw_below_drewN | apply below_drew1) | exact HB.out)) hb); clear HO217; clear HO220; clear HB; have HO217 := n0_; have HO220 := n1_; have HO223 := n2_; have HB := n3_; clear n0_ n1_ n2_ n3_; (try clear hb); (try clear hb2); (try clear hk); (try clear hi); (try clear ho0); obtain ⟨Ao15, co15, eo15⟩ := Kd.R_slice HO220.out; subst eo15; obtain ⟨Ao16, co16, eo16⟩ := Kd.R_slice HO223.out; subst eo16) | (go_at_call 9; (with_reducible refine (trickleref55_Same.calls k _ _ t218 _ _ t221 t224 _ ?side1 ?side2 ?side3 ?side4 A9.out).mono ?_); (case side1 => repeat (first | exact (Kd.R_reads' HO220.out).2.2 | (with_reducible refine Kd.C_alloc ?_ _) | (with_reducible refine Kd.C_drewN ?_ _) | (with_reducible refine Kd.C_drew ?_))); (case side2 => exact (Kd.R_reads' HO220.out).2.1); (case side3 => repeat (first | exact (Kd.R_reads' HO223.out).2.2 | (with_reducible refine Kd.C_alloc ?_ _) | (with_reducible refine Kd.C_drewN ?_ _) | (with_reducible refine Kd.C_drew ?_))); (case side4 => exact (Kd.R_reads' HO223.out).2.1); rintro e w' ⟨rfl, ⟨nd, rfl⟩⟩))
      go_ret
      exact ⟨by first | rfl | (simp [errW_none, errW_some] <;> rfl) | (simp [*, errW_none, errW_some] <;> rfl), by repeat (first | (with_reducible first | exact HB.out | apply below_alloc | apply pw_below_drewN | apply below_drew1) | exact HB.out)⟩
  · replace c3 := Bool.eq_false_iff.mpr c3
    subst c3
    have H1 : (some false) = some r := by rw [if_neg (show ¬ (false = true) by decide)] at H; exact H
    clear H
    have H := H1
    clear H1
    obtain rfl := Option.some.inj H
    go_enter Tryd.func3, Tryd.ntmps3
    go_wp2_with (first | ((with_reducible refine gate_callee (f := 8) rfl ?_); refine goesL_ (some 3) rfl rfl Tryd.func8 (by kernel_rfl) rfl #[] rfl (by (try simp only [List.map_toArray, List.map_cons, List.map_nil]); first | done | rfl | (simp only [List.length_drop, List.length_take]; rfl)) ?_; (with_reducible refine (tricklelaw55_wakes.calls  false _ ?side1 A2.out).mono ?_); (case side1 => refine GW.below HG.out ?_; repeat (first | (with_reducible first | exact HB.out | apply below_alloc | apply pw_below_drewN | apply below_drew1) | exact HB.out)); rintro e w17 ⟨rfl, hb⟩; refine ⟨_, rfl, ?_⟩; have n0_ := Aside0.mk (below_step (by repeat (first | (with_reducible first | exact HB.out | apply below_alloc | apply pw_below_drewN | apply below_drew1) | exact HB.out)) hb); clear HB; have HB := n0_; clear n0_; (try clear hb); (try clear hb2); (try clear hk); (try clear hi)))
    go_ret
    exact ⟨by first | rfl | (simp [errW_none, errW_some] <;> rfl) | (simp [*, errW_none, errW_some] <;> rfl), by repeat (first | (with_reducible first | exact HB.out | apply below_alloc | apply pw_below_drewN | apply below_drew1) | exact HB.out)⟩

end Go.Proofs.YtakkifbcaedcoaaDoor.PX
