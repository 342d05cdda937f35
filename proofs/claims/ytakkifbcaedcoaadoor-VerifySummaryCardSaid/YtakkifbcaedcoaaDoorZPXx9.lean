-- Written by a program of this session (wip/xprint.py, over the kit's print tool). Lean checks it.
import Derived.Test.YtakkifbcaedcoaaDoorZPXx0
import Derived.Test.YtakkifbcaedcoaaDoorZPXx6
import Derived.Test.YtakkifbcaedcoaaDoorZPXx7
import Derived.Test.YtakkifbcaedcoaaDoorZMAllowed
import Derived.Test.YtakkifbcaedcoaaDoorZMSequence
namespace Go.Proofs.YtakkifbcaedcoaaDoor.PX
open Go.RowKit Go.Proofs.YtakkifbcaedcoaaDoorW.PrintWords Go.Proofs.YtakkifbcaedcoaaDoorW.PrintLast Go.Proofs.YtakkifbcaedcoaaDoorW.PrintMore
attribute [local go_sem] max2_int min2_int max_two min_two max_three min_three max_four min_four   -- for this text's walks alone
set_option linter.unusedVariables false
set_option linter.unusedSimpArgs false

/-! ### trickleref55_count: function 30 -/
def trickleref55_count.l0 : Nat → List (S55) → Int → Int → Int → Option (Int)
  | 0, _, _, _, _ => none
  | k + 1, x0, x1, x5, x6 => if x6 < (x0.length : Int) then (if 0 ≤ x6 then (if ((rd_T55 x0 x6).f0) = x1 then (trickleref55_count.l0 k x0 x1 (wrap64 (x5 + 1)) (wrap64 (x6 + 1))) else (trickleref55_count.l0 k x0 x1 x5 (wrap64 (x6 + 1)))) else (none)) else (some x5)
def trickleref55_count.f (k : Nat) (l0 : List (S55)) (a1 : Int) : Option (Int) := trickleref55_count.l0 k l0 a1 0 0
set_option maxHeartbeats 8000000 in
set_option maxRecDepth 100000 in
theorem trickleref55_count.calls (k : Nat) (A0 : Option Addr) (c0 : Nat) (l0 : List (S55)) (a1 : Int) (r : Int) (w : World) (hr0 : Kd.C k55 w A0 l0.length l0) (hc0 : l0.length ≤ c0) (h : trickleref55_count.f k l0 a1 = some r) :
    Calls Tryd.prog 30 #[.slice A0 l0.length c0, .int .i64 a1] w fun e w' => e = .returned (.int .i64 r) ∧ Drawn0 w w' := by
  have HR0 := Aside0.mk hr0
  have HC0 := Aside0.mk hc0
  clear hr0 hc0
  have H : (trickleref55_count.l0 k l0 a1 0 0) = some r := h
  clear h
  have H' := Aside0.mk H
  clear H
  go_enter Tryd.func30, Tryd.ntmps30
  go_wp2
  go_loopg [5, 6] k (fun kq v5 v6 w' => ∃ (x5_1 : Int) (x6_1 : Int), v5 = .int .i64 x5_1 ∧ v6 = .int .i64 x6_1 ∧ Aside0 (trickleref55_count.l0 kq l0 a1 x5_1 x6_1 = some r) ∧ Aside0 (kq ≤ k) ∧ Drawn0 w w')
  case atStart => exact ⟨(0), (0), (by first | rfl | (simp; done) | (simp [*]; done)), (by first | rfl | (simp; done) | (simp [*]; done)), H', ⟨Nat.le_refl _⟩, by repeat (first | exact Drawn0.refl _ | apply Drawn0.step)⟩
  case round =>
    clear H'
    try clear p2
    obtain ⟨x5_1, x6_1, rfl, rfl, HA, HK1, ⟨m1, rfl⟩⟩ := hrel
    cases gk with
    | zero => exact absurd HA.out (by simp [trickleref55_count.l0])
    | succ k1 =>
      have H := HA.out
      clear HA
      simp only [trickleref55_count.l0] at H
      by_cases c3 : x6_1 < (l0.length : Int)
      · rw [if_pos c3] at H
        have c3b0 : decide (x6_1 < (l0.length : Int)) = true := decide_eq_true c3
        clear c3
        by_cases c4 : 0 ≤ x6_1
        · rw [if_pos c4] at H
          have c4b0 : decide (0 ≤ x6_1) = true := decide_eq_true c4
          clear c4
          by_cases c5 : ((rd_T55 l0 x6_1).f0) = a1
          · rw [if_pos c5] at H
            have c5b0 : (((rd_T55 l0 x6_1).f0) == a1) = true := beq_iff_eq.mpr c5
            have c5b1 : (((rd_T55 l0 x6_1).f0) != a1) = false := bne_eq_false_iff_eq.mpr c5
            clear c5
            have H' := Aside0.mk H
            clear H
            have p188 : 0 ≤ (x6_1 : Int) := of_decide_eq_true (by first | (with_reducible assumption) | assumption)
            have q188 : x6_1 < (l0.length : Int) := of_decide_eq_true (by first | (with_reducible assumption) | assumption)
            obtain ⟨ad188, e188, hx188_0, hx188_1, hx188_2, hx188_3, hx188_4, hx188_5⟩ := at_T55 HR0.out x6_1 p188 q188
            cases e188
            replace p188 := eq_true p188
            replace q188 := eq_true q188
            go_wp2
            go_roundg k1
            case measure => have := HK1.out; omega
            case rel => exact ⟨(wrap64 (x5_1 + 1)), (wrap64 (x6_1 + 1)), (by first | rfl | (simp; done) | (simp [*]; done)), (by first | rfl | (simp; done) | (simp [*]; done)), H', ⟨by have := HK1.out; omega⟩, by repeat (first | exact Drawn0.refl _ | apply Drawn0.step)⟩
          · rw [if_neg c5] at H
            have c5b0 : (((rd_T55 l0 x6_1).f0) == a1) = false := beq_eq_false_iff_ne.mpr c5
            have c5b1 : (((rd_T55 l0 x6_1).f0) != a1) = true := bne_iff_ne.mpr c5
            have H' := Aside0.mk H
            clear H
            have p188 : 0 ≤ (x6_1 : Int) := of_decide_eq_true (by first | (with_reducible assumption) | assumption)
            have q188 : x6_1 < (l0.length : Int) := of_decide_eq_true (by first | (with_reducible assumption) | assumption)
            obtain ⟨ad188, e188, hx188_0, hx188_1, hx188_2, hx188_3, hx188_4, hx188_5⟩ := at_T55 HR0.out x6_1 p188 q188
            cases e188
            replace p188 := eq_true p188
            replace q188 := eq_true q188
            go_wp2
            go_roundg k1
            case measure => have := HK1.out; omega
            case rel => exact ⟨(x5_1), (wrap64 (x6_1 + 1)), (by first | rfl | (simp; done) | (simp [*]; done)), (by first | rfl | (simp; done) | (simp [*]; done)), H', ⟨by have := HK1.out; omega⟩, by repeat (first | exact Drawn0.refl _ | apply Drawn0.step)⟩
        · rw [if_neg c4] at H
          exact absurd H (by simp)
      · rw [if_neg c3] at H
        have c3b0 : decide (x6_1 < (l0.length : Int)) = false := decide_eq_false c3
        clear c3
        obtain rfl := Option.some.inj H
        go_wp2
        go_ret
        exact ⟨by first | rfl | (simp; done) | (simp [*]; done), by repeat (first | exact Drawn0.refl _ | apply Drawn0.step)⟩

/-! ### trickleref55_Sequence: function 12 -/
mutual
def trickleref55_Sequence.l0 : Nat → List (S55) → List (S33) → Int → Option ((List (S33)))
  | 0, _, _, _ => none
  | k + 1, x0, x3, x4 => if x4 < (x0.length : Int) then (if 0 ≤ x4 then (if x4 ≤ (x0.length : Int) then ((trickleref55_indexed.f k (x0.take (x4 : Int).toNat)).bind fun bt193 => ((trickleref52_Valid.f k ((rd_T55 x0 x4).f0) ((rd_T55 x0 x4).f1) ((rd_T55 x0 x4).f2) ((rd_T55 x0 x4).f3) ((rd_T55 x0 x4).f4) ((rd_T55 x0 x4).f5)).bind fun t201 => (if t201 = true then ((trickleref55_allowed.f bt193.1 ((rd_T55 x0 x4).f0) ((rd_T55 x0 x4).f1) ((rd_T55 x0 x4).f2) ((rd_T55 x0 x4).f3) ((rd_T55 x0 x4).f4) ((rd_T55 x0 x4).f5)).bind fun t205 => (if t205 = true then (trickleref55_Sequence.j1 k x0 x3 x4 bt193.1 ((rd_T55 x0 x4).f0) ((rd_T55 x0 x4).f1) ((rd_T55 x0 x4).f2) ((rd_T55 x0 x4).f3) ((rd_T55 x0 x4).f4) ((rd_T55 x0 x4).f5)) else (if x3.length < 8796093022208 then (trickleref55_Sequence.j1 k x0 (x3 ++ [(⟨x4, 1⟩ : S33)]) x4 bt193.1 ((rd_T55 x0 x4).f0) ((rd_T55 x0 x4).f1) ((rd_T55 x0 x4).f2) ((rd_T55 x0 x4).f3) ((rd_T55 x0 x4).f4) ((rd_T55 x0 x4).f5)) else (none)))) else (if x3.length < 8796093022208 then (trickleref55_Sequence.l0 k x0 (x3 ++ [(⟨x4, 1⟩ : S33)]) (wrap64 (x4 + 1))) else (none))))) else (none)) else (none)) else (some x3)
def trickleref55_Sequence.j1 : Nat → List (S55) → List (S33) → Int → List (S55) → Int → Int → Int → Int → Int → Int → Option ((List (S33)))
  | 0, _, _, _, _, _, _, _, _, _, _ => none
  | k + 1, x0, x3, x4, x5, x201000, x201001, x201002, x201003, x201004, x201005 => if x201000 = 7 then ((trickleref55_count.f k x5 x201000).bind fun t209 => (trickleref55_Sequence.j2 k x0 x3 x4 (x201003 != t209))) else (if x201000 = 8 then ((trickleref55_count.f k x5 x201000).bind fun t210 => (trickleref55_Sequence.j2 k x0 x3 x4 (x201003 != t210))) else (trickleref55_Sequence.j2 k x0 x3 x4 false))
def trickleref55_Sequence.j2 : Nat → List (S55) → List (S33) → Int → Bool → Option ((List (S33)))
  | 0, _, _, _, _ => none
  | k + 1, x0, x3, x4, x58 => if x58 = true then (if x3.length < 8796093022208 then (trickleref55_Sequence.l0 k x0 (x3 ++ [(⟨x4, 2⟩ : S33)]) (wrap64 (x4 + 1))) else (none)) else (trickleref55_Sequence.l0 k x0 x3 (wrap64 (x4 + 1)))
end
def trickleref55_Sequence.f (k : Nat) (l0 : List (S55)) : Option ((List (S33))) := trickleref55_Sequence.l0 k l0 ([] : List (S33)) 0
/-! ### tricklelaw55_VerifySequence: function 3 -/
def tricklelaw55_VerifySequence.f (k : Nat) (l0 : List (S55)) : Option (Bool) := (tricklelaw55_wakes.f).bind fun t214 => (if t214 = true then (if (l0.length : Int) > 90 then (some true) else ((verify_Sequence.f l0).bind fun t215 => ((tricklelaw55_plain.f k t215).bind fun t218 => ((trickleref55_Sequence.f k l0).bind fun t221 => ((trickleref55_Same.f k t218 t221).bind fun t224 => (some t224)))))) else (some false))
end Go.Proofs.YtakkifbcaedcoaaDoor.PX
