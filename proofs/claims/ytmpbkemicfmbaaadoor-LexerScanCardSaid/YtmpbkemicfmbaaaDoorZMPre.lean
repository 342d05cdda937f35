/- lexer.prefix, with each of the two functions that it is given: what it computes, and that the call computes it. -/
import Derived.Test.YtmpbkemicfmbaaaDoorZPXx6
namespace Go.Proofs.YtmpbkemicfmbaaaDoor.PX
open Go.RowKit Go.Proofs.YtmpbkemicfmbaaaDoorW.PrintWords Go.Proofs.YtmpbkemicfmbaaaDoorW.PrintLast Go.Proofs.YtmpbkemicfmbaaaDoorW.PrintMore
set_option linter.unusedVariables false
set_option linter.unusedSimpArgs false
def next1F (c : Int) : Option Bool := (lexer_letter.f c).bind fun t => (if t = true then (some true) else (lexer_digit.f c))
/-- The two functions that lexer.next hands to prefix: digit, and letter or digit. -/
def hasF (fn : Nat) (c : Int) : Option Bool := if fn = 36 then lexer_digit.f c else if fn = 43 then next1F c else none
def lexer_prefix.l0 : Nat → ByteArray → Nat → Int → Option (Int)
  | 0, _, _, _ => none
  | k + 1, x0, fn, x3 => if x3 < (x0.size : Int) then (if 0 ≤ x3 then ((hasF fn (bt x0 x3)).bind fun t181 => (if t181 = true then (lexer_prefix.l0 k x0 fn (wrap64 (x3 + 1))) else (some x3))) else (none)) else (some x3)
def lexer_prefix.f (k : Nat) (a0 : ByteArray) (a1 : Nat) : Option (Int) := if a1 = 36 then lexer_prefix.l0 k a0 36 0 else if a1 = 43 then lexer_prefix.l0 k a0 43 0 else none
theorem lexer_prefix.mono_l : ∀ k, (∀ y0 fn y1, LeO (lexer_prefix.l0 k y0 fn y1) (lexer_prefix.l0 (k + 1) y0 fn y1))
  | 0 => fun _ _ _ r h => by simp [lexer_prefix.l0] at h
  | k + 1 => by
    have ih0 := lexer_prefix.mono_l k
    · intro y0 fn y1
      unfold lexer_prefix.l0
      repeat' first
      | (with_reducible exact ih0 _ _ _)
      | (with_reducible exact LeO.refl _)
      | (with_reducible exact LeO.none _)
      | (with_reducible refine LeO.ite ?_ ?_)
      | (with_reducible refine LeO.bind ?_ (fun _ => ?_))
      | exact ih0 _ _ _
      | exact LeO.none _
      | refine LeO.ite ?_ ?_
      | refine LeO.bind ?_ (fun _ => ?_)
theorem lexer_prefix.mono : ∀ a0 a1 k, LeO (lexer_prefix.f k a0 a1) (lexer_prefix.f (k + 1) a0 a1) := by
  intro a0 a1 k
  unfold lexer_prefix.f
  exact LeO.ite (lexer_prefix.mono_l k _ _ _) (LeO.ite (lexer_prefix.mono_l k _ _ _) (LeO.refl _))

set_option maxHeartbeats 8000000 in
theorem next1_calls (c : Int) (r : Bool) (w : World) (h : next1F c = some r) :
    Calls Tryd.prog 43 #[.int .u8 c] w fun e w' => e = .returned (.bool r) ∧ Drawn0 w w' := by
  have H := Option.bind_eq_some_iff.mp h
  obtain ⟨t, A20, H⟩ := H
  have A2 := Aside0.mk A20
  clear A20 h
  cases t with
  | true =>
    have H1 : (some true) = some r := by rw [if_pos rfl] at H; exact H
    clear H
    obtain rfl := Option.some.inj H1
    go_enter Tryd.func43, Tryd.ntmps43
    go_wp2_with (first | (go_at_call 35; (with_reducible refine (lexer_letter.calls c true _ A2.out).mono ?_); rintro e w' ⟨rfl, ⟨nd, rfl⟩⟩))
    go_ret
    exact ⟨by first | rfl | (simp; done) | (simp [*]; done), by repeat (first | exact Drawn0.refl _ | apply Drawn0.step)⟩
  | false =>
    have H1 : lexer_digit.f c = some r := by rw [if_neg (by decide)] at H; exact H
    clear H
    have A3 := Aside0.mk H1
    clear H1
    go_enter Tryd.func43, Tryd.ntmps43
    go_wp2_with (first | (go_at_call 35; (with_reducible refine (lexer_letter.calls c false _ A2.out).mono ?_); rintro e w' ⟨rfl, ⟨nd, rfl⟩⟩) | (go_at_call 36; (with_reducible refine (lexer_digit.calls c r _ A3.out).mono ?_); rintro e w' ⟨rfl, ⟨nd, rfl⟩⟩))
    go_ret
    exact ⟨by first | rfl | (simp; done) | (simp [*]; done), by repeat (first | exact Drawn0.refl _ | apply Drawn0.step)⟩

set_option maxHeartbeats 8000000 in
set_option maxRecDepth 100000 in
theorem prefix_36 (k : Nat) (a0 : ByteArray) (r : Int) (w : World) (h : lexer_prefix.l0 k a0 36 0 = some r) :
    Calls Tryd.prog 42 #[.string a0, .func (.func 36) #[] #[]] w fun e w' => e = .returned (.int .i64 r) ∧ Drawn0 w w' := by
  have H : (lexer_prefix.l0 k a0 36 0) = some r := h
  clear h
  have H' := Aside0.mk H
  clear H
  go_enter Tryd.func42, Tryd.ntmps42
  go_wp2
  go_loopg [5] k (fun kq v3 w' => ∃ (x3_1 : Int), v3 = .int .i64 x3_1 ∧ Aside0 (lexer_prefix.l0 kq a0 36 x3_1 = some r) ∧ Aside0 (kq ≤ k) ∧ Drawn0 w w')
  case atStart => exact ⟨(0), (by first | rfl | (simp; done) | (simp [*]; done)), H', ⟨Nat.le_refl _⟩, by repeat (first | exact Drawn0.refl _ | apply Drawn0.step)⟩
  case round =>
    clear H'
    obtain ⟨x3_1, rfl, HA, HK1, ⟨m1, rfl⟩⟩ := hrel
    cases gk with
    | zero => exact absurd HA.out (by simp [lexer_prefix.l0])
    | succ k1 =>
      have H := HA.out
      clear HA
      simp only [lexer_prefix.l0] at H
      simp only [hasF, if_true, if_neg (show ¬ (43 : Nat) = 36 by decide)] at H
      by_cases c2 : x3_1 < (a0.size : Int)
      · rw [if_pos c2] at H
        have c2b0 : decide (x3_1 < (a0.size : Int)) = true := decide_eq_true c2
        clear c2
        by_cases c3 : 0 ≤ x3_1
        · rw [if_pos c3] at H
          have c3b0 : decide (0 ≤ x3_1) = true := decide_eq_true c3
          clear c3
          replace H := Option.bind_eq_some_iff.mp H
          obtain ⟨t181, A50, H⟩ := H
          replace H : (if t181 = true then (lexer_prefix.l0 k1 a0 36 (wrap64 (x3_1 + 1))) else (some x3_1)) = some r := H
          have A5 := Aside0.mk A50
          clear A50
          by_cases c6 : t181 = true
          · subst c6
            have H1 : (lexer_prefix.l0 k1 a0 36 (wrap64 (x3_1 + 1))) = some r := by rw [if_pos rfl] at H; exact H
            clear H
            have H := H1
            clear H1
            have H' := Aside0.mk H
            clear H
            have p4 : 0 ≤ (x3_1 : Int) := of_decide_eq_true (by first | (with_reducible assumption) | assumption)
            have q4 : x3_1 < (a0.size : Int) := of_decide_eq_true (by first | (with_reducible assumption) | assumption)
            have hx4 := bt_at a0 x3_1
            replace p4 := eq_true p4
            replace q4 := eq_true q4
            go_wp2_with (first | (go_at_call 36; (with_reducible refine (lexer_digit.calls (bt a0 x3_1) true _ A5.out).mono ?_); rintro e w' ⟨rfl, ⟨nd, rfl⟩⟩))
            go_roundg k1
            case measure => have := HK1.out; omega
            case rel => exact ⟨(wrap64 (x3_1 + 1)), (by first | rfl | (simp; done) | (simp [*]; done)), H', ⟨by have := HK1.out; omega⟩, by repeat (first | exact Drawn0.refl _ | apply Drawn0.step)⟩
          · replace c6 := Bool.eq_false_iff.mpr c6
            subst c6
            have H1 : (some x3_1) = some r := by rw [if_neg (show ¬ (false = true) by decide)] at H; exact H
            clear H
            have H := H1
            clear H1
            obtain rfl := Option.some.inj H
            have p4 : 0 ≤ (x3_1 : Int) := of_decide_eq_true (by first | (with_reducible assumption) | assumption)
            have q4 : x3_1 < (a0.size : Int) := of_decide_eq_true (by first | (with_reducible assumption) | assumption)
            have hx4 := bt_at a0 x3_1
            replace p4 := eq_true p4
            replace q4 := eq_true q4
            go_wp2_with (first | (go_at_call 36; (with_reducible refine (lexer_digit.calls (bt a0 x3_1) false _ A5.out).mono ?_); rintro e w' ⟨rfl, ⟨nd, rfl⟩⟩))
            go_ret
            exact ⟨by first | rfl | (simp; done) | (simp [*]; done), by repeat (first | exact Drawn0.refl _ | apply Drawn0.step)⟩
        · rw [if_neg c3] at H
          exact absurd H (by simp)
      · rw [if_neg c2] at H
        have c2b0 : decide (x3_1 < (a0.size : Int)) = false := decide_eq_false c2
        clear c2
        obtain rfl := Option.some.inj H
        go_wp2
        go_ret
        exact ⟨by first | rfl | (simp; done) | (simp [*]; done), by repeat (first | exact Drawn0.refl _ | apply Drawn0.step)⟩


set_option maxHeartbeats 8000000 in
set_option maxRecDepth 100000 in
theorem prefix_43 (k : Nat) (a0 : ByteArray) (r : Int) (w : World) (h : lexer_prefix.l0 k a0 43 0 = some r) :
    Calls Tryd.prog 42 #[.string a0, .func (.func 43) #[] #[]] w fun e w' => e = .returned (.int .i64 r) ∧ Drawn0 w w' := by
  have H : (lexer_prefix.l0 k a0 43 0) = some r := h
  clear h
  have H' := Aside0.mk H
  clear H
  go_enter Tryd.func42, Tryd.ntmps42
  go_wp2
  go_loopg [5] k (fun kq v3 w' => ∃ (x3_1 : Int), v3 = .int .i64 x3_1 ∧ Aside0 (lexer_prefix.l0 kq a0 43 x3_1 = some r) ∧ Aside0 (kq ≤ k) ∧ Drawn0 w w')
  case atStart => exact ⟨(0), (by first | rfl | (simp; done) | (simp [*]; done)), H', ⟨Nat.le_refl _⟩, by repeat (first | exact Drawn0.refl _ | apply Drawn0.step)⟩
  case round =>
    clear H'
    obtain ⟨x3_1, rfl, HA, HK1, ⟨m1, rfl⟩⟩ := hrel
    cases gk with
    | zero => exact absurd HA.out (by simp [lexer_prefix.l0])
    | succ k1 =>
      have H := HA.out
      clear HA
      simp only [lexer_prefix.l0] at H
      simp only [hasF, if_true, if_neg (show ¬ (43 : Nat) = 36 by decide)] at H
      by_cases c2 : x3_1 < (a0.size : Int)
      · rw [if_pos c2] at H
        have c2b0 : decide (x3_1 < (a0.size : Int)) = true := decide_eq_true c2
        clear c2
        by_cases c3 : 0 ≤ x3_1
        · rw [if_pos c3] at H
          have c3b0 : decide (0 ≤ x3_1) = true := decide_eq_true c3
          clear c3
          replace H := Option.bind_eq_some_iff.mp H
          obtain ⟨t181, A50, H⟩ := H
          replace H : (if t181 = true then (lexer_prefix.l0 k1 a0 43 (wrap64 (x3_1 + 1))) else (some x3_1)) = some r := H
          have A5 := Aside0.mk A50
          clear A50
          by_cases c6 : t181 = true
          · subst c6
            have H1 : (lexer_prefix.l0 k1 a0 43 (wrap64 (x3_1 + 1))) = some r := by rw [if_pos rfl] at H; exact H
            clear H
            have H := H1
            clear H1
            have H' := Aside0.mk H
            clear H
            have p4 : 0 ≤ (x3_1 : Int) := of_decide_eq_true (by first | (with_reducible assumption) | assumption)
            have q4 : x3_1 < (a0.size : Int) := of_decide_eq_true (by first | (with_reducible assumption) | assumption)
            have hx4 := bt_at a0 x3_1
            replace p4 := eq_true p4
            replace q4 := eq_true q4
            go_wp2_with (first | (go_at_call 43; (with_reducible refine (next1_calls (bt a0 x3_1) true _ A5.out).mono ?_); rintro e w' ⟨rfl, ⟨nd, rfl⟩⟩))
            go_roundg k1
            case measure => have := HK1.out; omega
            case rel => exact ⟨(wrap64 (x3_1 + 1)), (by first | rfl | (simp; done) | (simp [*]; done)), H', ⟨by have := HK1.out; omega⟩, by repeat (first | exact Drawn0.refl _ | apply Drawn0.step)⟩
          · replace c6 := Bool.eq_false_iff.mpr c6
            subst c6
            have H1 : (some x3_1) = some r := by rw [if_neg (show ¬ (false = true) by decide)] at H; exact H
            clear H
            have H := H1
            clear H1
            obtain rfl := Option.some.inj H
            have p4 : 0 ≤ (x3_1 : Int) := of_decide_eq_true (by first | (with_reducible assumption) | assumption)
            have q4 : x3_1 < (a0.size : Int) := of_decide_eq_true (by first | (with_reducible assumption) | assumption)
            have hx4 := bt_at a0 x3_1
            replace p4 := eq_true p4
            replace q4 := eq_true q4
            go_wp2_with (first | (go_at_call 43; (with_reducible refine (next1_calls (bt a0 x3_1) false _ A5.out).mono ?_); rintro e w' ⟨rfl, ⟨nd, rfl⟩⟩))
            go_ret
            exact ⟨by first | rfl | (simp; done) | (simp [*]; done), by repeat (first | exact Drawn0.refl _ | apply Drawn0.step)⟩
        · rw [if_neg c3] at H
          exact absurd H (by simp)
      · rw [if_neg c2] at H
        have c2b0 : decide (x3_1 < (a0.size : Int)) = false := decide_eq_false c2
        clear c2
        obtain rfl := Option.some.inj H
        go_wp2
        go_ret
        exact ⟨by first | rfl | (simp; done) | (simp [*]; done), by repeat (first | exact Drawn0.refl _ | apply Drawn0.step)⟩


theorem lexer_prefix.calls (k : Nat) (a0 : ByteArray) (a1 : Nat) (r : Int) (w : World) (h : lexer_prefix.f k a0 a1 = some r) :
    Calls Tryd.prog 42 #[.string a0, .func (.func a1) #[] #[]] w fun e w' => e = .returned (.int .i64 r) ∧ Drawn0 w w' := by
  unfold lexer_prefix.f at h
  by_cases h1 : a1 = 36
  · subst h1; rw [if_pos rfl] at h; exact prefix_36 k a0 r w h
  rw [if_neg h1] at h
  by_cases h2 : a1 = 43
  · subst h2; rw [if_pos rfl] at h; exact prefix_43 k a0 r w h
  rw [if_neg h2] at h
  cases h
end Go.Proofs.YtmpbkemicfmbaaaDoor.PX
