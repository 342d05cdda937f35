/- The lexer in plain words, 2: words, numbers and marks; next and one give the same token. -/
import Derived.Test.YtmpbkemicfmbaaaDoorZLx1
import Derived.Test.YtmpbkemicfmbaaaDoorZPXx10
import Derived.Test.YtmpbkemicfmbaaaDoorZPXx22
namespace Go.Proofs.YtmpbkemicfmbaaaDoor.PX
open Go.RowKit Go.Proofs.YtmpbkemicfmbaaaDoorW.PrintWords Go.Proofs.YtmpbkemicfmbaaaDoorW.PrintLast Go.Proofs.YtmpbkemicfmbaaaDoorW.PrintMore
set_option linter.unusedVariables false
set_option linter.unusedSimpArgs false
def ltrI (c : Int) : Bool := (decide (97 ≤ c) && decide (c ≤ 122)) || ((decide (65 ≤ c) && decide (c ≤ 90)) || c == 95)
def dgtI (c : Int) : Bool := decide (48 ≤ c) && decide (c ≤ 57)
def ltrB (c : UInt8) : Bool := ltrI c.toNat
def dgtB (c : UInt8) : Bool := dgtI c.toNat
def wrdB (c : UInt8) : Bool := ltrB c || dgtB c
theorem letter_impl (c : Int) : lexer_letter.f c = some (ltrI c) := by
  unfold lexer_letter.f ltrI
  by_cases h1 : 97 ≤ c <;> by_cases h2 : c ≤ 122 <;> by_cases h3 : 65 ≤ c <;> by_cases h4 : c ≤ 90 <;> simp [h1, h2, h3, h4]
theorem letter_ref (c : Int) : trickleref15_letter.f c = some (ltrI c) := by
  unfold trickleref15_letter.f ltrI
  by_cases h1 : 97 ≤ c <;> by_cases h2 : c ≤ 122 <;> by_cases h3 : 65 ≤ c <;> by_cases h4 : c ≤ 90 <;> simp [h1, h2, h3, h4]
theorem digit_impl (c : Int) : lexer_digit.f c = some (dgtI c) := by
  unfold lexer_digit.f dgtI
  by_cases h1 : 48 ≤ c <;> simp [h1]
theorem digit_ref (c : Int) : trickleref15_digit.f c = some (dgtI c) := by
  unfold trickleref15_digit.f dgtI
  by_cases h1 : 48 ≤ c <;> simp [h1]
theorem next1_spec (c : Int) : next1F c = some (ltrI c || dgtI c) := by
  unfold next1F
  rw [letter_impl, Option.bind_some, digit_impl]
  cases ltrI c <;> simp
def pre (p : UInt8 → Bool) (l : List UInt8) : Nat := (l.takeWhile p).length
theorem pre_le (p : UInt8 → Bool) (l : List UInt8) : pre p l ≤ l.length := (List.takeWhile_sublist p).length_le
theorem pre_cons (p : UInt8 → Bool) (c : UInt8) (r : List UInt8) : pre p (c :: r) = if p c = true then 1 + pre p r else 0 := by
  unfold pre
  rw [List.takeWhile_cons]
  split <;> simp [Nat.add_comm]
theorem prefix_ev (s : ByteArray) (fn : Nat) (p : UInt8 → Bool) (hp : ∀ c : UInt8, hasF fn (c.toNat : Int) = some (p c)) (hn : (bs s).length ≤ 1000000) : ∀ (d j : Nat), j + d = (bs s).length → Ev (fun k => lexer_prefix.l0 k s fn (j : Int)) ((j + pre p ((bs s).drop j) : Nat) : Int)
  | 0, j, hj => by
    have hs := bs_len s
    rw [List.drop_of_length_le (by omega)]
    exact Ev.step (fun k => by rw [lexer_prefix.l0]) (Ev.cast (Ev.neg (by omega) (Ev.now _)) (by simp [pre]))
  | d + 1, j, hj => by
    have hs := bs_len s
    have hl : j < (bs s).length := by omega
    refine Ev.step (fun k => by rw [lexer_prefix.l0]) (Ev.pos (by omega) (Ev.pos (by omega) ?_))
    rw [bt_bs s j hl, drop_cons (bs s) j hl, wrap_nat (n := (bs s).length) hl (by omega), pre_cons]
    refine Ev.const (hp _) ?_
    by_cases h : p (bs s)[j] = true
    · refine Ev.pos h (Ev.cast (prefix_ev s fn p hp hn d (j + 1) (by omega)) ?_)
      rw [if_pos h]
      congr 1
      omega
    · refine Ev.neg h (Ev.cast (Ev.now _) ?_)
      rw [if_neg h]
      rfl
theorem prefix43 (s : ByteArray) (hn : (bs s).length ≤ 1000000) : Ev (fun k => lexer_prefix.f k s 43) ((pre wrdB (bs s) : Nat) : Int) := by
  refine Ev.congr (f := fun k => lexer_prefix.l0 k s 43 ((0 : Nat) : Int)) (fun k => by rw [lexer_prefix.f, if_neg (by decide), if_pos rfl]; rfl) (Ev.cast (prefix_ev s 43 wrdB (fun c => by unfold hasF; rw [if_neg (by decide), if_pos rfl, next1_spec]; rfl) hn (bs s).length 0 (by omega)) ?_)
  rw [List.drop_zero, Nat.zero_add]
theorem prefix36 (s : ByteArray) (hn : (bs s).length ≤ 1000000) : Ev (fun k => lexer_prefix.f k s 36) ((pre dgtB (bs s) : Nat) : Int) := by
  refine Ev.congr (f := fun k => lexer_prefix.l0 k s 36 ((0 : Nat) : Int)) (fun k => by rw [lexer_prefix.f, if_pos rfl]; rfl) (Ev.cast (prefix_ev s 36 dgtB (fun c => by unfold hasF; rw [if_pos rfl, digit_impl]; rfl) hn (bs s).length 0 (by omega)) ?_)
  rw [List.drop_zero, Nat.zero_add]
theorem rnum_loop (s : ByteArray) (hn : (bs s).length ≤ 1000000) : ∀ (d j : Nat), j + d = (bs s).length → Ev (fun k => trickleref15_number.l0 k s (j : Int)) ((j + pre dgtB ((bs s).drop j) : Nat) : Int)
  | 0, j, hj => by
    have hs := bs_len s
    rw [List.drop_of_length_le (by omega)]
    exact Ev.step (fun k => by rw [trickleref15_number.l0]) (Ev.cast (Ev.neg (by omega) (Ev.now _)) (by simp [pre]))
  | d + 1, j, hj => by
    have hs := bs_len s
    have hl : j < (bs s).length := by omega
    refine Ev.step (fun k => by rw [trickleref15_number.l0]) (Ev.pos (by omega) (Ev.pos (by omega) ?_))
    rw [bt_bs s j hl, drop_cons (bs s) j hl, wrap_nat (n := (bs s).length) hl (by omega), pre_cons]
    refine Ev.const (digit_ref _) ?_
    by_cases h : dgtB (bs s)[j] = true
    · refine Ev.pos h (Ev.cast (rnum_loop s hn d (j + 1) (by omega)) ?_)
      rw [if_pos h]
      congr 1
      omega
    · refine Ev.neg h (Ev.cast (Ev.now _) ?_)
      rw [if_neg h]
      rfl
theorem rnum_ev (s : ByteArray) (hn : (bs s).length ≤ 1000000) : Ev (fun k => trickleref15_number.f k s) ((pre dgtB (bs s) : Nat) : Int) := by
  refine Ev.congr (f := fun k => trickleref15_number.l0 k s ((0 : Nat) : Int)) (fun k => rfl) (Ev.cast (rnum_loop s hn (bs s).length 0 (by omega)) ?_)
  rw [List.drop_zero, Nat.zero_add]
theorem rword_loop (s : ByteArray) (hn : (bs s).length ≤ 1000000) : ∀ (d j : Nat), j + d = (bs s).length → Ev (fun k => trickleref15_word.l0 k s (j : Int)) ((j + pre wrdB ((bs s).drop j) : Nat) : Int)
  | 0, j, hj => by
    have hs := bs_len s
    rw [List.drop_of_length_le (by omega)]
    refine Ev.step (fun k => by rw [trickleref15_word.l0]) (Ev.neg (by omega) ?_)
    exact Ev.step (fun k => by rw [trickleref15_word.j2]) (Ev.cast (Ev.neg (by decide) (Ev.now _)) (by simp [pre]))
  | d + 1, j, hj => by
    have hs := bs_len s
    have hl : j < (bs s).length := by omega
    refine Ev.step (fun k => by rw [trickleref15_word.l0]) (Ev.pos (by omega) (Ev.pos (by omega) ?_))
    have ih := rword_loop s hn d (j + 1) (by omega)
    have go : ∀ b : Bool, wrdB (bs s)[j] = b → Ev (fun k => trickleref15_word.j2 k s (j : Int) b) ((j + pre wrdB ((bs s).drop j) : Nat) : Int) := by
      intro b hb
      refine Ev.step (fun k => by rw [trickleref15_word.j2]) ?_
      rw [drop_cons (bs s) j hl, wrap_nat (n := (bs s).length) hl (by omega), pre_cons, hb]
      cases b with
      | true =>
        refine Ev.pos rfl (Ev.cast ih ?_)
        rw [if_pos rfl]
        congr 1
        omega
      | false => exact Ev.neg (by decide) (Ev.now _)
    rw [bt_bs s j hl]
    refine Ev.const (letter_ref _) ?_
    by_cases h : ltrI ((bs s)[j].toNat : Int) = true
    · exact Ev.pos h (go true (by unfold wrdB ltrB; rw [h]; rfl))
    · exact Ev.neg h (Ev.const (digit_ref _) (go _ (by unfold wrdB ltrB dgtB; rw [Bool.eq_false_iff.mpr h]; rfl)))
/-- The length of the word at the beginning. -/
def wordN (l : List UInt8) : Nat := if (l.head?.map ltrB).getD false = true then pre wrdB l else 0
theorem rword_ev (s : ByteArray) (hn : (bs s).length ≤ 1000000) : Ev (fun k => trickleref15_word.f k s) ((wordN (bs s) : Nat) : Int) := by
  have hs := bs_len s
  refine Ev.congr (fun k => by rw [trickleref15_word.f]) ?_
  by_cases h0 : (bs s).length = 0
  · refine Ev.pos (by omega) (Ev.step (fun k => by rw [trickleref15_word.j0]) (Ev.cast (Ev.pos rfl (Ev.now _)) ?_))
    rw [List.length_eq_zero_iff.mp h0]
    rfl
  · have hl : 0 < (bs s).length := by omega
    have hd : bs s = (bs s)[0] :: (bs s).drop 1 := by rw [← drop_cons (bs s) 0 hl]; rfl
    refine Ev.neg (by omega) (Ev.pos (by omega) ?_)
    have hb := bt_bs s 0 hl
    rw [show ((0 : Nat) : Int) = 0 from rfl] at hb
    rw [hb]
    refine Ev.const (letter_ref _) ?_
    by_cases h : ltrI ((bs s)[0].toNat : Int) = true
    · rw [h]
      have hl1 := rword_loop s hn ((bs s).length - 1) 1 (by omega)
      rw [show ((1 : Nat) : Int) = 1 from rfl] at hl1
      refine Ev.step (fun k => by rw [trickleref15_word.j0]) (Ev.neg (show ¬ (!true) = true by decide) (Ev.cast hl1 ?_))
      have hw : wrdB (bs s)[0] = true := by unfold wrdB ltrB; rw [h]; rfl
      have : wordN (bs s) = pre wrdB (bs s) := by
        unfold wordN
        rw [hd]
        exact if_pos h
      rw [this]
      conv => rhs; rw [hd, pre_cons, if_pos hw]
    · rw [Bool.eq_false_iff.mpr h]
      refine Ev.step (fun k => by rw [trickleref15_word.j0]) (Ev.cast (Ev.pos (show (!false) = true from rfl) (Ev.now _)) ?_)
      have : wordN (bs s) = 0 := by
        unfold wordN
        rw [hd]
        exact if_neg h
      rw [this]
      rfl
end Go.Proofs.YtmpbkemicfmbaaaDoor.PX
