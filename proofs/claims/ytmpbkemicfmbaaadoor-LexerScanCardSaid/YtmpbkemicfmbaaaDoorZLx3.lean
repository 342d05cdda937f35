/- The lexer in plain words, 3: keywords, the value of a number, marks; next and one give the same token. -/
import Derived.Test.YtmpbkemicfmbaaaDoorZLx2
namespace Go.Proofs.YtmpbkemicfmbaaaDoor.PX
open Go.RowKit Go.Proofs.YtmpbkemicfmbaaaDoorW.PrintWords Go.Proofs.YtmpbkemicfmbaaaDoorW.PrintLast Go.Proofs.YtmpbkemicfmbaaaDoorW.PrintMore
set_option linter.unusedVariables false
set_option linter.unusedSimpArgs false
def hasS (l : List ByteArray) (s : ByteArray) : Bool := l.any (fun x => decide (x.toList = s.toList))
theorem hasS_cons (x : ByteArray) (r : List ByteArray) (s : ByteArray) : hasS (x :: r) s = (decide (x.toList = s.toList) || hasS r s) := rfl
theorem rdOf_nat (xs : List ByteArray) (j : Nat) (h : j < xs.length) : rdOf ByteArray.empty xs (j : Int) = xs[j] := getD_nat xs _ j h
theorem index_loop (l : List ByteArray) (s : ByteArray) (hn : l.length ≤ 1000) : ∀ (d j : Nat), j + d = l.length → ∃ r : Int, Ev (fun k => slices_Index_string_string.l0 k l s (l.length : Int) (j : Int)) r ∧ (0 ≤ r ↔ hasS (l.drop j) s = true)
  | 0, j, hj => ⟨-1, Ev.step (fun k => by rw [slices_Index_string_string.l0]) (Ev.neg (by omega) (Ev.now _)), by rw [List.drop_of_length_le (by omega)]; simp [hasS]⟩
  | d + 1, j, hj => by
    have hl : j < l.length := by omega
    by_cases h : s.toList = l[j].toList
    · refine ⟨(j : Int), Ev.step (fun k => by rw [slices_Index_string_string.l0]) (Ev.pos (by omega) (Ev.pos (by omega) (Ev.pos (by omega) ?_))), ?_⟩
      · rw [rdOf_nat l j hl]
        exact Ev.pos h (Ev.now _)
      · rw [drop_cons l j hl, hasS_cons, decide_eq_true h.symm, Bool.true_or]
        exact ⟨fun _ => rfl, fun _ => by omega⟩
    · obtain ⟨r, hr, hi⟩ := index_loop l s hn d (j + 1) (by omega)
      refine ⟨r, Ev.step (fun k => by rw [slices_Index_string_string.l0]) (Ev.pos (by omega) (Ev.pos (by omega) (Ev.pos (by omega) ?_))), ?_⟩
      · rw [rdOf_nat l j hl, wrap_nat (n := l.length) hl (by omega)]
        exact Ev.neg h hr
      · rw [hi, drop_cons l j hl, hasS_cons, decide_eq_false (fun e => h e.symm), Bool.false_or]
theorem contains_ev (l : List ByteArray) (s : ByteArray) (hn : l.length ≤ 1000) : Ev (fun k => slices_Contains_string_string.f k l s) (hasS l s) := by
  obtain ⟨r, hr, hi⟩ := index_loop l s hn l.length 0 (by omega)
  refine Ev.congr (f := fun k => (slices_Index_string_string.l0 k l s (l.length : Int) ((0 : Nat) : Int)).bind fun t109 => some (decide (t109 ≥ 0))) (fun k => rfl) (Ev.bind (a := r) hr (Ev.cast (Ev.now _) ?_))
  rw [Bool.eq_iff_iff, decide_eq_true_eq]
  exact hi
theorem has_loop (l : List ByteArray) (s : ByteArray) (hn : l.length ≤ 1000) : ∀ (d j : Nat), j + d = l.length → Ev (fun k => trickleref15_Has.l0 k l s (j : Int)) (hasS (l.drop j) s)
  | 0, j, hj => by
    rw [List.drop_of_length_le (by omega)]
    exact Ev.cast (Ev.step (fun k => by rw [trickleref15_Has.l0]) (Ev.neg (by omega) (Ev.now false))) rfl
  | d + 1, j, hj => by
    have hl : j < l.length := by omega
    refine Ev.step (fun k => by rw [trickleref15_Has.l0]) (Ev.pos (by omega) (Ev.pos (by omega) ?_))
    rw [rdOf_nat l j hl, drop_cons l j hl, wrap_nat (n := l.length) hl (by omega)]
    by_cases h : l[j].toList = s.toList
    · refine Ev.pos h (Ev.cast (Ev.now _) ?_)
      rw [hasS_cons, decide_eq_true h, Bool.true_or]
    · refine Ev.neg h (Ev.cast (has_loop l s hn d (j + 1) (by omega)) ?_)
      rw [hasS_cons, decide_eq_false h, Bool.false_or]
theorem has_ev (l : List ByteArray) (s : ByteArray) (hn : l.length ≤ 1000) : Ev (fun k => trickleref15_Has.f k l s) (hasS l s) := has_loop l s hn l.length 0 (by omega)
/-- A token's kind and value, by its length: word, number, mark, another byte. -/
def cut (s : ByteArray) (n : Nat) : ByteArray := s.extract 0 n
theorem bs_cut (s : ByteArray) (n : Nat) : bs (cut s n) = (bs s).take n := bs_take s n
theorem cut_size (s : ByteArray) (n : Nat) (h : n ≤ (bs s).length) : (cut s n).size = n := by rw [← bs_len, bs_cut, List.length_take]; omega
def wkind (s : ByteArray) (n : Nat) : Int := if hasS kwL (cut s n) = true then 3 else if n ≤ 32 then 1 else 5
theorem word_ev (s : ByteArray) (n : Nat) (h : n ≤ (bs s).length) : Ev (fun k => lexer_word.f k (cut s n)) (wkind s n, cut s n, 0, 0) := by
  refine Ev.congr (f := fun k => (slices_Contains_string_string.f k kwL (cut s n)).bind fun t114 => if t114 = true then some (3, cut s n, 0, 0) else if ((cut s n).size : Int) ≤ 32 then some (1, cut s n, 0, 0) else some (5, cut s n, 0, 0)) (fun k => rfl) (Ev.bind (contains_ev kwL (cut s n) (by decide)) ?_)
  have hcs := cut_size s n h
  by_cases h1 : hasS kwL (cut s n) = true
  · have hw : wkind s n = 3 := if_pos h1
    rw [hw]
    exact Ev.pos h1 (Ev.now _)
  · refine Ev.neg h1 ?_
    by_cases h2 : n ≤ 32
    · have hw : wkind s n = 1 := (if_neg h1).trans (if_pos h2)
      rw [hw]
      exact Ev.pos (by omega) (Ev.now _)
    · have hw : wkind s n = 5 := (if_neg h1).trans (if_neg h2)
      rw [hw]
      exact Ev.neg (by omega) (Ev.now _)
/-- The value that the reference reads, and stops above the greatest. -/
def dv (c : UInt8) : Int := ((c.toNat : Int) - 48) % 256
theorem dv_range (c : UInt8) : 0 ≤ dv c ∧ dv c ≤ 255 := by unfold dv; omega
def rval : Int → List UInt8 → Int
  | v, [] => v
  | v, c :: r => if v ≤ 32767 then rval (10 * v + dv c) r else v
def ival : Int → List UInt8 → Int
  | v, [] => v
  | v, c :: r => ival (mn (v * 10 + dv c) 32768) r
theorem ival_eq (l : List UInt8) : ∀ (a b : Int), 0 ≤ b → (a = b ∧ b ≤ 32767 ∨ a = 32768 ∧ b > 32767) → (ival a l = rval b l ∧ rval b l ≤ 32767 ∨ ival a l = 32768 ∧ rval b l > 32767) := by
  induction l with
  | nil => intro a b _ h; exact h
  | cons c r ih =>
    intro a b hb h
    have hd := dv_range c
    rw [ival, rval]
    rcases h with ⟨rfl, h⟩ | ⟨rfl, h⟩
    · rw [if_pos h]
      refine ih _ _ (by omega) ?_
      unfold mn
      split <;> omega
    · rw [if_neg (by omega)]
      have h2 : mn (32768 * 10 + dv c) 32768 = 32768 := by unfold mn; split <;> omega
      rw [h2]
      have h3 : ∀ l : List UInt8, ival 32768 l = 32768 := by
        intro l
        induction l with
        | nil => rfl
        | cons c r ih =>
          have hd := dv_range c
          rw [ival, show mn (32768 * 10 + dv c) 32768 = 32768 by unfold mn; split <;> omega, ih]
      rw [h3]
      exact .inr ⟨rfl, h⟩
/-- Whether digits are no integer: too great, or a needless 0. -/
def badN (l : List UInt8) : Bool := decide (rval 0 l > 32767) || (decide (l.length > 1) && l.head? == some 48)
def nkind (l : List UInt8) : Int := if badN l = true then 5 else 2
def nval (l : List UInt8) : Int := if badN l = true then 0 else IntKind.i16.wrap (rval 0 l)
theorem is48 (c : UInt8) : (((c.toNat : Int)) == 48) = (c == 48) := by
  rw [Bool.eq_iff_iff, beq_iff_eq, beq_iff_eq]
  exact toNat_eq (n := 48) (by decide)
theorem number_loop (w : ByteArray) (hn : (bs w).length ≤ 1000000) (R : Int × ByteArray × Int × Int) : ∀ (d j : Nat) (v : Int), 0 ≤ v → v ≤ 32768 → j + d = (bs w).length → Ev (fun k => lexer_number.l0 k w (ival v ((bs w).drop j)) (w.size : Int) (w.size : Int)) R → Ev (fun k => lexer_number.l0 k w v (w.size : Int) (j : Int)) R
  | 0, j, v, h0, h1, hj, hR => by
    have hs := bs_len w
    rw [List.drop_of_length_le (by omega), ival] at hR
    rw [show (j : Int) = (w.size : Int) by omega]
    exact hR
  | d + 1, j, v, h0, h1, hj, hR => by
    have hs := bs_len w
    have hl : j < (bs w).length := by omega
    rw [drop_cons (bs w) j hl, ival] at hR
    have hd := dv_range (bs w)[j]
    refine Ev.step (fun k => by rw [lexer_number.l0]) (Ev.pos (by omega) (Ev.pos (by omega) (Ev.pos (by omega) ?_)))
    rw [bt_bs w j hl, wrap_nat (n := (bs w).length) hl (by omega), wrap_id (i := v * 10) (by omega) (by omega)]
    rw [show (((bs w)[j].toNat : Int) - 48) % 256 = dv (bs w)[j] from rfl, wrap_id (i := v * 10 + dv (bs w)[j]) (by omega) (by omega)]
    refine number_loop w hn R d (j + 1) _ ?_ ?_ (by omega) hR
    · unfold mn; split <;> omega
    · unfold mn; split <;> omega
theorem number_ev (w : ByteArray) (hn : (bs w).length ≤ 1000000) : Ev (fun k => lexer_number.f k w) (nkind (bs w), w, nval (bs w), 0) := by
  have hs := bs_len w
  have hv := ival_eq (bs w) 0 0 (by omega) (.inl ⟨rfl, by omega⟩)
  refine Ev.congr (f := fun k => lexer_number.l0 k w 0 (w.size : Int) ((0 : Nat) : Int)) (fun k => rfl) (number_loop w hn _ (bs w).length 0 0 (by omega) (by omega) (by omega) ?_)
  rw [List.drop_zero]
  refine Ev.step (fun k => by rw [lexer_number.l0]) (Ev.neg (by omega) ?_)
  have fin : ∀ b : Bool, badN (bs w) = b → (b = false → ival 0 (bs w) = rval 0 (bs w)) → Ev (fun k => lexer_number.j1 k w (ival 0 (bs w)) b) (nkind (bs w), w, nval (bs w), 0) := by
    intro b hb hv2
    refine Ev.step (fun k => by rw [lexer_number.j1]) ?_
    unfold nkind nval
    rw [hb]
    cases b with
    | true => exact Ev.pos rfl (Ev.now _)
    | false => rw [hv2 rfl]; exact Ev.neg (by decide) (Ev.now _)
  rcases hv with ⟨he, hle⟩ | ⟨he, hgt⟩
  · refine Ev.neg (by omega) ?_
    have hd : decide (rval 0 (bs w) > 32767) = false := decide_eq_false (by omega)
    by_cases h1 : (bs w).length > 1
    · have hl0 : 0 < (bs w).length := by omega
      refine Ev.pos (by omega) (Ev.pos (by omega) ?_)
      have hb := bt_bs w 0 hl0
      rw [show ((0 : Nat) : Int) = 0 from rfl] at hb
      rw [hb, is48]
      refine fin _ ?_ (fun _ => he)
      unfold badN
      rw [hd, decide_eq_true h1, Bool.false_or, Bool.true_and, List.head?_eq_getElem?, List.getElem?_eq_getElem hl0]
      rfl
    · refine Ev.neg (by omega) (fin false ?_ (fun _ => he))
      unfold badN
      rw [hd, decide_eq_false h1]
      rfl
  · refine Ev.pos (by omega) (fin true ?_ (fun h => by cases h))
    unfold badN
    rw [decide_eq_true hgt]
    rfl
/-- The length of the longest mark at the beginning. -/
def markS (L : List UInt8) (n : Nat) (p : ByteArray) : Nat := if (p.size ≤ L.length ∧ L.take p.size = bs p) ∧ n < p.size then p.size else n
def markF (L : List UInt8) (n : Nat) (l : List ByteArray) : Nat := l.foldl (markS L) n
theorem markF_le (L : List UInt8) (l : List ByteArray) : ∀ n, n ≤ L.length → markF L n l ≤ L.length := by
  induction l with
  | nil => intro n h; exact h
  | cons p r ih =>
    intro n h
    refine ih _ ?_
    unfold markS
    split
    · rename_i h2; exact h2.1.1
    · exact h
theorem hasPre (s p : ByteArray) : strings_HasPrefix.f s p = some (decide (p.size ≤ (bs s).length ∧ (bs s).take p.size = bs p)) := by
  unfold strings_HasPrefix.f stringslite_HasPrefix.f
  have hs := bs_len s
  by_cases h : (s.size : Int) ≥ (p.size : Int)
  · rw [if_pos h, if_pos (by omega), if_pos (by omega), Option.bind_some, toList_bs, toList_bs, Int.toNat_natCast, bs_take]
    congr 1
    rw [Bool.eq_iff_iff, beq_iff_eq, decide_eq_true_eq]
    exact ⟨fun e => ⟨by omega, e⟩, fun e => e.2⟩
  · rw [if_neg h, Option.bind_some]
    congr 1
    symm
    rw [decide_eq_false_iff_not]
    intro e
    omega
def markOut (s : ByteArray) (n : Nat) : Int × ByteArray × Int × Int := if n = 0 then (5, cut s 1, 0, 0) else (4, cut s n, 0, 0)
theorem mark_impl (s : ByteArray) (h1 : 0 < (bs s).length) (l : List ByteArray) (hn : l.length ≤ 1000) : ∀ (d j n : Nat), n ≤ (bs s).length → j + d = l.length → Ev (fun k => lexer_next.l0 k s (cut s n) l (l.length : Int) (j : Int)) (markOut s (markF (bs s) n (l.drop j)))
  | 0, j, n, hle, hj => by
    have hs := bs_len s
    rw [List.drop_of_length_le (by omega)]
    refine Ev.step (fun k => by rw [lexer_next.l0]) (Ev.neg (by omega) ?_)
    show Ev _ (markOut s n)
    unfold markOut
    have hc : (cut s n).toList = [] ↔ n = 0 := by
      rw [toList_bs, bs_cut]
      constructor
      · intro e
        have := congrArg List.length e
        rw [List.length_take, List.length_nil] at this
        omega
      · rintro rfl; rfl
    by_cases h : n = 0
    · rw [if_pos h]
      exact Ev.pos (hc.mpr h) (Ev.pos (by omega) (Ev.pos (by omega) (Ev.now _)))
    · rw [if_neg h]
      exact Ev.neg (fun e => h (hc.mp e)) (Ev.now _)
  | d + 1, j, n, hle, hj => by
    have hs := bs_len s
    have hl : j < l.length := by omega
    refine Ev.step (fun k => by rw [lexer_next.l0]) (Ev.pos (by omega) (Ev.pos (by omega) (Ev.pos (by omega) ?_)))
    rw [rdOf_nat l j hl, drop_cons l j hl, wrap_nat (n := l.length) hl (by omega)]
    show Ev _ (markOut s (markF (bs s) (markS (bs s) n l[j]) (l.drop (j + 1))))
    refine Ev.const (hasPre s l[j]) ?_
    have hcs := cut_size s n hle
    by_cases h2 : l[j].size ≤ (bs s).length ∧ (bs s).take l[j].size = bs l[j]
    · refine Ev.pos (decide_eq_true h2) ?_
      by_cases h3 : n < l[j].size
      · have he : l[j] = cut s l[j].size := bs_inj (by rw [bs_cut]; exact h2.2.symm)
        have hm : markS (bs s) n l[j] = l[j].size := if_pos ⟨h2, h3⟩
        rw [hm]
        refine Ev.pos (by omega) ?_
        have ih := mark_impl s h1 l hn d (j + 1) l[j].size h2.1 (by omega)
        rw [← he] at ih
        exact ih
      · have hm : markS (bs s) n l[j] = n := if_neg (fun e => h3 e.2)
        rw [hm]
        exact Ev.neg (by omega) (mark_impl s h1 l hn d (j + 1) n hle (by omega))
    · have hm : markS (bs s) n l[j] = n := if_neg (fun e => h2 e.1)
      rw [hm]
      exact Ev.neg (by rw [decide_eq_true_eq]; exact h2) (mark_impl s h1 l hn d (j + 1) n hle (by omega))
theorem mark_ref (s : ByteArray) (l : List ByteArray) (hn : l.length ≤ 1000) : ∀ (d j n : Nat), n ≤ (bs s).length → j + d = l.length → Ev (fun k => trickleref15_mark.l0 k s l (n : Int) (j : Int)) ((markF (bs s) n (l.drop j) : Nat) : Int)
  | 0, j, n, hle, hj => by
    rw [List.drop_of_length_le (by omega)]
    exact Ev.cast (Ev.step (fun k => by rw [trickleref15_mark.l0]) (Ev.neg (by omega) (Ev.now (n : Int)))) rfl
  | d + 1, j, n, hle, hj => by
    have hs := bs_len s
    have hl : j < l.length := by omega
    have go : ∀ b : Bool, (b = true ↔ (l[j].size ≤ (bs s).length ∧ (bs s).take l[j].size = bs l[j]) ∧ n < l[j].size) → Ev (fun k => trickleref15_mark.j1 k s l (n : Int) (j : Int) b) ((markF (bs s) n (l.drop j) : Nat) : Int) := by
      intro b hb
      refine Ev.step (fun k => by rw [trickleref15_mark.j1]) ?_
      rw [rdOf_nat l j hl, drop_cons l j hl, wrap_nat (n := l.length) hl (by omega)]
      show Ev _ ((markF (bs s) (markS (bs s) n l[j]) (l.drop (j + 1)) : Nat) : Int)
      cases b with
      | true =>
        have hc := hb.mp rfl
        have hm : markS (bs s) n l[j] = l[j].size := if_pos hc
        rw [hm]
        exact Ev.pos rfl (Ev.pos (by omega) (Ev.pos (by omega) (mark_ref s l hn d (j + 1) l[j].size hc.1.1 (by omega))))
      | false =>
        have hm : markS (bs s) n l[j] = n := if_neg (fun e => by have := hb.mpr e; cases this)
        rw [hm]
        exact Ev.neg (by decide) (mark_ref s l hn d (j + 1) n hle (by omega))
    refine Ev.step (fun k => by rw [trickleref15_mark.l0]) (Ev.pos (by omega) (Ev.pos (by omega) ?_))
    rw [rdOf_nat l j hl]
    by_cases h1 : l[j].size ≤ (bs s).length
    · refine Ev.pos (by omega) (Ev.pos (by omega) ?_)
      rw [toList_bs, toList_bs, Int.toNat_natCast, bs_take]
      by_cases h2 : (bs s).take l[j].size = bs l[j]
      · refine Ev.pos h2 (go _ ?_)
        rw [decide_eq_true_eq]
        exact ⟨fun e => ⟨⟨h1, h2⟩, by omega⟩, fun e => by omega⟩
      · exact Ev.neg h2 (go false ⟨fun e => (by cases e), fun e => absurd e.1.2 h2⟩)
    · exact Ev.neg (by omega) (go false ⟨fun e => (by cases e), fun e => absurd e.1.1 h1⟩)
/-- A token: length, kind, value. -/
structure Tk where
  n : Nat
  k : Int
  v : Int
def tok (s : ByteArray) : Tk :=
  if wordN (bs s) > 0 then ⟨wordN (bs s), wkind s (wordN (bs s)), 0⟩
  else if pre dgtB (bs s) > 0 then ⟨pre dgtB (bs s), nkind ((bs s).take (pre dgtB (bs s))), nval ((bs s).take (pre dgtB (bs s)))⟩
  else if markF (bs s) 0 puL > 0 then ⟨markF (bs s) 0 puL, 4, 0⟩ else ⟨1, 5, 0⟩
theorem wordN_le (l : List UInt8) : wordN l ≤ l.length := by
  unfold wordN
  split
  · exact pre_le _ _
  · omega
theorem tok_range (s : ByteArray) (h : 0 < (bs s).length) : 1 ≤ (tok s).n ∧ (tok s).n ≤ (bs s).length := by
  have h1 := wordN_le (bs s)
  have h2 := pre_le dgtB (bs s)
  have h3 := markF_le (bs s) puL 0 (by omega)
  unfold tok
  split
  · exact ⟨by assumption, h1⟩
  · split
    · exact ⟨by assumption, h2⟩
    · split
      · exact ⟨by assumption, h3⟩
      · exact ⟨by decide, h⟩
def tokR (s : ByteArray) : Int × ByteArray × Int × Int := ((tok s).k, cut s (tok s).n, (tok s).v, 0)
theorem head_letter (s : ByteArray) (h : 0 < (bs s).length) : (wordN (bs s) > 0 ↔ ltrB ((bs s)[0]) = true) ∧ (ltrB ((bs s)[0]) = true → wordN (bs s) = pre wrdB (bs s)) := by
  have hd : bs s = (bs s)[0] :: (bs s).drop 1 := by rw [← drop_cons (bs s) 0 h]; rfl
  generalize (bs s)[0] = c at hd
  generalize (bs s).drop 1 = r at hd
  rw [hd]
  have hw : wordN (c :: r) = if ltrB c = true then pre wrdB (c :: r) else 0 := rfl
  rw [hw]
  by_cases hc : ltrB c = true
  · rw [if_pos hc, pre_cons, if_pos (show wrdB c = true by unfold wrdB; rw [hc]; rfl)]
    exact ⟨⟨fun _ => hc, fun _ => by omega⟩, fun _ => rfl⟩
  · rw [if_neg hc]
    exact ⟨⟨fun h => by omega, fun h => absurd h hc⟩, fun h => absurd h hc⟩
theorem head_digit (s : ByteArray) (h : 0 < (bs s).length) : pre dgtB (bs s) > 0 ↔ dgtB ((bs s)[0]) = true := by
  have hd : bs s = (bs s)[0] :: (bs s).drop 1 := by rw [← drop_cons (bs s) 0 h]; rfl
  generalize (bs s)[0] = c at hd
  generalize (bs s).drop 1 = r at hd
  rw [hd, pre_cons]
  by_cases hc : dgtB c = true
  · rw [if_pos hc]; exact ⟨fun _ => hc, fun _ => by omega⟩
  · rw [if_neg hc]; exact ⟨fun h => by omega, fun h => absurd h hc⟩
theorem next_ev (s : ByteArray) (h : 0 < (bs s).length) (hn : (bs s).length ≤ 1000000) : Ev (fun k => lexer_next.f k s) (tokR s) := by
  have hs := bs_len s
  have hb := bt_bs s 0 h
  rw [show ((0 : Nat) : Int) = 0 from rfl] at hb
  refine Ev.congr (fun k => by rw [lexer_next.f]) (Ev.pos (by omega) ?_)
  rw [hb]
  refine Ev.const (letter_impl _) ?_
  obtain ⟨h1, h2⟩ := head_letter s h
  by_cases hl : ltrB ((bs s)[0]) = true
  · refine Ev.pos hl (Ev.bind (prefix43 s hn) ?_)
    have hw := h1.mpr hl
    have ht : tokR s = (wkind s (wordN (bs s)), cut s (wordN (bs s)), 0, 0) := by unfold tokR tok; rw [if_pos hw]
    have hle := wordN_le (bs s)
    rw [ht, ← h2 hl, Int.toNat_natCast]
    exact Ev.pos (by omega) (Ev.pos (by omega) (Ev.bind (word_ev s _ hle) (Ev.now _)))
  have hw : ¬ wordN (bs s) > 0 := fun e => hl (h1.mp e)
  refine Ev.neg hl (Ev.const (digit_impl _) ?_)
  have h3 := head_digit s h
  by_cases hd : dgtB ((bs s)[0]) = true
  · refine Ev.pos hd (Ev.bind (prefix36 s hn) ?_)
    have hp := h3.mpr hd
    have ht : tokR s = (nkind ((bs s).take (pre dgtB (bs s))), cut s (pre dgtB (bs s)), nval ((bs s).take (pre dgtB (bs s))), 0) := by unfold tokR tok; rw [if_neg hw, if_pos hp]
    have hle := pre_le dgtB (bs s)
    rw [ht, Int.toNat_natCast]
    have hnum := number_ev (cut s (pre dgtB (bs s))) (by rw [bs_cut, List.length_take]; omega)
    rw [bs_cut] at hnum
    exact Ev.pos (by omega) (Ev.pos (by omega) (Ev.bind hnum (Ev.now _)))
  have hp : ¬ pre dgtB (bs s) > 0 := fun e => hd (h3.mp e)
  refine Ev.neg hd (Ev.const (a := puL) rfl ?_)
  have hm := mark_impl s h puL (by decide) puL.length 0 0 (by omega) (by omega)
  have hc0 : cut s 0 = (⟨#[]⟩ : ByteArray) := bs_inj (by rw [bs_cut]; rfl)
  rw [hc0, List.drop_zero] at hm
  refine Ev.cast hm ?_
  unfold markOut tokR tok
  rw [if_neg hw, if_neg hp]
  by_cases hz : markF (bs s) 0 puL = 0
  · rw [if_pos hz, if_neg (by omega)]
  · rw [if_neg hz, if_pos (by omega)]
theorem rone_loop (s : ByteArray) (n : Nat) (hn : n ≤ (bs s).length) (hn2 : (bs s).length ≤ 1000000) (R : Int × ByteArray × Int × Int) : ∀ (d j : Nat) (v : Int), 0 ≤ v → v ≤ 328000 → j + d = n → Ev (fun k => trickleref15_one.j1 k s (n : Int) (rval v (((bs s).take n).drop j))) R → Ev (fun k => trickleref15_one.l0 k s (n : Int) v (j : Int)) R
  | 0, j, v, h0, h1, hj, hR => by
    rw [List.drop_of_length_le (by rw [List.length_take]; omega), rval] at hR
    exact Ev.step (fun k => by rw [trickleref15_one.l0]) (Ev.neg (by omega) hR)
  | d + 1, j, v, h0, h1, hj, hR => by
    have hs := bs_len s
    have hl : j < (bs s).length := by omega
    have hlt : j < ((bs s).take n).length := by rw [List.length_take]; omega
    rw [drop_cons _ j hlt, rval, List.getElem_take] at hR
    refine Ev.step (fun k => by rw [trickleref15_one.l0]) (Ev.pos (by omega) ?_)
    have hd := dv_range (bs s)[j]
    by_cases hv : v ≤ 32767
    · rw [if_pos hv] at hR
      refine Ev.pos hv (Ev.pos (by omega) (Ev.pos (by omega) ?_))
      rw [bt_bs s j hl, wrap_nat (n := (bs s).length) hl (by omega), wrap_id (i := 10 * v) (by omega) (by omega), show (((bs s)[j].toNat : Int) - 48) % 256 = dv (bs s)[j] from rfl, wrap_id (i := 10 * v + dv (bs s)[j]) (by omega) (by omega)]
      exact rone_loop s n hn hn2 R d (j + 1) _ (by omega) (by omega) (by omega) hR
    · rw [if_neg hv] at hR
      exact Ev.neg hv hR
theorem one_ev (s : ByteArray) (h : 0 < (bs s).length) (hn : (bs s).length ≤ 1000000) : Ev (fun k => trickleref15_one.f k s) (tokR s) := by
  have hs := bs_len s
  refine Ev.congr (fun k => by rw [trickleref15_one.f]) (Ev.bind (rword_ev s hn) ?_)
  by_cases hw : wordN (bs s) > 0
  · have ht : tokR s = (wkind s (wordN (bs s)), cut s (wordN (bs s)), 0, 0) := by unfold tokR tok; rw [if_pos hw]
    have hle := wordN_le (bs s)
    refine Ev.pos (by omega) (Ev.const (a := kwL) rfl (Ev.pos (by omega) (Ev.pos (by omega) ?_)))
    rw [ht, Int.toNat_natCast]
    refine Ev.bind (has_ev kwL (cut s (wordN (bs s))) (by decide)) ?_
    by_cases h1 : hasS kwL (cut s (wordN (bs s))) = true
    · have hk : wkind s (wordN (bs s)) = 3 := if_pos h1
      rw [hk]
      exact Ev.pos h1 (Ev.now _)
    · refine Ev.neg h1 ?_
      by_cases h2 : wordN (bs s) ≤ 32
      · have hk : wkind s (wordN (bs s)) = 1 := (if_neg h1).trans (if_pos h2)
        rw [hk]
        exact Ev.pos (by omega) (Ev.now _)
      · have hk : wkind s (wordN (bs s)) = 5 := (if_neg h1).trans (if_neg h2)
        rw [hk]
        exact Ev.neg (by omega) (Ev.now _)
  refine Ev.neg (by omega) (Ev.bind (rnum_ev s hn) ?_)
  by_cases hp : pre dgtB (bs s) > 0
  · have ht : tokR s = (nkind ((bs s).take (pre dgtB (bs s))), cut s (pre dgtB (bs s)), nval ((bs s).take (pre dgtB (bs s))), 0) := by unfold tokR tok; rw [if_neg hw, if_pos hp]
    have hle := pre_le dgtB (bs s)
    refine Ev.pos (by omega) ?_
    rw [ht]
    refine rone_loop s (pre dgtB (bs s)) hle hn _ (pre dgtB (bs s)) 0 0 (by omega) (by omega) (by omega) ?_
    rw [List.drop_zero]
    generalize hL : (bs s).take (pre dgtB (bs s)) = L
    have hLn : L.length = pre dgtB (bs s) := by rw [← hL, List.length_take]; omega
    have hhd : L.head? = some (bs s)[0] := by
      rw [← hL, List.head?_take, if_neg (by omega), List.head?_eq_getElem?, List.getElem?_eq_getElem h]
    have fin : ∀ b : Bool, badN L = b → Ev (fun k => trickleref15_one.j2 k s ((pre dgtB (bs s) : Nat) : Int) (rval 0 L) b) (nkind L, cut s (pre dgtB (bs s)), nval L, 0) := by
      intro b hb
      refine Ev.step (fun k => by rw [trickleref15_one.j2]) ?_
      unfold nkind nval
      rw [hb, Int.toNat_natCast]
      cases b with
      | true => exact Ev.pos rfl (Ev.pos (by omega) (Ev.pos (by omega) (Ev.now _)))
      | false => exact Ev.neg (by decide) (Ev.pos (by omega) (Ev.pos (by omega) (Ev.now _)))
    refine Ev.step (fun k => by rw [trickleref15_one.j1]) ?_
    by_cases hv : rval 0 L > 32767
    · exact Ev.pos hv (fin true (by unfold badN; rw [decide_eq_true hv]; rfl))
    refine Ev.neg hv ?_
    have hdv : decide (rval 0 L > 32767) = false := decide_eq_false hv
    by_cases h1 : pre dgtB (bs s) > 1
    · have hb := bt_bs s 0 h
      rw [show ((0 : Nat) : Int) = 0 from rfl] at hb
      refine Ev.pos (by omega) (Ev.pos (by omega) ?_)
      rw [hb, is48]
      refine fin _ ?_
      unfold badN
      rw [hdv, hLn, decide_eq_true h1, hhd, Bool.false_or, Bool.true_and]
      rfl
    · refine Ev.neg (by omega) (fin false ?_)
      unfold badN
      rw [hdv, hLn, decide_eq_false h1]
      rfl
  refine Ev.neg (by omega) ?_
  have hm := mark_ref s puL (by decide) puL.length 0 0 (by omega) (by omega)
  rw [List.drop_zero] at hm
  have hle := markF_le (bs s) puL 0 (by omega)
  refine Ev.bind (a := ((markF (bs s) 0 puL : Nat) : Int)) (Ev.congr (f := fun k => trickleref15_mark.l0 k s puL ((0 : Nat) : Int) ((0 : Nat) : Int)) (fun k => rfl) hm) ?_
  by_cases hz : markF (bs s) 0 puL > 0
  · have ht : tokR s = (4, cut s (markF (bs s) 0 puL), 0, 0) := by unfold tokR tok; rw [if_neg hw, if_neg hp, if_pos hz]
    rw [ht, Int.toNat_natCast]
    exact Ev.pos (by omega) (Ev.pos (by omega) (Ev.pos (by omega) (Ev.now _)))
  · have ht : tokR s = (5, cut s 1, 0, 0) := by unfold tokR tok; rw [if_neg hw, if_neg hp, if_neg hz]
    rw [ht]
    exact Ev.neg (by omega) (Ev.pos (by omega) (Ev.pos (by omega) (Ev.now _)))
end Go.Proofs.YtmpbkemicfmbaaaDoor.PX
