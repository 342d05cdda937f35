/- Parts of the proof, merged in build order: Lx6, PXx25, Lx5, PXx26, PXx27, PureLexerJoin, Lx7, Lx8, PXx28, PureLexerRescan. -/
import Derived.Test.YtmpbkemicfmbaaaDoorY5
import Derived.Test.YtmpbkemicfmbaaaDoorY1
import Derived.Test.YtmpbkemicfmbaaaDoorY4
/- The lexer in plain words, 6: tokens without their places, and what a token's end depends on. -/
namespace Go.Proofs.YtmpbkemicfmbaaaDoor.PX
open Go.RowKit Go.Proofs.YtmpbkemicfmbaaaDoorW.PrintWords Go.Proofs.YtmpbkemicfmbaaaDoorW.PrintLast Go.Proofs.YtmpbkemicfmbaaaDoorW.PrintMore
set_option linter.unusedVariables false
set_option linter.unusedSimpArgs false
def mkB (l : List UInt8) : ByteArray := ⟨l.toArray⟩
theorem bs_mkB (l : List UInt8) : bs (mkB l) = l := rfl
theorem mkB_bs (s : ByteArray) : mkB (bs s) = s := bs_inj (bs_mkB _)
theorem extract_mkB (s : ByteArray) (j : Nat) : s.extract j s.size = mkB ((bs s).drop j) := bs_inj (by rw [bs_drop, bs_mkB])
theorem cut_mkB (l : List UInt8) (n : Nat) : cut (mkB l) n = mkB (l.take n) := bs_inj (by rw [bs_cut, bs_mkB, bs_mkB])
/-- A word's kind by its bytes. -/
def wk (l : List UInt8) : Int := if hasS kwL (mkB l) = true then 3 else if l.length ≤ 32 then 1 else 5
def tokL (l : List UInt8) : Tk :=
  if wordN l > 0 then ⟨wordN l, wk (l.take (wordN l)), 0⟩
  else if pre dgtB l > 0 then ⟨pre dgtB l, nkind (l.take (pre dgtB l)), nval (l.take (pre dgtB l))⟩
  else if markF l 0 puL > 0 then ⟨markF l 0 puL, 4, 0⟩ else ⟨1, 5, 0⟩
theorem tok_mkB (l : List UInt8) : tok (mkB l) = tokL l := by
  unfold tok tokL
  rw [bs_mkB]
  by_cases h : wordN l > 0
  · rw [if_pos h, if_pos h]
    congr 1
    unfold wkind wk
    rw [cut_mkB, List.length_take]
    have := wordN_le l
    rw [Nat.min_eq_left this]
  · rw [if_neg h, if_neg h]
theorem tokL_range (l : List UInt8) (h : 0 < l.length) : 1 ≤ (tokL l).n ∧ (tokL l).n ≤ l.length := by
  have := tok_range (mkB l) h
  rw [tok_mkB] at this
  exact this
/-- A token without its place. -/
structure Tq where
  k : Int
  b : List UInt8
  v : Int
def strip (t : S37) : Tq := ⟨t.f0, bs t.f1, t.f2⟩
def eofQ : Tq := ⟨0, [], 0⟩
def tkF : Nat → List UInt8 → List Tq
  | 0, _ => []
  | d + 1, l => if l.drop (bl false l) = [] then [eofQ] else ⟨(tokL (l.drop (bl false l))).k, (l.drop (bl false l)).take (tokL (l.drop (bl false l))).n, (tokL (l.drop (bl false l))).v⟩ :: tkF d ((l.drop (bl false l)).drop (tokL (l.drop (bl false l))).n)
theorem tkF_end (d : Nat) (l : List UInt8) (h : l.drop (bl false l) = []) : tkF (d + 1) l = [eofQ] := by rw [tkF]; exact if_pos h
theorem tkF_tok (d : Nat) (l m : List UInt8) (hm : l.drop (bl false l) = m) (h : m ≠ []) : tkF (d + 1) l = ⟨(tokL m).k, m.take (tokL m).n, (tokL m).v⟩ :: tkF d (m.drop (tokL m).n) := by
  rw [tkF, hm]
  exact if_neg h
theorem strip_scan : ∀ (d : Nat) (s : ByteArray) (j : Nat), (bs s).length ≤ j + d → j ≤ (bs s).length → (scanF (d + 1) s j).map strip = tkF (d + 1) ((bs s).drop j) := by
  intro d
  induction d with
  | zero =>
    intro s j h1 h2
    have hz := bl_end s j (by omega)
    rw [scanF_end 0 s j (by omega), tkF_end 0 _ (by rw [show (bs s).drop j = [] from List.drop_of_length_le (by omega)]; rfl)]
    rfl
  | succ d ih =>
    intro s j h1 h2
    have hb := bl_le ((bs s).drop j) false
    rw [List.length_drop] at hb
    generalize hbb : bl false ((bs s).drop j) = b at hb
    by_cases h : j + b = (bs s).length
    · rw [scanF_end _ s j (by rw [hbb]; exact h), tkF_end _ _ (by rw [hbb, List.drop_drop, List.drop_of_length_le (by omega)])]
      rfl
    · have hm : ((bs s).drop j).drop (bl false ((bs s).drop j)) = (bs s).drop (j + b) := by rw [hbb, List.drop_drop]
      have hne : (bs s).drop (j + b) ≠ [] := by
        intro e
        have := congrArg List.length e
        rw [List.length_drop, List.length_nil] at this
        omega
      have hx : 0 < ((bs s).drop (j + b)).length := by rw [List.length_drop]; omega
      have htr := tokL_range _ hx
      rw [List.length_drop] at htr
      rw [scanF_tok _ s j b hbb h, tkF_tok _ _ _ hm hne, extract_mkB, tok_mkB, List.map_cons, ih s _ (by omega) (by omega), List.drop_drop, cut_mkB]
      rfl
theorem strip_scan0 (s : ByteArray) : (scan s).map strip = tkF ((bs s).length + 1) (bs s) := by
  have := strip_scan (bs s).length s 0 (by omega) (by omega)
  rw [List.drop_zero] at this
  exact this
/-- Enough steps are enough. -/
theorem tkF_more : ∀ (d e : Nat) (l : List UInt8), l.length ≤ d → l.length ≤ e → tkF (d + 1) l = tkF (e + 1) l := by
  intro d
  induction d with
  | zero =>
    intro e l h1 h2
    have hl : l = [] := List.length_eq_zero_iff.mp (by omega)
    subst hl
    rfl
  | succ d ih =>
    intro e l h1 h2
    by_cases h : l.drop (bl false l) = []
    · rw [tkF_end _ _ h, tkF_end _ _ h]
    · have hx : 0 < (l.drop (bl false l)).length := List.length_pos_iff.mpr h
      have htr := tokL_range _ hx
      have hle : (l.drop (bl false l)).length ≤ l.length := by rw [List.length_drop]; omega
      rw [tkF_tok _ _ _ rfl h, tkF_tok _ _ _ rfl h]
      cases e with
      | zero => omega
      | succ e => rw [ih e _ (by rw [List.length_drop]; omega) (by rw [List.length_drop]; omega)]
/-- Same, without places, of two lists that differ in places alone. -/
theorem sameq_loop (a b : List S37) (hl : a.length = b.length) (hn : a.length ≤ 1000000) (hq : ∀ i (h1 : i < a.length) (h2 : i < b.length), strip a[i] = strip b[i]) : ∀ (d j : Nat), j + d = a.length → Ev (fun k => trickleref15_Same.l0 k (a.map to32) (b.map to32) false (j : Int)) true
  | 0, j, hj => Ev.step (fun k => by rw [trickleref15_Same.l0]) (Ev.neg (by rw [List.length_map]; omega) (Ev.now _))
  | d + 1, j, hj => by
    have h1 : j < a.length := by omega
    have h2 : j < b.length := by omega
    have e := hq j h1 h2
    have ha := rd_T32_nat (a.map to32) j (by rw [List.length_map]; exact h1)
    have hb := rd_T32_nat (b.map to32) j (by rw [List.length_map]; exact h2)
    rw [List.getElem_map] at ha hb
    have e1 : (to32 a[j]).f0 = (to32 b[j]).f0 := congrArg Tq.k e
    have e2 : (to32 a[j]).f1 = (to32 b[j]).f1 := bs_inj (congrArg Tq.b e)
    have e3 : (to32 a[j]).f2 = (to32 b[j]).f2 := congrArg Tq.v e
    refine Ev.step (fun k => by rw [trickleref15_Same.l0]) (Ev.pos (by rw [List.length_map]; omega) (Ev.pos (by omega) (Ev.pos (by rw [List.length_map]; omega) ?_)))
    rw [ha, hb]
    refine Ev.pos e1 (Ev.pos (by rw [e2]) (Ev.pos e3 (Ev.neg (by decide) ?_)))
    refine Ev.step (fun k => by rw [trickleref15_Same.j1]) (Ev.neg (by decide) ?_)
    rw [wrap_nat (n := a.length) h1 (by omega)]
    exact sameq_loop a b hl hn hq d (j + 1) (by omega)
theorem sameq_ev (a b : List S37) (hn : a.length ≤ 1000000) (h : a.map strip = b.map strip) : Ev (fun k => trickleref15_Same.f k (a.map to32) (b.map to32) false) true := by
  have hl : a.length = b.length := by
    have := congrArg List.length h
    rw [List.length_map, List.length_map] at this
    exact this
  refine Ev.congr (f := fun k => trickleref15_Same.l0 k (a.map to32) (b.map to32) false ((0 : Nat) : Int)) (fun k => by rw [trickleref15_Same.f, if_pos (by rw [List.length_map, List.length_map, hl])]; rfl) (sameq_loop a b hl hn ?_ a.length 0 (by omega))
  intro i h1 h2
  have e : (a.map strip)[i]? = (b.map strip)[i]? := by rw [h]
  rw [List.getElem?_map, List.getElem?_map, List.getElem?_eq_getElem h1, List.getElem?_eq_getElem h2] at e
  exact Option.some.inj e
/-! What ends a token. -/
/-- A byte that is in no word and no mark. -/
def stopB (c : UInt8) : Prop := wrdB c = false ∧ dgtB c = false ∧ ∀ p ∈ puL, c ∉ bs p
theorem stop10 : stopB 10 := ⟨by decide, by decide, by decide⟩
theorem stop32 : stopB 32 := ⟨by decide, by decide, by decide⟩
theorem pre_stop (p : UInt8 → Bool) (c : UInt8) (hc : p c = false) (m y : List UInt8) : pre p (m ++ c :: y) = pre p m := by
  induction m with
  | nil =>
    rw [List.nil_append, pre_cons, if_neg (by rw [hc]; decide)]
    rfl
  | cons d r ih => rw [List.cons_append, pre_cons, pre_cons, ih]
theorem pre_in (p : UInt8 → Bool) (m y : List UInt8) (h : pre p m < m.length) : pre p (m ++ y) = pre p m := by
  induction m with
  | nil => simp at h
  | cons d r ih =>
    rw [List.cons_append, pre_cons, pre_cons]
    rw [pre_cons, List.length_cons] at h
    by_cases hd : p d = true
    · rw [if_pos hd] at h
      rw [if_pos hd, if_pos hd, ih (by omega)]
    · rw [if_neg hd, if_neg hd]
theorem wordN_head (c : UInt8) (r : List UInt8) : wordN (c :: r) = if ltrB c = true then pre wrdB (c :: r) else 0 := rfl
theorem wordN_app (m y : List UInt8) (hm : m ≠ []) (h : pre wrdB (m ++ y) = pre wrdB m) : wordN (m ++ y) = wordN m := by
  cases m with
  | nil => exact absurd rfl hm
  | cons c r => rw [List.cons_append, wordN_head, wordN_head, ← List.cons_append, h]
theorem markF_congr (L M : List UInt8) (h : ∀ p ∈ puL, (p.size ≤ L.length ∧ L.take p.size = bs p) ↔ (p.size ≤ M.length ∧ M.take p.size = bs p)) : markF L 0 puL = markF M 0 puL := by
  have aux : ∀ (ps : List ByteArray) (n : Nat), (∀ p ∈ ps, (p.size ≤ L.length ∧ L.take p.size = bs p) ↔ (p.size ≤ M.length ∧ M.take p.size = bs p)) → markF L n ps = markF M n ps := by
    intro ps
    induction ps with
    | nil => intro n _; rfl
    | cons p r ih =>
      intro n hp
      have h1 : markS L n p = markS M n p := by
        unfold markS
        by_cases hc : (p.size ≤ L.length ∧ L.take p.size = bs p) ∧ n < p.size
        · rw [if_pos hc, if_pos ⟨(hp p (.head _)).mp hc.1, hc.2⟩]
        · rw [if_neg hc, if_neg (fun e => hc ⟨(hp p (.head _)).mpr e.1, e.2⟩)]
      show markF L (markS L n p) r = markF M (markS M n p) r
      rw [h1]
      exact ih _ (fun q hq => hp q (.tail _ hq))
  exact aux puL 0 h
theorem markF_stop (c : UInt8) (hc : ∀ p ∈ puL, c ∉ bs p) (m y : List UInt8) : markF (m ++ c :: y) 0 puL = markF m 0 puL := by
  apply markF_congr
  intro p hp
  have hcp := hc p hp
  have hs := bs_len p
  constructor
  · rintro ⟨h1, h2⟩
    by_cases hl : p.size ≤ m.length
    · exact ⟨hl, by rw [← h2, List.take_append_of_le_length hl]⟩
    · exfalso
      apply hcp
      rw [← h2]
      have h3 : (m ++ c :: y)[m.length]? = some c := by rw [List.getElem?_append_right (by omega), Nat.sub_self]; rfl
      have h4 : ((m ++ c :: y).take p.size)[m.length]? = some c := by rw [List.getElem?_take, if_pos (by omega)]; exact h3
      exact List.mem_of_getElem? h4
  · rintro ⟨h1, h2⟩
    exact ⟨by rw [List.length_append]; omega, by rw [List.take_append_of_le_length h1]; exact h2⟩
theorem two_marks : ∀ p ∈ puL, p.size ≤ 2 := by decide
theorem markF_in (m y : List UInt8) (h : 2 ≤ m.length) : markF (m ++ y) 0 puL = markF m 0 puL := by
  apply markF_congr
  intro p hp
  have h2 := two_marks p hp
  rw [List.take_append_of_le_length (by omega), List.length_append]
  exact ⟨fun e => ⟨by omega, e.2⟩, fun e => ⟨by omega, e.2⟩⟩
/-- A token whose bytes' lengths of word, digits and mark stand as they stood. -/
theorem tokL_app (m y : List UInt8) (hm : m ≠ []) (h1 : pre wrdB (m ++ y) = pre wrdB m) (h2 : pre dgtB (m ++ y) = pre dgtB m) (h3 : markF (m ++ y) 0 puL = markF m 0 puL) : tokL (m ++ y) = tokL m := by
  have hw := wordN_app m y hm h1
  have e1 := wordN_le m
  have e2 := pre_le dgtB m
  unfold tokL
  rw [hw, h2, h3, List.take_append_of_le_length e1, List.take_append_of_le_length e2]
theorem tokL_stop (c : UInt8) (hc : stopB c) (m y : List UInt8) (hm : m ≠ []) : tokL (m ++ c :: y) = tokL m :=
  tokL_app m (c :: y) hm (pre_stop _ c hc.1 m y) (pre_stop _ c hc.2.1 m y) (markF_stop c hc.2.2 m y)
end Go.Proofs.YtmpbkemicfmbaaaDoor.PX
-- Written by a program of this session (wip/xprint.py, over the kit's print tool). Lean checks it.
namespace Go.Proofs.YtmpbkemicfmbaaaDoor.PX
open Go.RowKit Go.Proofs.YtmpbkemicfmbaaaDoorW.PrintWords Go.Proofs.YtmpbkemicfmbaaaDoorW.PrintLast Go.Proofs.YtmpbkemicfmbaaaDoorW.PrintMore
attribute [local go_sem] max2_int min2_int max_two min_two max_three min_three max_four min_four   -- for this text's walks alone
set_option linter.unusedVariables false
set_option linter.unusedSimpArgs false

/-! ### tricklelaw15_own: function 16 -/
def tricklelaw15_own.l0 : Nat → List (S37) → List (S32) → Int → Int → Option ((List (S37)))
  | 0, _, _, _, _ => none
  | k + 1, x3, x6, x7, x8 => if x8 < x7 then (if 0 ≤ x8 then (if x8 < (x6.length : Int) then (if x3.length < 3518437208883 then (tricklelaw15_own.l0 k (x3 ++ [(⟨(rd_T32 x6 x8).f0, (rd_T32 x6 x8).f1, (rd_T32 x6 x8).f2, (rd_T32 x6 x8).f3⟩ : S37)]) x6 x7 (wrap64 (x8 + 1))) else (none)) else (none)) else (none)) else (some x3)
def tricklelaw15_own.f (k : Nat) (l0 : List (S32)) : Option ((List (S37))) := tricklelaw15_own.l0 k ([] : List (S37)) l0 (l0.length : Int) 0
end Go.Proofs.YtmpbkemicfmbaaaDoor.PX
/- The lexer in plain words, 5: tokens of the reference turned into the program's; the errors. -/
namespace Go.Proofs.YtmpbkemicfmbaaaDoor.PX
open Go.RowKit Go.Proofs.YtmpbkemicfmbaaaDoorW.PrintWords Go.Proofs.YtmpbkemicfmbaaaDoorW.PrintLast Go.Proofs.YtmpbkemicfmbaaaDoorW.PrintMore
set_option linter.unusedVariables false
set_option linter.unusedSimpArgs false
def to37 (t : S32) : S37 := ⟨t.f0, t.f1, t.f2, t.f3⟩
theorem own_loop (l : List S32) (hn : l.length ≤ 1000000) : ∀ (d j : Nat) (acc : List S37), j + d = l.length → acc.length ≤ j → Ev (fun k => tricklelaw15_own.l0 k acc l (l.length : Int) (j : Int)) (acc ++ (l.drop j).map to37)
  | 0, j, acc, hj, ha => by
    rw [List.drop_of_length_le (by omega), List.map_nil, List.append_nil]
    exact Ev.step (fun k => by rw [tricklelaw15_own.l0]) (Ev.neg (by omega) (Ev.now _))
  | d + 1, j, acc, hj, ha => by
    refine Ev.step (fun k => by rw [tricklelaw15_own.l0]) (Ev.pos (by omega) (Ev.pos (by omega) (Ev.pos (by omega) (Ev.pos (by omega) ?_))))
    rw [rd_T32_nat l j (by omega), wrap_nat (n := l.length) (by omega) (by omega)]
    refine Ev.cast (own_loop l hn d (j + 1) _ (by omega) (by simp; omega)) ?_
    rw [drop_cons l j (by omega), List.map_cons, List.append_assoc]
    rfl
theorem own_ev (l : List S32) (hn : l.length ≤ 1000000) : Ev (fun k => tricklelaw15_own.f k l) (l.map to37) := by
  have h := own_loop l hn l.length 0 [] (by omega) (by simp)
  rw [List.drop_zero] at h
  exact h
end Go.Proofs.YtmpbkemicfmbaaaDoor.PX
-- Written by a program of this session (wip/xprint.py, over the kit's print tool). Lean checks it.
namespace Go.Proofs.YtmpbkemicfmbaaaDoor.PX
open Go.RowKit Go.Proofs.YtmpbkemicfmbaaaDoorW.PrintWords Go.Proofs.YtmpbkemicfmbaaaDoorW.PrintLast Go.Proofs.YtmpbkemicfmbaaaDoorW.PrintMore
attribute [local go_sem] max2_int min2_int max_two min_two max_three min_three max_four min_four   -- for this text's walks alone
set_option linter.unusedVariables false
set_option linter.unusedSimpArgs false

/-! ### trickleref15_Join: function 17 -/
mutual
def trickleref15_Join.l0 : Nat → List (S32) → ByteArray → ByteArray → Int → Option (ByteArray)
  | 0, _, _, _, _ => none
  | k + 1, x0, x3, x4, x5 => if x5 < (x0.length : Int) then (if 0 ≤ x5 then (if ((rd_T32 x0 x5).f1).toList = ([] : List UInt8) then (trickleref15_Join.l0 k x0 x3 x4 (wrap64 (x5 + 1))) else (if x4.toList = ([] : List UInt8) then (if x3.size + ((rd_T32 x0 x5).f1).size ≤ 9223372036854775807 then (trickleref15_Join.l0 k x0 (x3 ++ ((rd_T32 x0 x5).f1)) ((rd_T32 x0 x5).f1) (wrap64 (x5 + 1))) else (none)) else (if x4.size + ((rd_T32 x0 x5).f1).size ≤ 9223372036854775807 then ((trickleref15_Scan.f k (x4 ++ ((rd_T32 x0 x5).f1))).bind fun t230 => (if (t230.length : Int) = 3 then (if 0 < (t230.length : Int) then (if ((rd_T32 t230 0).f1).toList = x4.toList then (if 1 < (t230.length : Int) then (trickleref15_Join.j1 k x0 x3 x5 ((rd_T32 x0 x5).f1) (((rd_T32 t230 1).f1).toList != ((rd_T32 x0 x5).f1).toList)) else (none)) else (trickleref15_Join.j1 k x0 x3 x5 ((rd_T32 x0 x5).f1) true)) else (none)) else (trickleref15_Join.j1 k x0 x3 x5 ((rd_T32 x0 x5).f1) true))) else (none)))) else (none)) else (some x3)
def trickleref15_Join.j1 : Nat → List (S32) → ByteArray → Int → ByteArray → Bool → Option (ByteArray)
  | 0, _, _, _, _, _ => none
  | k + 1, x0, x3, x5, x6, x45 => if x45 = true then (if x3.size + 1 ≤ 9223372036854775807 then (if (x3 ++ (⟨#[32]⟩ : ByteArray)).size + x6.size ≤ 9223372036854775807 then (trickleref15_Join.l0 k x0 ((x3 ++ (⟨#[32]⟩ : ByteArray)) ++ x6) x6 (wrap64 (x5 + 1))) else (none)) else (none)) else (if x3.size + x6.size ≤ 9223372036854775807 then (trickleref15_Join.l0 k x0 (x3 ++ x6) x6 (wrap64 (x5 + 1))) else (none))
end
def trickleref15_Join.f (k : Nat) (l0 : List (S32)) : Option (ByteArray) := trickleref15_Join.l0 k l0 (⟨#[]⟩ : ByteArray) (⟨#[]⟩ : ByteArray) 0
end Go.Proofs.YtmpbkemicfmbaaaDoor.PX
-- Written by a program of this session (wip/xprint.py, over the kit's print tool). Lean checks it.
namespace Go.Proofs.YtmpbkemicfmbaaaDoor.PX
open Go.RowKit Go.Proofs.YtmpbkemicfmbaaaDoorW.PrintWords Go.Proofs.YtmpbkemicfmbaaaDoorW.PrintLast Go.Proofs.YtmpbkemicfmbaaaDoorW.PrintMore
attribute [local go_sem] max2_int min2_int max_two min_two max_three min_three max_four min_four   -- for this text's walks alone
set_option linter.unusedVariables false
set_option linter.unusedSimpArgs false

/-! ### tricklelaw15_LexerJoin: function 4 -/
def tricklelaw15_LexerJoin.l0 : Nat → List (S32) → List (S32) → Int → Int → Option (Bool)
  | 0, _, _, _, _ => none
  | k + 1, x0, x10, x11, x12 => if x12 < x11 then (if 0 ≤ x12 then (if x12 < (x10.length : Int) then (if (((rd_T32 x10 x12).f1).size : Int) > 60 then (some true) else (tricklelaw15_LexerJoin.l0 k x0 x10 x11 (wrap64 (x12 + 1)))) else (none)) else (none)) else ((tricklelaw15_own.f k x0).bind fun t238 => ((lexer_Join.f k t238).bind fun t241 => ((trickleref15_Join.f k x0).bind fun t242 => (some (t241.toList == t242.toList)))))
def tricklelaw15_LexerJoin.f (k : Nat) (l0 : List (S32)) : Option (Bool) := (tricklelaw15_wakes.f k).bind fun t235 => (if t235 = true then (if (l0.length : Int) > 60 then (some true) else (tricklelaw15_LexerJoin.l0 k l0 l0 (l0.length : Int) 0)) else (some false))
end Go.Proofs.YtmpbkemicfmbaaaDoor.PX
/- LexerJoin in plain words: both put a space between two texts exactly if their Scan says so. -/
namespace Go.Proofs.YtmpbkemicfmbaaaDoor.PX
open Go.RowKit Go.Proofs.YtmpbkemicfmbaaaDoorW.PrintWords Go.Proofs.YtmpbkemicfmbaaaDoorW.PrintLast Go.Proofs.YtmpbkemicfmbaaaDoorW.PrintMore
set_option linter.unusedVariables false
set_option linter.unusedSimpArgs false
theorem bs_app (a b : ByteArray) : bs (a ++ b) = bs a ++ bs b := by show (a ++ b).data.toList = _; rw [ByteArray.data_append, Array.toList_append]
/-- Whether two texts want a space between them. -/
def sepB (a b : ByteArray) : Bool := if (scan (a ++ b)).length = 3 then (if (rd_T37 (scan (a ++ b)) 0).f1.toList = a.toList then ((rd_T37 (scan (a ++ b)) 1).f1.toList != b.toList) else true) else true
theorem apart_ev (a b : ByteArray) (ha : (bs a).length ≤ 1000) (hb : (bs b).length ≤ 1000) : Ev (fun k => lexer_apart.f k a b) (sepB a b) := by
  have h1 := bs_len a
  have h2 := bs_len b
  refine Ev.congr (fun k => by rw [lexer_apart.f]) (Ev.pos (by omega) (Ev.bind (scan_ev (a ++ b) (by rw [bs_app, List.length_append]; omega)) ?_))
  by_cases h3 : (scan (a ++ b)).length = 3
  · refine Ev.pos (by omega) (Ev.pos (by omega) ?_)
    by_cases h4 : (rd_T37 (scan (a ++ b)) 0).f1.toList = a.toList
    · have hsp : sepB a b = ((rd_T37 (scan (a ++ b)) 1).f1.toList != b.toList) := (if_pos h3).trans (if_pos h4)
      rw [hsp]
      exact Ev.pos h4 (Ev.pos (by omega) (Ev.now _))
    · have hsp : sepB a b = true := (if_pos h3).trans (if_neg h4)
      rw [hsp]
      exact Ev.neg h4 (Ev.now _)
  · have hsp : sepB a b = true := if_neg h3
    rw [hsp]
    exact Ev.neg (by omega) (Ev.now _)
def joinP : ByteArray → List UInt8 → List S32 → List UInt8
  | _, out, [] => out
  | last, out, t :: r => if t.f1.toList = ([] : List UInt8) then joinP last out r else if last.toList = ([] : List UInt8) then joinP t.f1 (out ++ bs t.f1) r else joinP t.f1 ((if sepB last t.f1 = true then out ++ [32] else out) ++ bs t.f1) r
theorem join_impl (l : List S32) (hs : ∀ x ∈ l, x.f1.size ≤ 60) : ∀ (last : ByteArray) (out : List UInt8), last.size ≤ 60 → out.length + 61 * l.length ≤ 100000 → Ev (fun k => joinL k last out (l.map to37)) (joinP last out l) := by
  induction l with
  | nil => intro last out _ _; exact Ev.congr (f := fun _ => some out) (fun k => by rw [List.map_nil, joinL]) (Ev.now out)
  | cons t r ih =>
    intro last out hl ho
    have ht := hs t (.head _)
    have hr : ∀ x ∈ r, x.f1.size ≤ 60 := fun x hx => hs x (.tail _ hx)
    have hbl := bs_len t.f1
    have hbl2 := bs_len last
    have hdl : t.f1.data.toList.length = t.f1.size := hbl
    rw [List.length_cons] at ho
    rw [joinP]
    refine Ev.congr (fun k => by rw [List.map_cons, joinL]) ?_
    show Ev (fun k => if t.f1.toList = ([] : List UInt8) then joinL k last out (r.map to37) else if out.length + t.f1.size + 1 ≤ 140737488355328 then (if last.toList = ([] : List UInt8) then joinL k t.f1 (out ++ t.f1.data.toList) (r.map to37) else (lexer_apart.f k last t.f1).bind fun ap => joinL k t.f1 ((if ap = true then out ++ [32] else out) ++ t.f1.data.toList) (r.map to37)) else none) _
    by_cases h1 : t.f1.toList = ([] : List UInt8)
    · rw [if_pos h1]
      exact Ev.pos h1 (ih hr last out hl (by omega))
    · rw [if_neg h1]
      refine Ev.neg h1 (Ev.pos (by omega) ?_)
      by_cases h2 : last.toList = ([] : List UInt8)
      · rw [if_pos h2]
        exact Ev.pos h2 (ih hr t.f1 _ ht (by rw [List.length_append]; omega))
      · rw [if_neg h2]
        refine Ev.neg h2 (Ev.bind (apart_ev last t.f1 (by omega) (by omega)) (ih hr t.f1 _ ht ?_))
        rw [List.length_append]
        split
        · rw [List.length_append]; simp only [List.length_cons, List.length_nil]; omega
        · omega
theorem join_ref (l : List S32) (hs : ∀ x ∈ l, x.f1.size ≤ 60) (hn : l.length ≤ 1000) : ∀ (d j : Nat) (out last : ByteArray), j + d = l.length → last.size ≤ 60 → (bs out).length + 61 * d ≤ 100000 → ∃ R, Ev (fun k => trickleref15_Join.l0 k l out last (j : Int)) R ∧ bs R = joinP last (bs out) (l.drop j)
  | 0, j, out, last, hj, hl, ho => ⟨out, Ev.step (fun k => by rw [trickleref15_Join.l0]) (Ev.neg (by omega) (Ev.now _)), by rw [List.drop_of_length_le (by omega)]; rfl⟩
  | d + 1, j, out, last, hj, hl, ho => by
    have hjl : j < l.length := by omega
    have ht := hs l[j] (List.getElem_mem hjl)
    have hrd := rd_T32_nat l j hjl
    have hb1 := bs_len l[j].f1
    have hb2 := bs_len out
    have hb3 := bs_len last
    have hwr := wrap_nat (n := l.length) hjl (by omega)
    rw [drop_cons l j hjl, joinP]
    by_cases h1 : l[j].f1.toList = ([] : List UInt8)
    · obtain ⟨R, hR, hB⟩ := join_ref l hs hn d (j + 1) out last (by omega) hl (by omega)
      refine ⟨R, Ev.step (fun k => by rw [trickleref15_Join.l0]) (Ev.pos (by omega) (Ev.pos (by omega) ?_)), ?_⟩
      · rw [hrd, hwr]
        exact Ev.pos h1 hR
      · rw [if_pos h1]; exact hB
    rw [if_neg h1]
    by_cases h2 : last.toList = ([] : List UInt8)
    · obtain ⟨R, hR, hB⟩ := join_ref l hs hn d (j + 1) (out ++ l[j].f1) l[j].f1 (by omega) ht (by rw [bs_app, List.length_append]; omega)
      refine ⟨R, Ev.step (fun k => by rw [trickleref15_Join.l0]) (Ev.pos (by omega) (Ev.pos (by omega) ?_)), ?_⟩
      · rw [hrd, hwr]
        exact Ev.neg h1 (Ev.pos h2 (Ev.pos (by omega) hR))
      · rw [if_pos h2, ← bs_app]; exact hB
    rw [if_neg h2]
    -- the reference's own look at the two texts
    have look : ∀ (R : ByteArray), Ev (fun k => trickleref15_Join.j1 k l out (j : Int) l[j].f1 (sepB last l[j].f1)) R → Ev (fun k => trickleref15_Join.l0 k l out last (j : Int)) R := by
      intro R hR
      refine Ev.step (fun k => by rw [trickleref15_Join.l0]) (Ev.pos (by omega) (Ev.pos (by omega) ?_))
      rw [hrd]
      refine Ev.neg h1 (Ev.neg h2 (Ev.pos (by omega) (Ev.bind (rscan_ev (last ++ l[j].f1) (by rw [bs_app, List.length_append]; omega)) ?_)))
      rw [List.length_map]
      unfold sepB at hR
      by_cases h3 : (scan (last ++ l[j].f1)).length = 3
      · rw [if_pos h3] at hR
        have r0 := rd_T32_nat ((scan (last ++ l[j].f1)).map to32) 0 (by rw [List.length_map]; omega)
        have r1 := rd_T32_nat ((scan (last ++ l[j].f1)).map to32) 1 (by rw [List.length_map]; omega)
        have q0 := rd_T37_nat (scan (last ++ l[j].f1)) 0 (by omega)
        have q1 := rd_T37_nat (scan (last ++ l[j].f1)) 1 (by omega)
        rw [List.getElem_map, ← q0] at r0
        rw [List.getElem_map, ← q1] at r1
        rw [show ((0 : Nat) : Int) = 0 from rfl] at r0
        rw [show ((1 : Nat) : Int) = 1 from rfl] at r1
        refine Ev.pos (by omega) (Ev.pos (by omega) ?_)
        rw [r0, r1]
        by_cases h4 : (rd_T37 (scan (last ++ l[j].f1)) 0).f1.toList = last.toList
        · rw [if_pos h4] at hR
          exact Ev.pos h4 (Ev.pos (by omega) hR)
        · rw [if_neg h4] at hR
          exact Ev.neg h4 hR
      · rw [if_neg h3] at hR
        exact Ev.neg (by omega) hR
    cases hsp : sepB last l[j].f1 with
    | true =>
      obtain ⟨R, hR, hB⟩ := join_ref l hs hn d (j + 1) ((out ++ (⟨#[32]⟩ : ByteArray)) ++ l[j].f1) l[j].f1 (by omega) ht (by rw [bs_app, bs_app, List.length_append, List.length_append]; show (bs out).length + 1 + _ + _ ≤ _; omega)
      refine ⟨R, look R ?_, ?_⟩
      · rw [hsp]
        have hsz : (out ++ (⟨#[32]⟩ : ByteArray)).size = out.size + 1 := by rw [← bs_len, bs_app, List.length_append, hb2]; rfl
        refine Ev.step (fun k => by rw [trickleref15_Join.j1]) (Ev.pos rfl (Ev.pos (by omega) (Ev.pos (by omega) ?_)))
        rw [hwr]
        exact hR
      · rw [if_pos rfl, hB, bs_app, bs_app]
    | false =>
      obtain ⟨R, hR, hB⟩ := join_ref l hs hn d (j + 1) (out ++ l[j].f1) l[j].f1 (by omega) ht (by rw [bs_app, List.length_append]; omega)
      refine ⟨R, look R ?_, ?_⟩
      · rw [hsp]
        refine Ev.step (fun k => by rw [trickleref15_Join.j1]) (Ev.neg (by decide) (Ev.pos (by omega) ?_))
        rw [hwr]
        exact hR
      · rw [if_neg (by decide), hB, bs_app]
theorem law_loop (l : List S32) (hn : l.length ≤ 60) : ∀ (d j : Nat), j + d = l.length → (∀ i (h : i < l.length), i < j → l[i].f1.size ≤ 60) → Ev (fun k => tricklelaw15_LexerJoin.l0 k l l (l.length : Int) (j : Int)) true
  | 0, j, hj, hs => by
    have hs' : ∀ x ∈ l, x.f1.size ≤ 60 := fun x hx => by
      obtain ⟨i, hi, rfl⟩ := List.getElem_of_mem hx
      exact hs i hi (by omega)
    have hi := join_impl l hs' ⟨#[]⟩ [] (by decide) (by simp; omega)
    obtain ⟨R, hR, hB⟩ := join_ref l hs' (by omega) l.length 0 ⟨#[]⟩ ⟨#[]⟩ (by omega) (by decide) (by show 0 + _ ≤ _; omega)
    refine Ev.step (fun k => by rw [tricklelaw15_LexerJoin.l0]) (Ev.neg (by omega) ?_)
    refine Ev.bind (own_ev l (by omega)) (Ev.bind (a := ⟨(joinP ⟨#[]⟩ [] l).toArray⟩) (Ev.congr (fun k => by rw [lexer_Join.f]) (Ev.bind hi (Ev.now _))) (Ev.bind hR (Ev.cast (Ev.now _) ?_)))
    rw [beq_iff_eq, toList_bs, toList_bs, hB, List.drop_zero]
  | d + 1, j, hj, hs => by
    have hjl : j < l.length := by omega
    refine Ev.step (fun k => by rw [tricklelaw15_LexerJoin.l0]) (Ev.pos (by omega) (Ev.pos (by omega) (Ev.pos (by omega) ?_)))
    rw [rd_T32_nat l j hjl, wrap_nat (n := l.length) hjl (by omega)]
    by_cases h : (l[j].f1.size : Int) > 60
    · exact Ev.pos h (Ev.now _)
    · refine Ev.neg h (law_loop l hn d (j + 1) (by omega) (fun i hi hij => ?_))
      by_cases he : i = j
      · subst he; omega
      · exact hs i hi (by omega)
end Go.Proofs.YtmpbkemicfmbaaaDoor.PX
namespace Go.Proofs.YtmpbkemicfmbaaaDoor.Pure
open Go.RowKit Go.Proofs.YtmpbkemicfmbaaaDoor.PX Go.Proofs.YtmpbkemicfmbaaaDoorW.PrintWords Go.Proofs.YtmpbkemicfmbaaaDoorW.PrintLast
set_option linter.unusedVariables false
theorem LexerJoin (l0 : List S32) (hw : ∀ x ∈ l0, Wf32 x) : ∃ k, tricklelaw15_LexerJoin.f k l0 = some true := by
  refine Ev.rounds (Ev.congr (fun k => by rw [tricklelaw15_LexerJoin.f]) (Ev.bind wakes15 (Ev.pos rfl ?_)))
  by_cases h : (l0.length : Int) > 60
  · exact Ev.pos h (Ev.now _)
  · exact Ev.neg h (law_loop l0 (by omega) l0.length 0 (by omega) (fun i _ h => by omega))
end Go.Proofs.YtmpbkemicfmbaaaDoor.Pure
/- The lexer in plain words, 7: tokens stand by themselves; a line feed parts two texts; joined tokens are scanned as themselves. -/
namespace Go.Proofs.YtmpbkemicfmbaaaDoor.PX
open Go.RowKit Go.Proofs.YtmpbkemicfmbaaaDoorW.PrintWords Go.Proofs.YtmpbkemicfmbaaaDoorW.PrintLast Go.Proofs.YtmpbkemicfmbaaaDoorW.PrintMore
set_option linter.unusedVariables false
set_option linter.unusedSimpArgs false
theorem bl_idem (l : List UInt8) : ∀ m, bl false (l.drop (bl m l)) = 0 := by
  induction l with
  | nil => intro m; cases m <;> rfl
  | cons c r ih =>
    intro m
    cases m with
    | false =>
      by_cases hw : wsB c = true
      · rw [bl, if_pos hw, Nat.add_comm, List.drop_succ_cons, ih]
      · by_cases h2 : c = 47 ∧ r.head? = some 47
        · rw [bl, if_neg hw, if_pos h2, Nat.add_comm, List.drop_succ_cons, ih]
        · have hz : bl false (c :: r) = 0 := by rw [bl, if_neg hw, if_neg h2]
          rw [hz, List.drop_zero, hz]
    | true =>
      by_cases hc : c = 10
      · rw [bl, if_pos hc, Nat.add_comm, List.drop_succ_cons, ih]
      · rw [bl, if_neg hc, Nat.add_comm, List.drop_succ_cons, ih]
theorem bl0_iff (c : UInt8) (r : List UInt8) : bl false (c :: r) = 0 ↔ ¬ wsB c = true ∧ ¬ (c = 47 ∧ r.head? = some 47) := by
  rw [bl]
  by_cases hw : wsB c = true
  · rw [if_pos hw]; exact ⟨fun h => by omega, fun h => absurd hw h.1⟩
  · rw [if_neg hw]
    by_cases h2 : c = 47 ∧ r.head? = some 47
    · rw [if_pos h2]; exact ⟨fun h => by omega, fun h => absurd h2 h.2⟩
    · rw [if_neg h2]; exact ⟨fun _ => ⟨hw, h2⟩, fun _ => rfl⟩
theorem bl0_take (m : List UInt8) (n : Nat) (hn : 1 ≤ n) (h : bl false m = 0) : bl false (m.take n) = 0 := by
  cases m with
  | nil => rw [List.take_nil]; rfl
  | cons c r =>
    obtain ⟨n, rfl⟩ : ∃ k, n = k + 1 := ⟨n - 1, by omega⟩
    rw [List.take_succ_cons]
    have h1 := (bl0_iff c r).mp h
    refine (bl0_iff c _).mpr ⟨h1.1, fun e => h1.2 ⟨e.1, ?_⟩⟩
    have e2 := e.2
    rw [List.head?_take] at e2
    split at e2
    · cases e2
    · exact e2
theorem bl0_app (m y : List UInt8) (hm : m ≠ []) (h : bl false m = 0) (hy : 2 ≤ m.length ∨ y.head? ≠ some 47) : bl false (m ++ y) = 0 := by
  cases m with
  | nil => exact absurd rfl hm
  | cons c r =>
    have h1 := (bl0_iff c r).mp h
    rw [List.cons_append]
    refine (bl0_iff c _).mpr ⟨h1.1, fun e => ?_⟩
    cases r with
    | nil =>
      rcases hy with hy | hy
      · simp at hy
      · exact hy e.2
    | cons d q => exact h1.2 ⟨e.1, e.2⟩
theorem bl_noline (l : List UInt8) (h : (10 : UInt8) ∉ l) : bl true l = l.length := by
  induction l with
  | nil => rfl
  | cons c r ih =>
    rw [bl, if_neg (fun e => h (by rw [e]; exact .head _)), ih (fun e => h (.tail _ e)), List.length_cons]
    omega
theorem pre_take (p : UInt8 → Bool) (m : List UInt8) : pre p (m.take (pre p m)) = pre p m := by
  induction m with
  | nil => rfl
  | cons c r ih =>
    by_cases hc : p c = true
    · have e : pre p (c :: r) = pre p r + 1 := by rw [pre_cons, if_pos hc, Nat.add_comm]
      rw [e, List.take_succ_cons, pre_cons, if_pos hc, ih, Nat.add_comm]
    · have e : pre p (c :: r) = 0 := by rw [pre_cons, if_neg hc]
      rw [e]
      rfl
theorem pre_all (p : UInt8 → Bool) (m : List UInt8) : ∀ x ∈ m.take (pre p m), p x = true := by
  induction m with
  | nil => intro x hx; rw [List.take_nil] at hx; cases hx
  | cons c r ih =>
    intro x hx
    by_cases hc : p c = true
    · have e : pre p (c :: r) = pre p r + 1 := by rw [pre_cons, if_pos hc, Nat.add_comm]
      rw [e, List.take_succ_cons] at hx
      rcases List.mem_cons.mp hx with rfl | h
      · exact hc
      · exact ih x h
    · have e : pre p (c :: r) = 0 := by rw [pre_cons, if_neg hc]
      rw [e] at hx
      cases hx
theorem markF_mono (L : List UInt8) (ps : List ByteArray) : ∀ n, n ≤ markF L n ps := by
  induction ps with
  | nil => intro n; exact Nat.le_refl _
  | cons p r ih =>
    intro n
    refine Nat.le_trans ?_ (ih (markS L n p))
    unfold markS
    split
    · rename_i h; omega
    · omega
theorem markF_max (L : List UInt8) (ps : List ByteArray) : ∀ n, ∀ p ∈ ps, (p.size ≤ L.length ∧ L.take p.size = bs p) → p.size ≤ markF L n ps := by
  induction ps with
  | nil => intro n p hp; cases hp
  | cons q r ih =>
    intro n p hp h
    rcases List.mem_cons.mp hp with rfl | hp
    · refine Nat.le_trans ?_ (markF_mono L r (markS L n p))
      unfold markS
      by_cases hlt : n < p.size
      · rw [if_pos ⟨h, hlt⟩]; exact Nat.le_refl _
      · rw [if_neg (fun e => hlt e.2)]; omega
    · exact ih _ p hp h
theorem markF_is (L : List UInt8) (ps : List ByteArray) : ∀ n, markF L n ps = n ∨ ∃ p ∈ ps, markF L n ps = p.size ∧ L.take p.size = bs p := by
  induction ps with
  | nil => intro n; exact .inl rfl
  | cons q r ih =>
    intro n
    rcases ih (markS L n q) with h | ⟨p, hp, h1, h2⟩
    · by_cases hc : (q.size ≤ L.length ∧ L.take q.size = bs q) ∧ n < q.size
      · have hm : markS L n q = q.size := if_pos hc
        exact .inr ⟨q, .head _, h.trans hm, hc.1.2⟩
      · have hm : markS L n q = n := if_neg hc
        exact .inl (h.trans hm)
    · exact .inr ⟨p, .tail _ hp, h1, h2⟩
theorem markF_take (m : List UInt8) (n : Nat) (hn : markF m 0 puL ≤ n) : markF (m.take n) 0 puL = markF m 0 puL := by
  apply markF_congr
  intro p hp
  rw [List.take_take, List.length_take]
  constructor
  · rintro ⟨h1, h2⟩
    rw [Nat.min_eq_left (by omega)] at h2
    exact ⟨by omega, h2⟩
  · intro h
    have := markF_max m puL 0 p hp h
    exact ⟨by omega, by rw [Nat.min_eq_left (show p.size ≤ n by omega)]; exact h.2⟩
theorem wordN_take (c : UInt8) (r : List UInt8) (n : Nat) (h : ¬ ltrB c = true) : wordN ((c :: r).take (n + 1)) = 0 := by
  rw [List.take_succ_cons, wordN_head, if_neg h]
theorem pre_take0 (c : UInt8) (r : List UInt8) (n : Nat) (h : ¬ dgtB c = true) : pre dgtB ((c :: r).take (n + 1)) = 0 := by
  rw [List.take_succ_cons, pre_cons, if_neg h]
/-- The token of a text's first bytes, when these are its token. -/
theorem tok_self (m : List UInt8) (hm : m ≠ []) : tokL (m.take (tokL m).n) = tokL m := by
  cases m with
  | nil => exact absurd rfl hm
  | cons c r =>
    have hpos : 0 < (c :: r).length := by simp
    by_cases h1 : wordN (c :: r) > 0
    · have ht : tokL (c :: r) = ⟨wordN (c :: r), wk ((c :: r).take (wordN (c :: r))), 0⟩ := by unfold tokL; rw [if_pos h1]
      have hl : ltrB c = true := by
        rw [wordN_head] at h1
        by_cases hl : ltrB c = true
        · exact hl
        · rw [if_neg hl] at h1; omega
      have hw : wordN (c :: r) = pre wrdB (c :: r) := by rw [wordN_head, if_pos hl]
      rw [ht]
      show tokL ((c :: r).take (wordN (c :: r))) = _
      have h2 : wordN ((c :: r).take (wordN (c :: r))) = wordN (c :: r) := by
        have hp := pre_take wrdB (c :: r)
        rw [← hw] at hp
        obtain ⟨n, hn⟩ : ∃ n, wordN (c :: r) = n + 1 := ⟨wordN (c :: r) - 1, by omega⟩
        rw [hn] at hp ⊢
        rw [List.take_succ_cons] at hp ⊢
        rw [wordN_head, if_pos hl, hp]
      unfold tokL
      rw [h2, if_pos h1, List.take_take, Nat.min_self]
    · have hl : ¬ ltrB c = true := by
        intro hl
        apply h1
        rw [wordN_head, if_pos hl, pre_cons, if_pos (show wrdB c = true by unfold wrdB; rw [hl]; rfl)]
        omega
      by_cases h2 : pre dgtB (c :: r) > 0
      · have ht : tokL (c :: r) = ⟨pre dgtB (c :: r), nkind ((c :: r).take (pre dgtB (c :: r))), nval ((c :: r).take (pre dgtB (c :: r)))⟩ := by unfold tokL; rw [if_neg h1, if_pos h2]
        rw [ht]
        show tokL ((c :: r).take (pre dgtB (c :: r))) = _
        have h3 := pre_take dgtB (c :: r)
        have h4 : wordN ((c :: r).take (pre dgtB (c :: r))) = 0 := by
          obtain ⟨n, hn⟩ : ∃ n, pre dgtB (c :: r) = n + 1 := ⟨pre dgtB (c :: r) - 1, by omega⟩
          rw [hn]
          exact wordN_take c r n hl
        unfold tokL
        rw [h4, if_neg (by omega), h3, if_pos h2, List.take_take, Nat.min_self]
      · have hd : ¬ dgtB c = true := by
          intro hd
          apply h2
          rw [pre_cons, if_pos hd]
          omega
        by_cases h3 : markF (c :: r) 0 puL > 0
        · have ht : tokL (c :: r) = ⟨markF (c :: r) 0 puL, 4, 0⟩ := by unfold tokL; rw [if_neg h1, if_neg h2, if_pos h3]
          rw [ht]
          show tokL ((c :: r).take (markF (c :: r) 0 puL)) = _
          have h4 := markF_take (c :: r) _ (Nat.le_refl _)
          obtain ⟨n, hn⟩ : ∃ n, markF (c :: r) 0 puL = n + 1 := ⟨markF (c :: r) 0 puL - 1, by omega⟩
          have h5 : wordN ((c :: r).take (markF (c :: r) 0 puL)) = 0 := by rw [hn]; exact wordN_take c r n hl
          have h6 : pre dgtB ((c :: r).take (markF (c :: r) 0 puL)) = 0 := by rw [hn]; exact pre_take0 c r n hd
          unfold tokL
          rw [h5, h6, if_neg (by omega), if_neg (by omega), h4, if_pos h3]
        · have ht : tokL (c :: r) = ⟨1, 5, 0⟩ := by unfold tokL; rw [if_neg h1, if_neg h2, if_neg h3]
          rw [ht]
          show tokL ((c :: r).take 1) = _
          have h4 := markF_take (c :: r) 1 (by omega)
          have h5 : wordN ((c :: r).take 1) = 0 := wordN_take c r 0 hl
          have h6 : pre dgtB ((c :: r).take 1) = 0 := pre_take0 c r 0 hd
          unfold tokL
          rw [h5, h6, if_neg (by omega), if_neg (by omega), h4, if_neg h3]
/-- A token that ends within a text is the token of every longer text. -/
theorem tok_ext (m y : List UInt8) (h2 : 2 ≤ m.length) (hn : (tokL m).n < m.length) : tokL (m ++ y) = tokL m := by
  cases m with
  | nil => simp at h2
  | cons c r =>
    by_cases hw : wordN (c :: r) > 0
    · have ht : tokL (c :: r) = ⟨wordN (c :: r), wk ((c :: r).take (wordN (c :: r))), 0⟩ := by unfold tokL; rw [if_pos hw]
      have hl : ltrB c = true := by
        rw [wordN_head] at hw
        by_cases hl : ltrB c = true
        · exact hl
        · rw [if_neg hl] at hw; omega
      have hwp : wordN (c :: r) = pre wrdB (c :: r) := by rw [wordN_head, if_pos hl]
      have hlt : pre wrdB (c :: r) < (c :: r).length := by rw [ht] at hn; rw [← hwp]; exact hn
      have he := wordN_app (c :: r) y (by simp) (pre_in wrdB (c :: r) y hlt)
      rw [ht]
      unfold tokL
      rw [he, if_pos hw, List.take_append_of_le_length (wordN_le _)]
    · have hl : ¬ ltrB c = true := by
        intro hl
        apply hw
        rw [wordN_head, if_pos hl, pre_cons, if_pos (show wrdB c = true by unfold wrdB; rw [hl]; rfl)]
        omega
      have hw2 : wordN ((c :: r) ++ y) = 0 := by rw [List.cons_append, wordN_head, if_neg hl]
      by_cases hd0 : pre dgtB (c :: r) > 0
      · have ht : tokL (c :: r) = ⟨pre dgtB (c :: r), nkind ((c :: r).take (pre dgtB (c :: r))), nval ((c :: r).take (pre dgtB (c :: r)))⟩ := by unfold tokL; rw [if_neg hw, if_pos hd0]
        have hlt : pre dgtB (c :: r) < (c :: r).length := by rw [ht] at hn; exact hn
        have he := pre_in dgtB (c :: r) y hlt
        rw [ht]
        unfold tokL
        rw [hw2, if_neg (by omega), he, if_pos hd0, List.take_append_of_le_length (pre_le _ _)]
      · have hd : ¬ dgtB c = true := by
          intro hd
          apply hd0
          rw [pre_cons, if_pos hd]
          omega
        have hd2 : pre dgtB ((c :: r) ++ y) = 0 := by rw [List.cons_append, pre_cons, if_neg hd]
        have hm := markF_in (c :: r) y h2
        unfold tokL
        rw [hw2, hd2, hm, if_neg (show ¬ 0 > 0 by omega), if_neg (show ¬ 0 > 0 by omega), if_neg hw, if_neg hd0]
end Go.Proofs.YtmpbkemicfmbaaaDoor.PX
/- The lexer in plain words, 8: joined tokens are scanned as themselves; a line feed parts two texts. -/
namespace Go.Proofs.YtmpbkemicfmbaaaDoor.PX
open Go.RowKit Go.Proofs.YtmpbkemicfmbaaaDoorW.PrintWords Go.Proofs.YtmpbkemicfmbaaaDoorW.PrintLast Go.Proofs.YtmpbkemicfmbaaaDoorW.PrintMore
set_option linter.unusedVariables false
set_option linter.unusedSimpArgs false
/-- A token that stands by itself. -/
structure IsTok (t : Tq) : Prop where
  ne : t.b ≠ []
  self : tokL t.b = ⟨t.b.length, t.k, t.v⟩
  b0 : bl false t.b = 0
  nl : (10 : UInt8) ∉ t.b
theorem marks_noline : ∀ p ∈ puL, (10 : UInt8) ∉ bs p := by decide
theorem tok_noline (m : List UInt8) (hm : m ≠ []) (h0 : bl false m = 0) : (10 : UInt8) ∉ m.take (tokL m).n := by
  intro h
  by_cases h1 : wordN m > 0
  · have ht : (tokL m).n = wordN m := by unfold tokL; rw [if_pos h1]
    have hw : wordN m = pre wrdB m := by
      cases m with
      | nil => exact absurd rfl hm
      | cons c r =>
        rw [wordN_head] at h1 ⊢
        by_cases hl : ltrB c = true
        · rw [if_pos hl]
        · rw [if_neg hl] at h1; omega
    rw [ht, hw] at h
    have := pre_all wrdB m 10 h
    exact absurd this (by decide)
  by_cases h2 : pre dgtB m > 0
  · have ht : (tokL m).n = pre dgtB m := by unfold tokL; rw [if_neg h1, if_pos h2]
    rw [ht] at h
    have := pre_all dgtB m 10 h
    exact absurd this (by decide)
  by_cases h3 : markF m 0 puL > 0
  · have ht : (tokL m).n = markF m 0 puL := by unfold tokL; rw [if_neg h1, if_neg h2, if_pos h3]
    rw [ht] at h
    rcases markF_is m puL 0 with e | ⟨p, hp, e1, e2⟩
    · omega
    · rw [e1, e2] at h
      exact marks_noline p hp h
  · have ht : (tokL m).n = 1 := by unfold tokL; rw [if_neg h1, if_neg h2, if_neg h3]
    rw [ht] at h
    cases m with
    | nil => exact absurd rfl hm
    | cons c r =>
      rw [List.take_succ_cons, List.take_zero] at h
      have hc := List.mem_singleton.mp h
      have := ((bl0_iff c r).mp h0).1
      rw [← hc] at this
      exact this (by decide)
theorem isTok_of (m : List UInt8) (hm : m ≠ []) (h0 : bl false m = 0) : IsTok ⟨(tokL m).k, m.take (tokL m).n, (tokL m).v⟩ := by
  have hr := tokL_range m (List.length_pos_iff.mpr hm)
  have hl : (m.take (tokL m).n).length = (tokL m).n := by rw [List.length_take]; omega
  refine ⟨?_, ?_, bl0_take m _ hr.1 h0, tok_noline m hm h0⟩
  · intro e
    have e2 : m.take (tokL m).n = [] := e
    rw [e2, List.length_nil] at hl
    omega
  · show tokL (m.take (tokL m).n) = ⟨(m.take (tokL m).n).length, (tokL m).k, (tokL m).v⟩
    rw [tok_self m hm, hl]
theorem tkF_shape : ∀ (d : Nat) (l : List UInt8), l.length ≤ d → ∃ ts, tkF (d + 1) l = ts ++ [eofQ] ∧ (∀ t ∈ ts, IsTok t ∧ t.b.length ≤ l.length) ∧ ts.length ≤ l.length := by
  intro d
  induction d with
  | zero =>
    intro l h
    have hl : l = [] := List.length_eq_zero_iff.mp (by omega)
    subst hl
    exact ⟨[], rfl, (fun t h => by cases h), by simp⟩
  | succ d ih =>
    intro l h
    by_cases he : l.drop (bl false l) = []
    · exact ⟨[], tkF_end _ _ he, (fun t h => by cases h), by simp⟩
    · have hx : 0 < (l.drop (bl false l)).length := List.length_pos_iff.mpr he
      have htr := tokL_range _ hx
      have hld : (l.drop (bl false l)).length ≤ l.length := by rw [List.length_drop]; omega
      obtain ⟨ts, h1, h2, h3⟩ := ih ((l.drop (bl false l)).drop (tokL (l.drop (bl false l))).n) (by rw [List.length_drop]; omega)
      have hl2 : ((l.drop (bl false l)).drop (tokL (l.drop (bl false l))).n).length + 1 ≤ l.length := by rw [List.length_drop]; omega
      refine ⟨⟨(tokL (l.drop (bl false l))).k, (l.drop (bl false l)).take (tokL (l.drop (bl false l))).n, (tokL (l.drop (bl false l))).v⟩ :: ts, ?_, ?_, ?_⟩
      · rw [tkF_tok _ _ _ rfl he, h1]
        rfl
      · intro t ht
        rcases List.mem_cons.mp ht with rfl | ht
        · exact ⟨isTok_of _ he (bl_idem l false), by show ((l.drop (bl false l)).take _).length ≤ _; rw [List.length_take]; omega⟩
        · have := h2 t ht
          exact ⟨this.1, by omega⟩
      · rw [List.length_cons]; omega
/-- The bytes that Join writes for tokens behind bytes b. -/
def sepL (a b : List UInt8) : Bool := sepB (mkB a) (mkB b)
def jn2 : List UInt8 → List Tq → List UInt8
  | _, [] => []
  | b, u :: r => (if sepL b u.b = true then [32] else []) ++ (u.b ++ jn2 u.b r)
def jn : List Tq → List UInt8
  | [] => []
  | t :: r => t.b ++ jn2 t.b r
theorem mkB_app (a b : List UInt8) : mkB a ++ mkB b = mkB (a ++ b) := bs_inj (by rw [bs_app, bs_mkB, bs_mkB, bs_mkB])
/-- Two texts that want no space: the first is the token of both. -/
theorem nosep (t u : Tq) (ht : IsTok t) (hu : IsTok u) (h : sepL t.b u.b = false) : bl false (t.b ++ u.b) = 0 ∧ (tokL (t.b ++ u.b)).n = t.b.length := by
  have hs := strip_scan0 (mkB (t.b ++ u.b))
  rw [bs_mkB] at hs
  unfold sepL sepB at h
  rw [mkB_app] at h
  by_cases h3 : (scan (mkB (t.b ++ u.b))).length = 3
  · rw [if_pos h3] at h
    by_cases h4 : (rd_T37 (scan (mkB (t.b ++ u.b))) 0).f1.toList = (mkB t.b).toList
    · rw [toList_bs, toList_bs, bs_mkB] at h4
      have hl0 : 0 < (scan (mkB (t.b ++ u.b))).length := by omega
      have hr0 := rd_T37_nat (scan (mkB (t.b ++ u.b))) 0 hl0
      rw [show ((0 : Nat) : Int) = 0 from rfl] at hr0
      rw [hr0] at h4
      have hb0 : bl false (t.b ++ u.b) = 0 := by
        cases htb : t.b with
        | nil => exact absurd htb ht.ne
        | cons c r =>
          have hc := (bl0_iff c r).mp (by rw [← htb]; exact ht.b0)
          rw [List.cons_append]
          refine (bl0_iff c _).mpr ⟨hc.1, fun e => ?_⟩
          -- else the two are a comment, and there is no token
          have hall : bl false (t.b ++ u.b) = (t.b ++ u.b).length := by
            rw [htb, List.cons_append, bl, if_neg hc.1, if_pos e, bl_noline _ ?_, List.length_cons, Nat.add_comm]
            intro h10
            rcases List.mem_append.mp h10 with h | h
            · exact ht.nl (by rw [htb]; exact .tail _ h)
            · exact hu.nl h
          have hend := tkF_end ((t.b ++ u.b).length) (t.b ++ u.b) (by rw [hall, List.drop_length])
          rw [hend] at hs
          have := congrArg List.length hs
          rw [List.length_map, h3] at this
          cases this
      refine ⟨hb0, ?_⟩
      have hne : t.b ++ u.b ≠ [] := fun e => ht.ne (List.append_eq_nil_iff.mp e).1
      have htk := tkF_tok ((t.b ++ u.b).length) (t.b ++ u.b) (t.b ++ u.b) (by rw [hb0, List.drop_zero]) hne
      rw [htk] at hs
      have hg : ((scan (mkB (t.b ++ u.b))).map strip)[0]? = some ⟨(tokL (t.b ++ u.b)).k, (t.b ++ u.b).take (tokL (t.b ++ u.b)).n, (tokL (t.b ++ u.b)).v⟩ := by rw [hs]; rfl
      rw [List.getElem?_map, List.getElem?_eq_getElem hl0] at hg
      have hg2 := congrArg Tq.b (Option.some.inj hg)
      have hg3 : bs (scan (mkB (t.b ++ u.b)))[0].f1 = (t.b ++ u.b).take (tokL (t.b ++ u.b)).n := hg2
      rw [h4] at hg3
      have := congrArg List.length hg3
      have hr := tokL_range (t.b ++ u.b) (List.length_pos_iff.mpr hne)
      rw [List.length_take] at this
      omega
    · rw [if_neg h4] at h; cases h
  · rw [if_neg h3] at h; cases h
theorem tkF_space (d : Nat) (l : List UInt8) : tkF (d + 1) (32 :: l) = tkF (d + 1) l := by
  have h : bl false (32 :: l) = bl false l + 1 := by rw [bl, if_pos (by decide), Nat.add_comm]
  have hd : (32 :: l).drop (bl false (32 :: l)) = l.drop (bl false l) := by rw [h, List.drop_succ_cons]
  by_cases he : l.drop (bl false l) = []
  · rw [tkF_end _ _ (hd.trans he), tkF_end _ _ he]
  · rw [tkF_tok _ _ _ hd he, tkF_tok _ _ _ rfl he]
/-- The first token of joined tokens. -/
theorem first_tok (t : Tq) (ht : IsTok t) (y : List UInt8) (d : Nat) (h0 : bl false (t.b ++ y) = 0) (h1 : tokL (t.b ++ y) = tokL t.b) : tkF (d + 1) (t.b ++ y) = t :: tkF d y := by
  have hne : t.b ++ y ≠ [] := fun e => ht.ne (List.append_eq_nil_iff.mp e).1
  rw [tkF_tok d (t.b ++ y) (t.b ++ y) (by rw [h0, List.drop_zero]) hne, h1, ht.self]
  show (⟨t.k, (t.b ++ y).take t.b.length, t.v⟩ : Tq) :: tkF d ((t.b ++ y).drop t.b.length) = _
  rw [List.take_left, List.drop_left]
theorem rescan : ∀ (ts : List Tq), (∀ t ∈ ts, IsTok t) → ∀ d, (jn ts).length ≤ d → tkF (d + 1) (jn ts) = ts ++ [eofQ] := by
  intro ts
  induction ts with
  | nil => intro _ d _; exact tkF_end d [] rfl
  | cons t r ih =>
    intro hts d hd
    have ht := hts t (.head _)
    have hlt : 0 < t.b.length := List.length_pos_iff.mpr ht.ne
    cases r with
    | nil =>
      have h1 := first_tok t ht [] d (by rw [List.append_nil]; exact ht.b0) (by rw [List.append_nil])
      show tkF (d + 1) (t.b ++ []) = _
      rw [h1]
      have hd2 : t.b.length ≤ d := by
        have : (t.b ++ jn2 t.b []).length ≤ d := hd
        rw [show jn2 t.b [] = [] from rfl, List.append_nil] at this
        exact this
      obtain ⟨e, rfl⟩ : ∃ e, d = e + 1 := ⟨d - 1, by omega⟩
      rw [tkF_end e [] rfl]
      rfl
    | cons u q =>
      have hu := hts u (.tail _ (.head _))
      have ihq := fun e => ih (fun x hx => hts x (.tail _ hx)) e
      have hj : jn (t :: u :: q) = t.b ++ ((if sepL t.b u.b = true then [32] else []) ++ jn (u :: q)) := rfl
      rw [hj] at hd ⊢
      rw [List.length_append] at hd
      obtain ⟨e, rfl⟩ : ∃ e, d = e + 1 := ⟨d - 1, by omega⟩
      by_cases hsp : sepL t.b u.b = true
      · rw [if_pos hsp] at hd ⊢
        have hd2 : (jn (u :: q)).length ≤ e := by
          rw [List.length_append, List.length_singleton] at hd
          omega
        rw [first_tok t ht ([32] ++ jn (u :: q)) (e + 1) (bl0_app _ _ ht.ne ht.b0 (.inr (by rw [List.singleton_append, List.head?_cons]; decide))) (tokL_stop 32 stop32 t.b (jn (u :: q)) ht.ne)]
        rw [List.singleton_append, tkF_space, ihq e hd2]
        rfl
      · have hsp2 : sepL t.b u.b = false := Bool.eq_false_iff.mpr hsp
        rw [if_neg hsp] at hd ⊢
        rw [List.nil_append] at hd ⊢
        obtain ⟨n0, n1⟩ := nosep t u ht hu hsp2
        have hlu : 0 < u.b.length := List.length_pos_iff.mpr hu.ne
        have h2 : 2 ≤ (t.b ++ u.b).length := by rw [List.length_append]; omega
        have hne : t.b ++ u.b ≠ [] := fun e => ht.ne (List.append_eq_nil_iff.mp e).1
        have hself := tok_self (t.b ++ u.b) hne
        rw [n1, List.take_left] at hself
        have hext := tok_ext (t.b ++ u.b) (jn2 u.b q) h2 (by rw [n1, List.length_append]; omega)
        have ha : t.b ++ jn (u :: q) = (t.b ++ u.b) ++ jn2 u.b q := by rw [List.append_assoc]; rfl
        have hd2 : (jn (u :: q)).length ≤ e := by omega
        rw [first_tok t ht (jn (u :: q)) (e + 1) (by rw [ha]; exact bl0_app _ _ hne n0 (.inl h2)) (by rw [ha, hext, hself]), ihq e hd2]
        rfl
theorem jn2_le (B : Nat) : ∀ (ts : List Tq) (b : List UInt8), (∀ t ∈ ts, t.b.length ≤ B) → (jn2 b ts).length ≤ ts.length * (B + 1) := by
  intro ts
  induction ts with
  | nil => intro b _; simp [jn2]
  | cons u r ih =>
    intro b h
    have h1 := h u (.head _)
    have h2 := ih u.b (fun t ht => h t (.tail _ ht))
    rw [jn2, List.length_append, List.length_append, List.length_cons, Nat.succ_mul]
    split <;> simp only [List.length_cons, List.length_nil] <;> omega
theorem jn_le (B : Nat) (ts : List Tq) (h : ∀ t ∈ ts, t.b.length ≤ B) : (jn ts).length ≤ ts.length * (B + 1) := by
  cases ts with
  | nil => simp [jn]
  | cons t r =>
    have h1 := h t (.head _)
    have h2 := jn2_le B r t.b (fun x hx => h x (.tail _ hx))
    rw [jn, List.length_append, List.length_cons, Nat.succ_mul]
    omega
end Go.Proofs.YtmpbkemicfmbaaaDoor.PX
-- Written by a program of this session (wip/xprint.py, over the kit's print tool). Lean checks it.
namespace Go.Proofs.YtmpbkemicfmbaaaDoor.PX
open Go.RowKit Go.Proofs.YtmpbkemicfmbaaaDoorW.PrintWords Go.Proofs.YtmpbkemicfmbaaaDoorW.PrintLast Go.Proofs.YtmpbkemicfmbaaaDoorW.PrintMore
attribute [local go_sem] max2_int min2_int max_two min_two max_three min_three max_four min_four   -- for this text's walks alone
set_option linter.unusedVariables false
set_option linter.unusedSimpArgs false

/-! ### tricklelaw15_LexerRescan: function 5 -/
def tricklelaw15_LexerRescan.f (k : Nat) (a0 : ByteArray) : Option (Bool) := (tricklelaw15_wakes.f k).bind fun t243 => (if t243 = true then (if (a0.size : Int) > 400 then (some true) else ((lexer_Scan.f k a0).bind fun t244 => ((lexer_Join.f k t244).bind fun t247 => ((lexer_Scan.f k t247).bind fun t248 => ((tricklelaw15_plain.f k t248).bind fun t251 => ((tricklelaw15_plain.f k t244).bind fun t254 => ((trickleref15_Same.f k t251 t254 false).bind fun t257 => (some t257)))))))) else (some false))
set_option maxHeartbeats 8000000 in
set_option maxRecDepth 100000 in
theorem tricklelaw15_LexerRescan.calls (k : Nat) (a0 : ByteArray) (r : Bool) (w : World) (hG : GW w) (h : tricklelaw15_LexerRescan.f k a0 = some r) :
    Calls Tryd.prog 5 #[.string a0] w fun e w' => e = .returned (.bool r) ∧ Below w.heap.size w w' := by
  have HG := Aside0.mk hG
  clear hG
  have HB := Aside0.mk (Below.refl w.heap.size w)
  have H : ((tricklelaw15_wakes.f k).bind fun t243 => (if t243 = true then (if (a0.size : Int) > 400 then (some true) else ((lexer_Scan.f k a0).bind fun t244 => ((lexer_Join.f k t244).bind fun t247 => ((lexer_Scan.f k t247).bind fun t248 => ((tricklelaw15_plain.f k t248).bind fun t251 => ((tricklelaw15_plain.f k t244).bind fun t254 => ((trickleref15_Same.f k t251 t254 false).bind fun t257 => (some t257)))))))) else (some false))) = some r := h
  clear h
  replace H := Option.bind_eq_some_iff.mp H
  obtain ⟨t243, A20, H⟩ := H
  replace H : (if t243 = true then (if (a0.size : Int) > 400 then (some true) else ((lexer_Scan.f k a0).bind fun t244 => ((lexer_Join.f k t244).bind fun t247 => ((lexer_Scan.f k t247).bind fun t248 => ((tricklelaw15_plain.f k t248).bind fun t251 => ((tricklelaw15_plain.f k t244).bind fun t254 => ((trickleref15_Same.f k t251 t254 false).bind fun t257 => (some t257)))))))) else (some false)) = some r := H
  have A2 := Aside0.mk A20
  clear A20
  by_cases c3 : t243 = true
  · subst c3
    have H1 : (if (a0.size : Int) > 400 then (some true) else ((lexer_Scan.f k a0).bind fun t244 => ((lexer_Join.f k t244).bind fun t247 => ((lexer_Scan.f k t247).bind fun t248 => ((tricklelaw15_plain.f k t248).bind fun t251 => ((tricklelaw15_plain.f k t244).bind fun t254 => ((trickleref15_Same.f k t251 t254 false).bind fun t257 => (some t257)))))))) = some r := by rw [if_pos rfl] at H; exact H
    clear H
    have H := H1
    clear H1
    by_cases c4 : (a0.size : Int) > 400
    · rw [if_pos c4] at H
      have c4b0 : decide (400 < (a0.size : Int)) = true := decide_eq_true c4
      have c4b1 : decide (400 < a0.size) = true := decide_eq_true (by omega)
      clear c4
      obtain rfl := Option.some.inj H
      go_enter Tryd.func5, Tryd.ntmps5
      go_wp2_with (first | ((with_reducible refine gate_callee (f := 10) rfl ?_); refine goesL_ (some 4) rfl rfl Tryd.func10 (by kernel_rfl) rfl #[] rfl (by (try simp only [List.map_toArray, List.map_cons, List.map_nil]); first | done | rfl | (simp only [List.length_drop, List.length_take]; rfl)) ?_; (with_reducible refine (tricklelaw15_wakes.calls k  true _ ?side1 A2.out).mono ?_); (case side1 => refine GW.below HG.out ?_; repeat (first | (with_reducible first | exact HB.out | apply below_alloc | apply pw_below_drewN | apply below_drew1) | exact HB.out)); rintro e w5 ⟨rfl, hb⟩; refine ⟨_, rfl, ?_⟩; have n0_ := Aside0.mk (below_step (by repeat (first | (with_reducible first | exact HB.out | apply below_alloc | apply pw_below_drewN | apply below_drew1) | exact HB.out)) hb); clear HB; have HB := n0_; clear n0_; (try clear hb); (try clear hb2); (try clear hk); (try clear hi)))
      go_ret
      exact ⟨by first | rfl | (simp [errW_none, errW_some] <;> rfl) | (simp [*, errW_none, errW_some] <;> rfl), by repeat (first | (with_reducible first | exact HB.out | apply below_alloc | apply pw_below_drewN | apply below_drew1) | exact HB.out)⟩
    · rw [if_neg c4] at H
      have c4b0 : decide (400 < (a0.size : Int)) = false := decide_eq_false c4
      have c4b1 : decide (400 < a0.size) = false := decide_eq_false (by omega)
      clear c4
      replace H := Option.bind_eq_some_iff.mp H
      obtain ⟨t244, A60, H⟩ := H
      replace H : ((lexer_Join.f k t244).bind fun t247 => ((lexer_Scan.f k t247).bind fun t248 => ((tricklelaw15_plain.f k t248).bind fun t251 => ((tricklelaw15_plain.f k t244).bind fun t254 => ((trickleref15_Same.f k t251 t254 false).bind fun t257 => (some t257)))))) = some r := H
      have A6 := Aside0.mk A60
      clear A60
      replace H := Option.bind_eq_some_iff.mp H
      obtain ⟨t247, A70, H⟩ := H
      replace H : ((lexer_Scan.f k t247).bind fun t248 => ((tricklelaw15_plain.f k t248).bind fun t251 => ((tricklelaw15_plain.f k t244).bind fun t254 => ((trickleref15_Same.f k t251 t254 false).bind fun t257 => (some t257))))) = some r := H
      have A7 := Aside0.mk A70
      clear A70
      replace H := Option.bind_eq_some_iff.mp H
      obtain ⟨t248, A80, H⟩ := H
      replace H : ((tricklelaw15_plain.f k t248).bind fun t251 => ((tricklelaw15_plain.f k t244).bind fun t254 => ((trickleref15_Same.f k t251 t254 false).bind fun t257 => (some t257)))) = some r := H
      have A8 := Aside0.mk A80
      clear A80
      replace H := Option.bind_eq_some_iff.mp H
      obtain ⟨t251, A90, H⟩ := H
      replace H : ((tricklelaw15_plain.f k t244).bind fun t254 => ((trickleref15_Same.f k t251 t254 false).bind fun t257 => (some t257))) = some r := H
      have A9 := Aside0.mk A90
      clear A90
      replace H := Option.bind_eq_some_iff.mp H
      obtain ⟨t254, A100, H⟩ := H
      replace H : ((trickleref15_Same.f k t251 t254 false).bind fun t257 => (some t257)) = some r := H
      have A10 := Aside0.mk A100
      clear A100
      replace H := Option.bind_eq_some_iff.mp H
      obtain ⟨t257, A110, H⟩ := H
      replace H : (some t257) = some r := H
      have A11 := Aside0.mk A110
      clear A110
      obtain rfl := Option.some.inj H
      go_enter Tryd.func5, Tryd.ntmps5
      go_wp2_with (first | ((with_reducible refine gate_callee (f := 10) rfl ?_); refine goesL_ (some 4) rfl rfl Tryd.func10 (by kernel_rfl) rfl #[] rfl (by (try simp only [List.map_toArray, List.map_cons, List.map_nil]); first | done | rfl | (simp only [List.length_drop, List.length_take]; rfl)) ?_; (with_reducible refine (tricklelaw15_wakes.calls k  true _ ?side1 A2.out).mono ?_); (case side1 => refine GW.below HG.out ?_; repeat (first | (with_reducible first | exact HB.out | apply below_alloc | apply pw_below_drewN | apply below_drew1) | exact HB.out)); rintro e w12 ⟨rfl, hb⟩; refine ⟨_, rfl, ?_⟩; have n0_ := Aside0.mk (below_step (by repeat (first | (with_reducible first | exact HB.out | apply below_alloc | apply pw_below_drewN | apply below_drew1) | exact HB.out)) hb); clear HB; have HB := n0_; clear n0_; (try clear hb); (try clear hb2); (try clear hk); (try clear hi)) | ((with_reducible refine gate_callee (f := 13) rfl ?_); refine goesL_ (some 10) rfl rfl Tryd.func13 (by kernel_rfl) rfl #[.string a0] rfl (by (try simp only [List.map_toArray, List.map_cons, List.map_nil]); first | done | rfl | (simp only [List.length_drop, List.length_take]; rfl)) ?_; (with_reducible refine (lexer_Scan.calls k a0 t244 _ ?side1 A6.out).mono ?_); (case side1 => refine GW.below HG.out ?_; repeat (first | (with_reducible first | exact HB.out | apply below_alloc | apply pw_below_drewN | apply below_drew1) | exact HB.out)); rintro e w13 ⟨v245, rfl, ho0, hb⟩; refine ⟨_, rfl, ?_⟩; have n0_ := Aside0.mk (Kd.R_lower ho0 (below_size (by repeat (first | (with_reducible first | exact HB.out | apply below_alloc | apply pw_below_drewN | apply below_drew1) | exact HB.out)))); have n1_ := Aside0.mk (below_step (by repeat (first | (with_reducible first | exact HB.out | apply below_alloc | apply pw_below_drewN | apply below_drew1) | exact HB.out)) hb); clear HB; have HO246 := n0_; have HB := n1_; clear n0_ n1_; (try clear hb); (try clear hb2); (try clear hk); (try clear hi); (try clear ho0); obtain ⟨Ao14, co14, eo14⟩ := Kd.R_slice HO246.out; subst eo14) | ((with_reducible refine gate_callee (f := 15) rfl ?_); refine goesL_ (some 12) rfl rfl Tryd.func15 (by kernel_rfl) rfl #[.slice Ao14 t244.length co14] rfl (by (try simp only [List.map_toArray, List.map_cons, List.map_nil]); first | done | rfl | (simp only [List.length_drop, List.length_take]; rfl)) ?_; (with_reducible refine (lexer_Join.calls k _ _ t244 t247 _ ?side1 ?side2 ?side3 A7.out).mono ?_); (case side1 => repeat (first | exact (Kd.R_reads' HO246.out).2.2 | (with_reducible refine Kd.C_alloc ?_ _) | (with_reducible refine Kd.C_drewN ?_ _) | (with_reducible refine Kd.C_drew ?_))); (case side2 => exact (Kd.R_reads' HO246.out).2.1); (case side3 => refine GW.below HG.out ?_; repeat (first | (with_reducible first | exact HB.out | apply below_alloc | apply pw_below_drewN | apply below_drew1) | exact HB.out)); rintro e w15 ⟨rfl, hb⟩; refine ⟨_, rfl, ?_⟩; have n0_ := Aside0.mk (Kd.R_below (by (with_reducible repeat (first | apply Kd.R_alloc | apply Kd.R_drewN | apply Kd.R_drew)); exact HO246.out) hb); have n1_ := Aside0.mk (below_step (by repeat (first | (with_reducible first | exact HB.out | apply below_alloc | apply pw_below_drewN | apply below_drew1) | exact HB.out)) hb); clear HO246; clear HB; have HO246 := n0_; have HB := n1_; clear n0_ n1_; (try clear hb); (try clear hb2); (try clear hk); (try clear hi)) | ((with_reducible refine gate_callee (f := 13) rfl ?_); refine goesL_ (some 13) rfl rfl Tryd.func13 (by kernel_rfl) rfl #[.string t247] rfl (by (try simp only [List.map_toArray, List.map_cons, List.map_nil]); first | done | rfl | (simp only [List.length_drop, List.length_take]; rfl)) ?_; (with_reducible refine (lexer_Scan.calls k t247 t248 _ ?side1 A8.out).mono ?_); (case side1 => refine GW.below HG.out ?_; repeat (first | (with_reducible first | exact HB.out | apply below_alloc | apply pw_below_drewN | apply below_drew1) | exact HB.out)); rintro e w16 ⟨v249, rfl, ho0, hb⟩; refine ⟨_, rfl, ?_⟩; have n0_ := Aside0.mk (Kd.R_elder' (by (with_reducible repeat (first | apply Kd.R_alloc | apply Kd.R_drewN | apply Kd.R_drew)); exact HO246.out) (Kd.R_base ho0) hb); have n1_ := Aside0.mk (Kd.R_lower (Kd.R_new' ho0 (Kd.R_lt (by (with_reducible repeat (first | apply Kd.R_alloc | apply Kd.R_drewN | apply Kd.R_drew)); exact HO246.out))) (below_size (by repeat (first | (with_reducible first | exact HB.out | apply below_alloc | apply pw_below_drewN | apply below_drew1) | exact HB.out)))); have n2_ := Aside0.mk (below_step (by repeat (first | (with_reducible first | exact HB.out | apply below_alloc | apply pw_below_drewN | apply below_drew1) | exact HB.out)) hb); clear HO246; clear HB; have HO246 := n0_; have HO250 := n1_; have HB := n2_; clear n0_ n1_ n2_; (try clear hb); (try clear hb2); (try clear hk); (try clear hi); (try clear ho0); obtain ⟨Ao17, co17, eo17⟩ := Kd.R_slice HO250.out; subst eo17) | ((with_reducible refine gate_callee (f := 12) rfl ?_); refine goesL_ (some 14) rfl rfl Tryd.func12 (by kernel_rfl) rfl #[.slice Ao17 t248.length co17] rfl (by (try simp only [List.map_toArray, List.map_cons, List.map_nil]); first | done | rfl | (simp only [List.length_drop, List.length_take]; rfl)) ?_; (with_reducible refine (tricklelaw15_plain.calls k _ _ t248 t251 _ ?side1 ?side2 A9.out).mono ?_); (case side1 => repeat (first | exact (Kd.R_reads' HO250.out).2.2 | (with_reducible refine Kd.C_alloc ?_ _) | (with_reducible refine Kd.C_drewN ?_ _) | (with_reducible refine Kd.C_drew ?_))); (case side2 => exact (Kd.R_reads' HO250.out).2.1); rintro e w18 ⟨v252, rfl, ho0, hb⟩; refine ⟨_, rfl, ?_⟩; have n0_ := Aside0.mk (Kd.R_below (by (with_reducible repeat (first | apply Kd.R_alloc | apply Kd.R_drewN | apply Kd.R_drew)); exact HO246.out) hb); have n1_ := Aside0.mk (Kd.R_below (by (with_reducible repeat (first | apply Kd.R_alloc | apply Kd.R_drewN | apply Kd.R_drew)); exact HO250.out) hb); have n2_ := Aside0.mk (Kd.R_lower ho0 (below_size (by repeat (first | (with_reducible first | exact HB.out | apply below_alloc | apply pw_below_drewN | apply below_drew1) | exact HB.out)))); have n3_ := Aside0.mk (below_step (by repeat (first | (with_reducible first | exact HB.out | apply below_alloc | apply pw_below_drewN | apply below_drew1) | exact HB.out)) hb); clear HO246; clear HO250; clear HB; have HO246 := n0_; have HO250 := n1_; have HO253 := n2_; have HB := n3_; clear n0_ n1_ n2_ n3_; (try clear hb); (try clear hb2); (try clear hk); (try clear hi); (try clear ho0)) | ((with_reducible refine gate_callee (f := 12) rfl ?_); refine goesL_ (some 16) rfl rfl Tryd.func12 (by kernel_rfl) rfl #[.slice Ao14 t244.length co14] rfl (by (try simp only [List.map_toArray, List.map_cons, List.map_nil]); first | done | rfl | (simp only [List.length_drop, List.length_take]; rfl)) ?_; (with_reducible refine (tricklelaw15_plain.calls k _ _ t244 t254 _ ?side1 ?side2 A10.out).mono ?_); (case side1 => repeat (first | exact (Kd.R_reads' HO246.out).2.2 | (with_reducible refine Kd.C_alloc ?_ _) | (with_reducible refine Kd.C_drewN ?_ _) | (with_reducible refine Kd.C_drew ?_))); (case side2 => exact (Kd.R_reads' HO246.out).2.1); rintro e w19 ⟨v255, rfl, ho0, hb⟩; refine ⟨_, rfl, ?_⟩; have n0_ := Aside0.mk (Kd.R_below (by (with_reducible repeat (first | apply Kd.R_alloc | apply Kd.R_drewN | apply Kd.R_drew)); exact HO246.out) hb); have n1_ := Aside0.mk (Kd.R_below (by (with_reducible repeat (first | apply Kd.R_alloc | apply Kd.R_drewN | apply Kd.R_drew)); exact HO250.out) hb); have n2_ := Aside0.mk (Kd.R_elder' (by (with_reducible repeat (first | apply Kd.R_alloc | apply Kd.R_drewN | apply Kd.R_drew)); exact HO253.out) (Kd.R_base ho0) hb); have n3_ := Aside0.mk (Kd.R_lower (Kd.R_new' ho0 (Kd.R_lt (by (with_reducible repeat (first | apply Kd.R_alloc | apply Kd.R_drewN | apply Kd.R_drew)); exact HO253.out))) (below_size (by repeat (first | (with_reducible first | exact HB.out | apply below_alloc | apply pw_below_drewN | apply below_drew1) | exact HB.out)))); have n4_ := Aside0.mk (below_step (by repeat (first | (with_reducible first | exact HB.out | apply below_alloc | apply pw_below_drewN | apply below_drew1) | exact HB.out)) hb); clear HO246; clear HO250; clear HO253; clear HB; have HO246 := n0_; have HO250 := n1_; have HO253 := n2_; have HO256 := n3_; have HB := n4_; clear n0_ n1_ n2_ n3_ n4_; (try clear hb); (try clear hb2); (try clear hk); (try clear hi); (try clear ho0); obtain ⟨Ao20, co20, eo20⟩ := Kd.R_slice HO253.out; subst eo20; obtain ⟨Ao21, co21, eo21⟩ := Kd.R_slice HO256.out; subst eo21) | ((with_reducible refine gate_callee (f := 11) rfl ?_); refine goesL_ (some 17) rfl rfl Tryd.func11 (by kernel_rfl) rfl #[.slice Ao20 t251.length co20, .slice Ao21 t254.length co21, .bool false] rfl (by (try simp only [List.map_toArray, List.map_cons, List.map_nil]); first | done | rfl | (simp only [List.length_drop, List.length_take]; rfl)) ?_; (with_reducible refine (trickleref15_Same.calls k _ _ t251 _ _ t254 false t257 _ ?side1 ?side2 ?side3 ?side4 A11.out).mono ?_); (case side1 => repeat (first | exact (Kd.R_reads' HO253.out).2.2 | (with_reducible refine Kd.C_alloc ?_ _) | (with_reducible refine Kd.C_drewN ?_ _) | (with_reducible refine Kd.C_drew ?_))); (case side2 => exact (Kd.R_reads' HO253.out).2.1); (case side3 => repeat (first | exact (Kd.R_reads' HO256.out).2.2 | (with_reducible refine Kd.C_alloc ?_ _) | (with_reducible refine Kd.C_drewN ?_ _) | (with_reducible refine Kd.C_drew ?_))); (case side4 => exact (Kd.R_reads' HO256.out).2.1); rintro e w' ⟨rfl, ⟨nd, rfl⟩⟩; refine ⟨_, rfl, ?_⟩))
      go_ret
      exact ⟨by first | rfl | (simp [errW_none, errW_some] <;> rfl) | (simp [*, errW_none, errW_some] <;> rfl), by repeat (first | (with_reducible first | exact HB.out | apply below_alloc | apply pw_below_drewN | apply below_drew1) | exact HB.out)⟩
  · replace c3 := Bool.eq_false_iff.mpr c3
    subst c3
    have H1 : (some false) = some r := by rw [if_neg (show ¬ (false = true) by decide)] at H; exact H
    clear H
    have H := H1
    clear H1
    obtain rfl := Option.some.inj H
    go_enter Tryd.func5, Tryd.ntmps5
    go_wp2_with (first | ((with_reducible refine gate_callee (f := 10) rfl ?_); refine goesL_ (some 4) rfl rfl Tryd.func10 (by kernel_rfl) rfl #[] rfl (by (try simp only [List.map_toArray, List.map_cons, List.map_nil]); first | done | rfl | (simp only [List.length_drop, List.length_take]; rfl)) ?_; (with_reducible refine (tricklelaw15_wakes.calls k  false _ ?side1 A2.out).mono ?_); (case side1 => refine GW.below HG.out ?_; repeat (first | (with_reducible first | exact HB.out | apply below_alloc | apply pw_below_drewN | apply below_drew1) | exact HB.out)); rintro e w22 ⟨rfl, hb⟩; refine ⟨_, rfl, ?_⟩; have n0_ := Aside0.mk (below_step (by repeat (first | (with_reducible first | exact HB.out | apply below_alloc | apply pw_below_drewN | apply below_drew1) | exact HB.out)) hb); clear HB; have HB := n0_; clear n0_; (try clear hb); (try clear hb2); (try clear hk); (try clear hi)))
    go_ret
    exact ⟨by first | rfl | (simp [errW_none, errW_some] <;> rfl) | (simp [*, errW_none, errW_some] <;> rfl), by repeat (first | (with_reducible first | exact HB.out | apply below_alloc | apply pw_below_drewN | apply below_drew1) | exact HB.out)⟩

end Go.Proofs.YtmpbkemicfmbaaaDoor.PX
/- LexerRescan in plain words: the joined tokens of a text are scanned as the same tokens. -/
namespace Go.Proofs.YtmpbkemicfmbaaaDoor.PX
open Go.RowKit Go.Proofs.YtmpbkemicfmbaaaDoorW.PrintWords Go.Proofs.YtmpbkemicfmbaaaDoorW.PrintLast Go.Proofs.YtmpbkemicfmbaaaDoorW.PrintMore
set_option linter.unusedVariables false
set_option linter.unusedSimpArgs false
theorem sepL_bs (a b : ByteArray) : sepB a b = sepL (bs a) (bs b) := by unfold sepL; rw [mkB_bs, mkB_bs]
theorem jn2_ev : ∀ (ts : List Tq) (l : List S37) (last : ByteArray) (out : List UInt8), l.map strip = ts ++ [eofQ] → (∀ t ∈ ts, IsTok t ∧ t.b.length ≤ 400) → bs last ≠ [] → (bs last).length ≤ 400 → out.length + 401 * ts.length ≤ 1000000 → Ev (fun k => joinL k last out l) (out ++ jn2 (bs last) ts) := by
  intro ts
  induction ts with
  | nil =>
    intro l last out hl _ _ _ _
    cases l with
    | nil => cases hl
    | cons x r =>
      rw [List.map_cons, List.nil_append] at hl
      obtain ⟨h1, h2⟩ := List.cons.inj hl
      have hr : r = [] := List.map_eq_nil_iff.mp h2
      subst hr
      have hx : x.f1.toList = ([] : List UInt8) := by rw [toList_bs]; exact congrArg Tq.b h1
      rw [show jn2 (bs last) [] = [] from rfl, List.append_nil]
      refine Ev.congr (fun k => by rw [joinL]) (Ev.pos hx ?_)
      exact Ev.congr (f := fun _ => some out) (fun k => by rw [joinL]) (Ev.now out)
  | cons t ts ih =>
    intro l last out hl ht hla hll ho
    cases l with
    | nil => cases hl
    | cons x r =>
      rw [List.map_cons, List.cons_append] at hl
      obtain ⟨h1, h2⟩ := List.cons.inj hl
      have hb : bs x.f1 = t.b := congrArg Tq.b h1
      obtain ⟨hi, hle⟩ := ht t (.head _)
      have hsz := bs_len x.f1
      rw [List.length_cons] at ho
      rw [hb] at hsz
      have hxl : x.f1.data.toList = t.b := hb
      have ih1 := fun o (hbo : o.length ≤ out.length + 1 + t.b.length) => ih r x.f1 o h2 (fun q hq => ht q (.tail _ hq)) (by rw [hb]; exact hi.ne) (by rw [hb]; exact hle) (by omega)
      rw [hb] at ih1
      refine Ev.congr (fun k => by rw [joinL]) (Ev.neg (by rw [toList_bs, hb]; exact hi.ne) (Ev.pos (by omega) (Ev.neg (by rw [toList_bs]; exact hla) (Ev.bind (apart_ev last x.f1 (by omega) (by rw [hb]; omega)) ?_))))
      rw [sepL_bs, hb, jn2, hxl]
      refine Ev.cast (ih1 _ ?_) ?_
      · rw [List.length_append]
        split
        · rw [List.length_append]; simp only [List.length_cons, List.length_nil]; omega
        · omega
      · split
        · simp only [List.append_assoc]
        · simp only [List.append_assoc, List.nil_append]
theorem jn_ev (ts : List Tq) (l : List S37) (hl : l.map strip = ts ++ [eofQ]) (ht : ∀ t ∈ ts, IsTok t ∧ t.b.length ≤ 400) (hn : ts.length ≤ 400) : Ev (fun k => joinL k ⟨#[]⟩ [] l) (jn ts) := by
  cases l with
  | nil =>
    have := congrArg List.length hl
    rw [List.length_append] at this
    simp at this
  | cons x r =>
    cases ts with
    | nil =>
      rw [List.map_cons, List.nil_append] at hl
      obtain ⟨h1, h2⟩ := List.cons.inj hl
      have hr : r = [] := List.map_eq_nil_iff.mp h2
      subst hr
      have hx : x.f1.toList = ([] : List UInt8) := by rw [toList_bs]; exact congrArg Tq.b h1
      refine Ev.congr (fun k => by rw [joinL]) (Ev.pos hx ?_)
      exact Ev.congr (f := fun _ => some []) (fun k => by rw [joinL]) (Ev.now [])
    | cons t ts =>
      rw [List.map_cons, List.cons_append] at hl
      obtain ⟨h1, h2⟩ := List.cons.inj hl
      have hb : bs x.f1 = t.b := congrArg Tq.b h1
      obtain ⟨hi, hle⟩ := ht t (.head _)
      have hsz := bs_len x.f1
      rw [hb] at hsz
      rw [List.length_cons] at hn
      have hxl : x.f1.data.toList = t.b := hb
      have h3 := jn2_ev ts r x.f1 ([] ++ t.b) h2 (fun q hq => ht q (.tail _ hq)) (by rw [hb]; exact hi.ne) (by rw [hb]; exact hle) (by rw [List.nil_append]; omega)
      refine Ev.congr (fun k => by rw [joinL]) ?_
      refine Ev.neg (by rw [toList_bs, hb]; exact hi.ne) (Ev.pos (by rw [List.length_nil]; omega) (Ev.pos (show (⟨#[]⟩ : ByteArray).toList = ([] : List UInt8) from by rw [toList_bs]) ?_))
      rw [hxl]
      refine Ev.cast h3 ?_
      rw [hb, List.nil_append]
      rfl
end Go.Proofs.YtmpbkemicfmbaaaDoor.PX
namespace Go.Proofs.YtmpbkemicfmbaaaDoor.Pure
open Go.RowKit Go.Proofs.YtmpbkemicfmbaaaDoor.PX Go.Proofs.YtmpbkemicfmbaaaDoorW.PrintWords Go.Proofs.YtmpbkemicfmbaaaDoorW.PrintLast
set_option linter.unusedVariables false
theorem LexerRescan (s : ByteArray) (w : s.size ≤ 140737488351232) : ∃ k, tricklelaw15_LexerRescan.f k s = some true := by
  refine Ev.rounds (Ev.congr (fun k => by rw [tricklelaw15_LexerRescan.f]) (Ev.bind wakes15 (Ev.pos rfl ?_)))
  by_cases h : (s.size : Int) > 400
  · exact Ev.pos h (Ev.now _)
  have hs := bs_len s
  have hl := scan_le s
  obtain ⟨ts, h1, h2, h3⟩ := tkF_shape (bs s).length (bs s) (Nat.le_refl _)
  have hst := (strip_scan0 s).trans h1
  have h2' : ∀ t ∈ ts, IsTok t ∧ t.b.length ≤ 400 := fun t ht => ⟨(h2 t ht).1, by have := (h2 t ht).2; omega⟩
  have hj := jn_ev ts (scan s) hst h2' (by omega)
  have hjl := jn_le 400 ts (fun t ht => (h2' t ht).2)
  have hjl2 : ts.length * (400 + 1) ≤ 400 * 401 := Nat.mul_le_mul_right _ (by omega)
  have hre := rescan ts (fun t ht => (h2 t ht).1) (jn ts).length (Nat.le_refl _)
  have hst2 := strip_scan0 (mkB (jn ts))
  rw [bs_mkB, hre, ← hst] at hst2
  have hl2 := scan_le (mkB (jn ts))
  rw [bs_mkB] at hl2
  refine Ev.neg h (Ev.bind (scan_ev s (by omega)) (Ev.bind (a := mkB (jn ts)) (Ev.congr (fun k => by rw [lexer_Join.f]) (Ev.bind hj (Ev.now _))) (Ev.bind (scan_ev (mkB (jn ts)) (by rw [bs_mkB]; omega)) (Ev.bind (plain_ev _ (by omega)) (Ev.bind (plain_ev _ (by omega)) (Ev.bind (sameq_ev _ _ (by omega) hst2) (Ev.now _)))))))
end Go.Proofs.YtmpbkemicfmbaaaDoor.Pure
