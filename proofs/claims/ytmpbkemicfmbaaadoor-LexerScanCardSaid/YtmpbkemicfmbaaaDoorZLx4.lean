/- The lexer in plain words, 4: both Scans give the same tokens; the examples hold. -/
import Derived.Test.YtmpbkemicfmbaaaDoorZLx3
import Derived.Test.YtmpbkemicfmbaaaDoorZPXx11
import Derived.Test.YtmpbkemicfmbaaaDoorZPXx23
import Derived.Test.YtmpbkemicfmbaaaDoorZPXx13
import Derived.Test.YtmpbkemicfmbaaaDoorZPXx14
import Derived.Test.YtmpbkemicfmbaaaDoorZPXx15
namespace Go.Proofs.YtmpbkemicfmbaaaDoor.PX
open Go.RowKit Go.Proofs.YtmpbkemicfmbaaaDoorW.PrintWords Go.Proofs.YtmpbkemicfmbaaaDoorW.PrintLast Go.Proofs.YtmpbkemicfmbaaaDoorW.PrintMore
set_option linter.unusedVariables false
set_option linter.unusedSimpArgs false
def to32 (t : S37) : S32 := ⟨t.f0, t.f1, t.f2, t.f3⟩
/-- The tokens of a text from a place on (the first number: more steps than bytes are left). -/
def scanF : Nat → ByteArray → Nat → List S37
  | 0, _, _ => []
  | d + 1, s, j => if j + bl false ((bs s).drop j) = (bs s).length then [⟨0, ⟨#[]⟩, 0, ((j + bl false ((bs s).drop j) : Nat) : Int)⟩]
    else ⟨(tok (s.extract (j + bl false ((bs s).drop j)) s.size)).k, cut (s.extract (j + bl false ((bs s).drop j)) s.size) (tok (s.extract (j + bl false ((bs s).drop j)) s.size)).n, (tok (s.extract (j + bl false ((bs s).drop j)) s.size)).v, ((j + bl false ((bs s).drop j) : Nat) : Int)⟩ ::
      scanF d s (j + bl false ((bs s).drop j) + (tok (s.extract (j + bl false ((bs s).drop j)) s.size)).n)
theorem scanF_end (d : Nat) (s : ByteArray) (j : Nat) (h : j + bl false ((bs s).drop j) = (bs s).length) : scanF (d + 1) s j = [⟨0, ⟨#[]⟩, 0, ((j + bl false ((bs s).drop j) : Nat) : Int)⟩] := by
  rw [scanF]
  exact if_pos h
theorem scanF_tok (d : Nat) (s : ByteArray) (j b : Nat) (hb : bl false ((bs s).drop j) = b) (h : j + b ≠ (bs s).length) : scanF (d + 1) s j = ⟨(tok (s.extract (j + b) s.size)).k, cut (s.extract (j + b) s.size) (tok (s.extract (j + b) s.size)).n, (tok (s.extract (j + b) s.size)).v, ((j + b : Nat) : Int)⟩ :: scanF d s (j + b + (tok (s.extract (j + b) s.size)).n) := by
  rw [scanF, hb]
  exact if_neg h
theorem bl_end (s : ByteArray) (j : Nat) (h : (bs s).length ≤ j) : bl false ((bs s).drop j) = 0 := by rw [List.drop_of_length_le h]; rfl
theorem skip_at (s : ByteArray) (hn : (bs s).length ≤ 1000000) (j : Nat) (hj : j ≤ (bs s).length) : Ev (fun k => lexer_skip.f k (s.extract j s.size)) ((bl false ((bs s).drop j) : Nat) : Int) := by
  have h := skip_ev (s.extract j s.size) (by rw [bs_drop, List.length_drop]; omega) (bs (s.extract j s.size)).length 0 (by omega) (by omega)
  rw [bs_drop, List.drop_zero, Nat.zero_add] at h
  exact h
theorem blank_at (s : ByteArray) (hn : (bs s).length ≤ 1000000) (j : Nat) (hj : j ≤ (bs s).length) : Ev (fun k => trickleref15_blank.f k (s.extract j s.size)) ((bl false ((bs s).drop j) : Nat) : Int) := by
  have h := blank_ev (s.extract j s.size) (by rw [bs_drop, List.length_drop]; omega) (bs (s.extract j s.size)).length 0 (by omega) (by omega)
  rw [bs_drop, List.drop_zero, Nat.zero_add] at h
  exact h
theorem scan_len : ∀ (d : Nat) (s : ByteArray) (j : Nat), (bs s).length ≤ j + d → j ≤ (bs s).length → (scanF (d + 1) s j).length + j ≤ (bs s).length + 1 := by
  intro d
  induction d with
  | zero =>
    intro s j h1 h2
    have hz := bl_end s j (by omega)
    rw [scanF_end 0 s j (by rw [hz]; omega), List.length_cons, List.length_nil]
    omega
  | succ d ih =>
    intro s j h1 h2
    have hb := bl_le ((bs s).drop j) false
    rw [List.length_drop] at hb
    generalize hbb : bl false ((bs s).drop j) = b at hb
    by_cases h : j + b = (bs s).length
    · rw [scanF_end _ s j (by rw [hbb]; exact h), List.length_cons, List.length_nil]
      omega
    · rw [scanF_tok _ s j b hbb h]
      have hx : 0 < (bs (s.extract (j + b) s.size)).length := by rw [bs_drop, List.length_drop]; omega
      have ht := tok_range _ hx
      rw [bs_drop, List.length_drop] at ht
      generalize (tok (s.extract (j + b) s.size)).n = n at ht ⊢
      have := ih s (j + b + n) (by omega) (by omega)
      rw [List.length_cons]
      omega
theorem scan_impl (s : ByteArray) (hn : (bs s).length ≤ 1000000) : ∀ (d j : Nat) (acc : List S37), (bs s).length ≤ j + d → j ≤ (bs s).length → acc.length ≤ j → Ev (fun k => lexer_Scan.l0 k s acc (j : Int)) (acc ++ scanF (d + 1) s j) := by
  intro d
  induction d with
  | zero =>
    intro j acc h1 h2 ha
    have hs := bs_len s
    have hsk := skip_at s hn j h2
    refine Ev.step (fun k => by rw [lexer_Scan.l0]) (Ev.pos (by omega) (Ev.pos (by omega) ?_))
    rw [Int.toNat_natCast]
    refine Ev.bind hsk ?_
    have hz := bl_end s j (by omega)
    rw [scanF_end 0 s j (by rw [hz]; omega), hz, show wrap64 ((j : Int) + ((0 : Nat) : Int)) = ((j + 0 : Nat) : Int) by rw [wrap_id (by omega) (by omega)]; omega]
    exact Ev.pos (by omega) (Ev.pos (by omega) (Ev.now _))
  | succ d ih =>
    intro j acc h1 h2 ha
    have hs := bs_len s
    have hb := bl_le ((bs s).drop j) false
    rw [List.length_drop] at hb
    have hsk := skip_at s hn j h2
    refine Ev.step (fun k => by rw [lexer_Scan.l0]) (Ev.pos (by omega) (Ev.pos (by omega) ?_))
    rw [Int.toNat_natCast]
    refine Ev.bind hsk ?_
    generalize hbb : bl false ((bs s).drop j) = b at hb ⊢
    rw [show wrap64 ((j : Int) + (b : Int)) = ((j + b : Nat) : Int) by rw [wrap_id (by omega) (by omega)]; omega]
    by_cases h : j + b = (bs s).length
    · rw [scanF_end _ s j (by rw [hbb]; exact h), hbb]
      exact Ev.pos (by omega) (Ev.pos (by omega) (Ev.now _))
    · rw [scanF_tok _ s j b hbb h]
      have hx : 0 < (bs (s.extract (j + b) s.size)).length := by rw [bs_drop, List.length_drop]; omega
      have ht := tok_range _ hx
      have hcs := cut_size (s.extract (j + b) s.size) (tok (s.extract (j + b) s.size)).n ht.2
      rw [bs_drop, List.length_drop] at ht
      refine Ev.neg (by omega) (Ev.pos (by omega) (Ev.pos (by omega) ?_))
      rw [Int.toNat_natCast]
      refine Ev.bind (next_ev _ hx (by rw [bs_drop, List.length_drop]; omega)) (Ev.pos (by omega) ?_)
      show Ev (fun k => lexer_Scan.l0 k s (acc ++ [⟨(tok (s.extract (j + b) s.size)).k, cut (s.extract (j + b) s.size) (tok (s.extract (j + b) s.size)).n, (tok (s.extract (j + b) s.size)).v, ((j + b : Nat) : Int)⟩]) (wrap64 (((j + b : Nat) : Int) + ((cut (s.extract (j + b) s.size) (tok (s.extract (j + b) s.size)).n).size : Int)))) _
      rw [hcs, show wrap64 (((j + b : Nat) : Int) + ((tok (s.extract (j + b) s.size)).n : Int)) = ((j + b + (tok (s.extract (j + b) s.size)).n : Nat) : Int) by rw [wrap_id (by omega) (by omega)]; omega]
      refine Ev.cast (ih (j + b + (tok (s.extract (j + b) s.size)).n) _ (by omega) (by omega) (by rw [List.length_append]; simp only [List.length_cons, List.length_nil]; omega)) ?_
      rw [List.append_assoc]
      rfl
theorem scan_ref (s : ByteArray) (hn : (bs s).length ≤ 1000000) : ∀ (d j : Nat) (acc : List S32), (bs s).length ≤ j + d → j ≤ (bs s).length → acc.length ≤ j → Ev (fun k => trickleref15_Scan.l0 k s acc (j : Int)) (acc ++ (scanF (d + 1) s j).map to32) := by
  intro d
  induction d with
  | zero =>
    intro j acc h1 h2 ha
    have hs := bs_len s
    have hsk := blank_at s hn j h2
    refine Ev.step (fun k => by rw [trickleref15_Scan.l0]) (Ev.pos (by omega) (Ev.pos (by omega) ?_))
    rw [Int.toNat_natCast]
    refine Ev.bind hsk ?_
    have hz := bl_end s j (by omega)
    rw [scanF_end 0 s j (by rw [hz]; omega), hz, show wrap64 ((j : Int) + ((0 : Nat) : Int)) = ((j + 0 : Nat) : Int) by rw [wrap_id (by omega) (by omega)]; omega]
    exact Ev.pos (by omega) (Ev.pos (by omega) (Ev.now _))
  | succ d ih =>
    intro j acc h1 h2 ha
    have hs := bs_len s
    have hb := bl_le ((bs s).drop j) false
    rw [List.length_drop] at hb
    have hsk := blank_at s hn j h2
    refine Ev.step (fun k => by rw [trickleref15_Scan.l0]) (Ev.pos (by omega) (Ev.pos (by omega) ?_))
    rw [Int.toNat_natCast]
    refine Ev.bind hsk ?_
    generalize hbb : bl false ((bs s).drop j) = b at hb ⊢
    rw [show wrap64 ((j : Int) + (b : Int)) = ((j + b : Nat) : Int) by rw [wrap_id (by omega) (by omega)]; omega]
    by_cases h : j + b = (bs s).length
    · rw [scanF_end _ s j (by rw [hbb]; exact h), hbb]
      exact Ev.pos (by omega) (Ev.pos (by omega) (Ev.now _))
    · rw [scanF_tok _ s j b hbb h]
      have hx : 0 < (bs (s.extract (j + b) s.size)).length := by rw [bs_drop, List.length_drop]; omega
      have ht := tok_range _ hx
      have hcs := cut_size (s.extract (j + b) s.size) (tok (s.extract (j + b) s.size)).n ht.2
      rw [bs_drop, List.length_drop] at ht
      refine Ev.neg (by omega) (Ev.pos (by omega) (Ev.pos (by omega) ?_))
      rw [Int.toNat_natCast]
      refine Ev.bind (one_ev _ hx (by rw [bs_drop, List.length_drop]; omega)) (Ev.pos (by omega) ?_)
      show Ev (fun k => trickleref15_Scan.l0 k s (acc ++ [⟨(tok (s.extract (j + b) s.size)).k, cut (s.extract (j + b) s.size) (tok (s.extract (j + b) s.size)).n, (tok (s.extract (j + b) s.size)).v, ((j + b : Nat) : Int)⟩]) (wrap64 (((j + b : Nat) : Int) + ((cut (s.extract (j + b) s.size) (tok (s.extract (j + b) s.size)).n).size : Int)))) _
      rw [hcs, show wrap64 (((j + b : Nat) : Int) + ((tok (s.extract (j + b) s.size)).n : Int)) = ((j + b + (tok (s.extract (j + b) s.size)).n : Nat) : Int) by rw [wrap_id (by omega) (by omega)]; omega]
      refine Ev.cast (ih (j + b + (tok (s.extract (j + b) s.size)).n) _ (by omega) (by omega) (by rw [List.length_append]; simp only [List.length_cons, List.length_nil]; omega)) ?_
      rw [List.append_assoc]
      rfl
/-- The tokens of a text. -/
def scan (s : ByteArray) : List S37 := scanF ((bs s).length + 1) s 0
theorem scan_ev (s : ByteArray) (hn : (bs s).length ≤ 1000000) : Ev (fun k => lexer_Scan.f k s) (scan s) := scan_impl s hn (bs s).length 0 [] (by omega) (by omega) (by simp)
theorem rscan_ev (s : ByteArray) (hn : (bs s).length ≤ 1000000) : Ev (fun k => trickleref15_Scan.f k s) ((scan s).map to32) := scan_ref s hn (bs s).length 0 [] (by omega) (by omega) (by simp)
theorem scan_le (s : ByteArray) : (scan s).length ≤ (bs s).length + 1 := scan_len (bs s).length s 0 (by omega) (by omega)
theorem rd_T37_nat (xs : List S37) (j : Nat) (h : j < xs.length) : rd_T37 xs (j : Int) = xs[j] := getD_nat xs z37 j h
theorem plain_loop (l : List S37) (hn : l.length ≤ 1000000) : ∀ (d j : Nat) (acc : List S32), j + d = l.length → acc.length ≤ j → Ev (fun k => tricklelaw15_plain.l0 k acc l (l.length : Int) (j : Int)) (acc ++ (l.drop j).map to32)
  | 0, j, acc, hj, ha => by
    rw [List.drop_of_length_le (by omega), List.map_nil, List.append_nil]
    exact Ev.step (fun k => by rw [tricklelaw15_plain.l0]) (Ev.neg (by omega) (Ev.now _))
  | d + 1, j, acc, hj, ha => by
    refine Ev.step (fun k => by rw [tricklelaw15_plain.l0]) (Ev.pos (by omega) (Ev.pos (by omega) (Ev.pos (by omega) (Ev.pos (by omega) ?_))))
    rw [rd_T37_nat l j (by omega), wrap_nat (n := l.length) (by omega) (by omega)]
    refine Ev.cast (plain_loop l hn d (j + 1) _ (by omega) (by simp; omega)) ?_
    rw [drop_cons l j (by omega), List.map_cons, List.append_assoc]
    rfl
theorem plain_ev (l : List S37) (hn : l.length ≤ 1000000) : Ev (fun k => tricklelaw15_plain.f k l) (l.map to32) := by
  have h := plain_loop l hn l.length 0 [] (by omega) (by simp)
  rw [List.drop_zero] at h
  exact h
theorem same_loop (l : List S32) (p : Bool) (hn : l.length ≤ 1000000) : ∀ (d j : Nat), j + d = l.length → Ev (fun k => trickleref15_Same.l0 k l l p (j : Int)) true
  | 0, j, hj => Ev.step (fun k => by rw [trickleref15_Same.l0]) (Ev.neg (by omega) (Ev.now _))
  | d + 1, j, hj => by
    have hj1 : Ev (fun k => trickleref15_Same.j1 k l l p (j : Int) false) true := by
      refine Ev.step (fun k => by rw [trickleref15_Same.j1]) (Ev.neg (by decide) ?_)
      rw [wrap_nat (n := l.length) (by omega) (by omega)]
      exact same_loop l p hn d (j + 1) (by omega)
    refine Ev.step (fun k => by rw [trickleref15_Same.l0]) (Ev.pos (by omega) (Ev.pos (by omega) (Ev.pos (by omega) (Ev.pos rfl (Ev.pos rfl (Ev.pos rfl ?_))))))
    cases p with
    | true =>
      refine Ev.pos rfl ?_
      rw [show ((rd_T32 l (j : Int)).f3 != (rd_T32 l (j : Int)).f3) = false by simp]
      exact hj1
    | false => exact Ev.neg (by decide) hj1
theorem same_ev (l : List S32) (p : Bool) (hn : l.length ≤ 1000000) : Ev (fun k => trickleref15_Same.f k l l p) true :=
  Ev.congr (f := fun k => trickleref15_Same.l0 k l l p ((0 : Nat) : Int)) (fun k => by rw [trickleref15_Same.f, if_pos rfl]; rfl) (same_loop l p hn l.length 0 (by omega))
theorem wakes15 : Ev (fun k => tricklelaw15_wakes.f k) true := Ev.of (k := 80) (fun k => tricklelaw15_wakes.mono k) (by kernel_rfl)
end Go.Proofs.YtmpbkemicfmbaaaDoor.PX
