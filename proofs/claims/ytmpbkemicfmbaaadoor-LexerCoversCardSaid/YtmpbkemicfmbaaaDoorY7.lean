/- Parts of the proof, merged in build order: PureLexerCovers. -/
import Derived.Test.YtmpbkemicfmbaaaDoorY5
import Derived.Test.YtmpbkemicfmbaaaDoorY6
/- LexerCovers in plain words: the tokens lie in ascending order, each is its part of the text, and only white space and comments lie between them. -/
namespace Go.Proofs.YtmpbkemicfmbaaaDoor.PX
open Go.RowKit Go.Proofs.YtmpbkemicfmbaaaDoorW.PrintWords Go.Proofs.YtmpbkemicfmbaaaDoorW.PrintLast Go.Proofs.YtmpbkemicfmbaaaDoorW.PrintMore
set_option linter.unusedVariables false
set_option linter.unusedSimpArgs false
theorem bl_take (l : List UInt8) : ∀ m, bl m (l.take (bl m l)) = bl m l := by
  induction l with
  | nil => intro m; cases m <;> rfl
  | cons c r ih =>
    intro m
    cases m with
    | false =>
      rw [bl]
      by_cases hw : wsB c = true
      · rw [if_pos hw, Nat.add_comm, List.take_succ_cons, bl, if_pos hw, ih, Nat.add_comm]
      · rw [if_neg hw]
        by_cases h2 : c = 47 ∧ r.head? = some 47
        · rw [if_pos h2, Nat.add_comm, List.take_succ_cons, bl, if_neg hw]
          have h3 : 1 ≤ bl true r := by
            cases r with
            | nil => cases h2.2
            | cons d r' =>
              rw [bl]
              split <;> omega
          rw [if_pos ⟨h2.1, by rw [List.head?_take, if_neg (by omega)]; exact h2.2⟩, ih, Nat.add_comm]
        · rw [if_neg h2]
          rfl
    | true =>
      rw [bl]
      by_cases hc : c = 10
      · rw [if_pos hc, Nat.add_comm, List.take_succ_cons, bl, if_pos hc, ih, Nat.add_comm]
      · rw [if_neg hc, Nat.add_comm, List.take_succ_cons, bl, if_neg hc, ih, Nat.add_comm]
theorem bs_part (s : ByteArray) (a b : Nat) : bs (s.extract a b) = ((bs s).drop a).take (b - a) := Lib.extract_data s a b
/-- A text of white space and comments alone has no token but its end. -/
theorem scan_blank (x : ByteArray) (h : bl false (bs x) = (bs x).length) : (scan x).length = 1 := by
  unfold scan
  rw [scanF_end _ x 0 (by rw [List.drop_zero, h, Nat.zero_add])]
  rfl
theorem between (s : ByteArray) (at_ : Nat) : (scan (s.extract at_ (at_ + bl false ((bs s).drop at_)))).length = 1 := by
  apply scan_blank
  rw [bs_part, Nat.add_sub_cancel_left, bl_take]
  have := bl_le ((bs s).drop at_) false
  rw [List.length_take]
  omega
theorem covers_step (s : ByteArray) (hn : (bs s).length ≤ 1000) (L : List S37) (hL : L.length ≤ 10000) (a i n : Nat) (hi : i < L.length) (ha : a ≤ (bs s).length) (t : S37) (ht : L[i] = t)
    (h3 : t.f3 = ((a + bl false ((bs s).drop a) : Nat) : Int)) (hsz : t.f1.size = n) (hle : a + bl false ((bs s).drop a) + n ≤ (bs s).length) (hp : bs t.f1 = ((bs s).drop (a + bl false ((bs s).drop a))).take n)
    (ih : Ev (fun k => tricklelaw15_LexerCovers.l0 k s ((a + bl false ((bs s).drop a) + n : Nat) : Int) L (L.length : Int) ((i + 1 : Nat) : Int)) true) :
    Ev (fun k => tricklelaw15_LexerCovers.l0 k s (a : Int) L (L.length : Int) (i : Int)) true := by
  have hs := bs_len s
  have hb := between s a
  generalize hbb : bl false ((bs s).drop a) = b at h3 hle hp ih hb
  refine Ev.step (fun k => by rw [tricklelaw15_LexerCovers.l0]) (Ev.pos (by omega) (Ev.pos (by omega) (Ev.pos (by omega) ?_)))
  rw [rd_T37_nat L i hi, ht, h3, hsz, show wrap64 (((a + b : Nat) : Int) + (n : Int)) = ((a + b + n : Nat) : Int) by rw [wrap_id (by omega) (by omega)]; omega]
  refine Ev.neg (by omega) (Ev.neg (by omega) (Ev.pos (by omega) (Ev.pos (by omega) (Ev.pos (by omega) ?_))))
  rw [Int.toNat_natCast, Int.toNat_natCast, Int.toNat_natCast]
  refine Ev.pos (by rw [toList_bs, toList_bs, bs_part, hp, Nat.add_sub_cancel_left]) (Ev.pos (by omega) (Ev.pos (by omega) (Ev.pos (by omega) ?_)))
  refine Ev.bind (rscan_ev (s.extract a (a + b)) (by rw [bs_part, List.length_take, List.length_drop]; omega)) ?_
  rw [List.length_map, hb]
  refine Ev.step (fun k => by rw [tricklelaw15_LexerCovers.j1]) (Ev.neg (show ¬ (((1 : Nat) : Int) != 1) = true by decide) ?_)
  rw [wrap_nat (n := L.length) hi (by omega), hsz, show wrap64 (((a + b : Nat) : Int) + (n : Int)) = ((a + b + n : Nat) : Int) by rw [wrap_id (by omega) (by omega)]; omega]
  exact ih
theorem covers_end (s : ByteArray) (hn : (bs s).length ≤ 1000) (L : List S37) (hL : L.length ≤ 10000) (a i : Nat) (ha : a ≤ (bs s).length) (hi : i ≤ L.length) (he : a + bl false ((bs s).drop a) = (bs s).length) (hd : L.drop i = [⟨0, ⟨#[]⟩, 0, ((a + bl false ((bs s).drop a) : Nat) : Int)⟩]) :
    Ev (fun k => tricklelaw15_LexerCovers.l0 k s (a : Int) L (L.length : Int) (i : Int)) true := by
  have hs := bs_len s
  have hl : i + 1 = L.length := by
    have := congrArg List.length hd
    rw [List.length_drop, List.length_cons, List.length_nil] at this
    omega
  have hi2 : i < L.length := by omega
  have hg : L[i] = ⟨0, ⟨#[]⟩, 0, ((a + bl false ((bs s).drop a) : Nat) : Int)⟩ := by
    have h := drop_cons L i hi2
    rw [hd] at h
    exact (List.cons.inj h).1.symm
  refine covers_step s hn L hL a i 0 hi2 ha _ hg rfl rfl (by omega) (by rw [List.take_zero]) ?_
  refine Ev.step (fun k => by rw [tricklelaw15_LexerCovers.l0]) (Ev.cast (Ev.neg (by omega) (Ev.now _)) ?_)
  rw [beq_iff_eq]
  omega
theorem covers_loop (s : ByteArray) (hn : (bs s).length ≤ 1000) (L : List S37) (hL : L.length ≤ 10000) : ∀ (d a i : Nat), (bs s).length ≤ a + d → a ≤ (bs s).length → i ≤ L.length → L.drop i = scanF (d + 1) s a → Ev (fun k => tricklelaw15_LexerCovers.l0 k s (a : Int) L (L.length : Int) (i : Int)) true := by
  intro d
  induction d with
  | zero =>
    intro a i h1 h2 hi hd
    have hz := bl_end s a (by omega)
    have he : a + bl false ((bs s).drop a) = (bs s).length := by omega
    exact covers_end s hn L hL a i h2 hi he (hd.trans (scanF_end 0 s a he))
  | succ d ih =>
    intro a i h1 h2 hi hd
    by_cases he : a + bl false ((bs s).drop a) = (bs s).length
    · exact covers_end s hn L hL a i h2 hi he (hd.trans (scanF_end _ s a he))
    · have hs := bs_len s
      have hble := bl_le ((bs s).drop a) false
      rw [List.length_drop] at hble
      rw [scanF_tok _ s a _ rfl he] at hd
      have hi2 : i < L.length := by
        have := congrArg List.length hd
        rw [List.length_drop, List.length_cons] at this
        omega
      have hg := drop_cons L i hi2
      rw [hd] at hg
      obtain ⟨hg1, hg2⟩ := List.cons.inj hg
      have hx : 0 < (bs (s.extract (a + bl false ((bs s).drop a)) s.size)).length := by rw [bs_drop, List.length_drop]; omega
      have htr := tok_range _ hx
      have hcs := cut_size (s.extract (a + bl false ((bs s).drop a)) s.size) _ htr.2
      rw [bs_drop, List.length_drop] at htr
      refine covers_step s hn L hL a i _ hi2 h2 _ hg1.symm rfl hcs (by omega) ?_ (ih _ (i + 1) (by omega) (by omega) (by omega) hg2.symm)
      rw [bs_cut, bs_drop]
end Go.Proofs.YtmpbkemicfmbaaaDoor.PX
namespace Go.Proofs.YtmpbkemicfmbaaaDoor.Pure
open Go.RowKit Go.Proofs.YtmpbkemicfmbaaaDoor.PX Go.Proofs.YtmpbkemicfmbaaaDoorW.PrintWords Go.Proofs.YtmpbkemicfmbaaaDoorW.PrintLast
theorem LexerCovers (s : ByteArray) (w : s.size ≤ 140737488351232) : ∃ k, tricklelaw15_LexerCovers.f k s = some true := by
  refine Ev.rounds (Ev.congr (fun k => by rw [tricklelaw15_LexerCovers.f]) (Ev.bind wakes15 (Ev.pos rfl ?_)))
  by_cases h : (s.size : Int) > 400
  · exact Ev.pos h (Ev.now _)
  have hs := bs_len s
  have hl := scan_le s
  exact Ev.neg h (Ev.bind (scan_ev s (by omega)) (covers_loop s (by omega) (scan s) (by omega) (bs s).length 0 0 (by omega) (by omega) (by omega) rfl))
end Go.Proofs.YtmpbkemicfmbaaaDoor.Pure
