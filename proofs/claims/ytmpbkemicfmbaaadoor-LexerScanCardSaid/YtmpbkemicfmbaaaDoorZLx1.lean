/- The lexer in plain words, 1: bytes of a text, the length of its white space and comments (skip and blank). -/
import Derived.Test.YtmpbkemicfmbaaaDoorZPXx4
import Derived.Test.YtmpbkemicfmbaaaDoorZPXx16
import Derived.Test.YtmpbkemicfmbaaaDoorZEv
import Derived.Lib.IndexBytes
import Derived.Lib.IndexAny
namespace Go.Proofs.YtmpbkemicfmbaaaDoor.PX
open Go.RowKit Go.Proofs.YtmpbkemicfmbaaaDoorW.PrintWords Go.Proofs.YtmpbkemicfmbaaaDoorW.PrintLast Go.Proofs.YtmpbkemicfmbaaaDoorW.PrintMore
set_option linter.unusedVariables false
set_option linter.unusedSimpArgs false
abbrev bs (s : ByteArray) : List UInt8 := s.data.toList
theorem bs_len (s : ByteArray) : (bs s).length = s.size := by cases s; simp [bs, ByteArray.size]
theorem bs_drop (s : ByteArray) (j : Nat) : bs (s.extract j s.size) = (bs s).drop j := Lib.extract_to_end s j
theorem bs_take (s : ByteArray) (j : Nat) : bs (s.extract 0 j) = (bs s).take j := by show (s.extract 0 j).data.toList = _; rw [Lib.extract_data]; simp
theorem bs_inj {a b : ByteArray} (h : bs a = bs b) : a = b := by
  cases a with | mk a => cases b with | mk b =>
  have : a = b := Array.toList_inj.mp h
  rw [this]
theorem toList_bs (s : ByteArray) : s.toList = bs s := ByteArray.toList_eq s
theorem bt_bs (s : ByteArray) (j : Nat) (h : j < (bs s).length) : bt s (j : Int) = (((bs s)[j]).toNat : Int) := by
  have h1 : j < s.size := by rw [← bs_len]; exact h
  unfold bt
  rw [dif_pos (by rw [Int.toNat_natCast]; exact h1)]
  have h2 := Lib.data_getElem? s j h1
  have h3 : (bs s)[j] = s[j] := by
    have := (List.getElem?_eq_getElem h).symm.trans h2
    exact Option.some.inj this
  rw [h3]
  rfl
/-- White space. -/
def wsB (c : UInt8) : Bool := c == 32 || c == 9 || c == 10 || c == 13
/-- How many bytes of white space and comments a text begins with; true: within a comment. -/
def bl : Bool → List UInt8 → Nat
  | _, [] => 0
  | false, c :: r => if wsB c = true then 1 + bl false r else if c = 47 ∧ r.head? = some 47 then 1 + bl true r else 0
  | true, c :: r => if c = 10 then 1 + bl false r else 1 + bl true r
theorem bl_le (l : List UInt8) : ∀ m, bl m l ≤ l.length := by
  induction l with
  | nil => intro m; cases m <;> simp [bl]
  | cons c r ih =>
    intro m
    have h1 := ih true
    have h2 := ih false
    cases m <;> simp only [bl, List.length_cons] <;> (repeat' split) <;> omega
theorem toNat_eq {c : UInt8} {n : Nat} (hn : n < 256) : ((c.toNat : Int) = (n : Int)) ↔ c = UInt8.ofNat n := by
  constructor
  · intro h
    apply UInt8.toNat_inj.mp
    rw [UInt8.toNat_ofNat']
    omega
  · rintro rfl
    rw [UInt8.toNat_ofNat']
    omega
theorem is10 (c : UInt8) : ((c.toNat : Int) = 10) ↔ c = 10 := toNat_eq (n := 10) (by decide)
theorem is32 (c : UInt8) : ((c.toNat : Int) = 32) ↔ c = 32 := toNat_eq (n := 32) (by decide)
theorem is9 (c : UInt8) : ((c.toNat : Int) = 9) ↔ c = 9 := toNat_eq (n := 9) (by decide)
theorem is13 (c : UInt8) : ((c.toNat : Int) = 13) ↔ c = 13 := toNat_eq (n := 13) (by decide)
theorem is47 (c : UInt8) : ((c.toNat : Int) = 47) ↔ c = 47 := toNat_eq (n := 47) (by decide)
theorem bl_com (l : List UInt8) : bl true l = if Lib.indexByte l 10 < 0 then l.length else (Lib.indexByte l 10).toNat + bl false (l.drop (Lib.indexByte l 10).toNat) := by
  induction l with
  | nil => rfl
  | cons c r ih =>
    by_cases hc : c = 10
    · subst hc
      have : Lib.indexByte (10 :: r) 10 = 0 := by simp [Lib.indexByte]
      rw [this]
      simp [bl, wsB]
    · have hne : (c == 10) = false := beq_eq_false_iff_ne.mpr hc
      have hge := Lib.indexByte_ge r 10
      rw [bl, if_neg hc, ih]
      by_cases h1 : Lib.indexByte r 10 = -1
      · have : Lib.indexByte (c :: r) 10 = -1 := by simp [Lib.indexByte, hne, h1]
        rw [this, h1]
        simp
        omega
      · have hb1 : (Lib.indexByte r 10 == -1) = false := beq_eq_false_iff_ne.mpr h1
        have : Lib.indexByte (c :: r) 10 = Lib.indexByte r 10 + 1 := by simp [Lib.indexByte, hne, hb1]
        rw [this, if_neg (by omega), if_neg (by omega)]
        have h2 : (Lib.indexByte r 10 + 1).toNat = (Lib.indexByte r 10).toNat + 1 := by omega
        rw [h2, List.drop_succ_cons]
        omega
theorem ws_ix (c : UInt8) : (Lib.indexByte [32, 9, 10, 13] c ≥ 0) ↔ wsB c = true := by
  have h := Lib.contains_iff_indexByte [32, 9, 10, 13] c
  have h2 : wsB c = ([32, 9, 10, 13] : List UInt8).contains c := by rw [Bool.eq_iff_iff]; simp [wsB, List.contains_cons, or_assoc]
  rw [h2, h]
  simp
theorem u8_back (c : UInt8) : ((c.toNat : Int)).toNat.toUInt8 = c := by simp
theorem hasP_ev (s : ByteArray) : strings_HasPrefix.f s (⟨#[47, 47]⟩ : ByteArray) = some ((bs s).take 2 == [47, 47]) := by
  unfold strings_HasPrefix.f stringslite_HasPrefix.f
  have hs := bs_len s
  have h2 : (⟨#[47, 47]⟩ : ByteArray).size = 2 := rfl
  rw [h2]
  by_cases h : (s.size : Int) ≥ ((2 : Nat) : Int)
  · rw [if_pos h, if_pos (by omega), if_pos (by omega), Option.bind_some, toList_bs, toList_bs, bs_take]
    rfl
  · rw [if_neg h, Option.bind_some]
    congr 1
    symm
    rw [beq_eq_false_iff_ne]
    intro e
    have := congrArg List.length e
    rw [List.length_take] at this
    simp at this
    omega
theorem two47 (c : UInt8) (r : List UInt8) : ((c :: r).take 2 == [47, 47]) = true ↔ c = 47 ∧ r.head? = some 47 := by
  cases r with
  | nil => simp
  | cons d r => simp
theorem bl_slash (c : UInt8) (r : List UInt8) (h : c = 47 ∧ r.head? = some 47) : bl false (c :: r) = bl true (c :: r) := by
  rw [bl, bl, if_neg (by rw [h.1]; decide), if_pos h, if_neg (by rw [h.1]; decide)]
theorem ix_le (l : List UInt8) (c : UInt8) : Lib.indexByte l c ≤ (l.length : Int) - 1 ∨ Lib.indexByte l c < 0 := by
  induction l with
  | nil => right; simp [Lib.indexByte]
  | cons b r ih =>
    by_cases h : (b == c) = true
    · left; simp [Lib.indexByte, h]
    · have h2 : (b == c) = false := Bool.eq_false_iff.mpr h
      by_cases h1 : (Lib.indexByte r c == -1) = true
      · right; simp [Lib.indexByte, h2, h1]
      · have h3 : (Lib.indexByte r c == -1) = false := Bool.eq_false_iff.mpr h1
        have h4 : Lib.indexByte r c ≠ -1 := beq_eq_false_iff_ne.mp h3
        have := Lib.indexByte_ge r c
        have h5 : Lib.indexByte (b :: r) c = Lib.indexByte r c + 1 := by simp [Lib.indexByte, h2, h3]
        rw [h5, List.length_cons]
        left
        rcases ih with h | h <;> omega
theorem skip_ev (s : ByteArray) (hn : (bs s).length ≤ 1000000) : ∀ (d j : Nat), (bs s).length ≤ j + d → j ≤ (bs s).length → Ev (fun k => lexer_skip.l0 k s (j : Int)) ((j + bl false ((bs s).drop j) : Nat) : Int)
  | 0, j, hd, hj => by
    rw [List.drop_of_length_le (by omega)]
    have hs := bs_len s
    exact Ev.step (fun k => by rw [lexer_skip.l0]) (Ev.cast (Ev.neg (by omega) (Ev.now _)) (by simp [bl]))
  | d + 1, j, hd, hj => by
    have hs := bs_len s
    by_cases hl : j < (bs s).length
    case neg =>
      rw [List.drop_of_length_le (by omega)]
      exact Ev.step (fun k => by rw [lexer_skip.l0]) (Ev.cast (Ev.neg (by omega) (Ev.now _)) (by simp [bl]))
    refine Ev.step (fun k => by rw [lexer_skip.l0]) (Ev.pos (by omega) (Ev.pos (by omega) ?_))
    have hdr := drop_cons (bs s) j hl
    rw [bt_bs s j hl, wrap_nat (n := (bs s).length) hl (by omega), Int.toNat_natCast]
    generalize hc : (bs s)[j] = c at hdr ⊢
    generalize hr : (bs s).drop (j + 1) = r at hdr
    have hrl : r.length + j + 1 = (bs s).length := by rw [← hr, List.length_drop]; omega
    refine Ev.const (a := Lib.indexByte [32, 9, 10, 13] c) (by unfold strings_IndexByte.f; rw [u8_back]) ?_
    by_cases hw : wsB c = true
    · have ih := skip_ev s hn d (j + 1) (by omega) (by omega)
      refine Ev.pos ((ws_ix c).mpr hw) (Ev.cast ih ?_)
      rw [hdr, hr, bl, if_pos hw]
      congr 1
      omega
    · refine Ev.neg (fun h => hw ((ws_ix c).mp h)) (Ev.pos (by omega) (Ev.const (hasP_ev _) ?_))
      rw [bs_drop, hdr]
      by_cases h2 : c = 47 ∧ r.head? = some 47
      · refine Ev.pos ((two47 c r).mpr h2) (Ev.const (a := Lib.indexByte (c :: r) 10) (by unfold strings_IndexByte.f; rw [show (s.extract j s.size).data.toList = c :: r from (bs_drop s j).trans hdr]; rfl) ?_)
        rw [bl_slash c r h2, bl_com]
        have hle := ix_le (c :: r) 10
        have hc10 : ¬ c = 10 := by rw [h2.1]; decide
        have h0 : Lib.indexByte (c :: r) 10 ≠ 0 := by
          intro h
          simp [Lib.indexByte, beq_eq_false_iff_ne.mpr hc10] at h
          have := Lib.indexByte_ge r 10
          split at h <;> omega
        generalize Lib.indexByte (c :: r) 10 = ix at hle h0
        rw [List.length_cons] at hle ⊢
        by_cases hx : ix < 0
        · refine Ev.pos hx (Ev.cast (Ev.now _) ?_)
          rw [if_pos hx]
          omega
        · obtain ⟨m, rfl⟩ := Int.eq_ofNat_of_zero_le (show 0 ≤ ix by omega)
          have ih := skip_ev s hn d (j + m) (by omega) (by omega)
          refine Ev.neg hx ?_
          rw [show wrap64 ((j : Int) + (m : Int)) = ((j + m : Nat) : Int) by rw [wrap_id (by omega) (by omega)]; omega]
          refine Ev.cast ih ?_
          rw [if_neg hx, Int.toNat_natCast, ← hdr, List.drop_drop]
          congr 1
          omega
      · refine Ev.neg (fun h => h2 ((two47 c r).mp h)) (Ev.cast (Ev.now _) ?_)
        rw [bl, if_neg hw, if_neg h2]
        simp
theorem blank_com (s : ByteArray) (hn : (bs s).length ≤ 1000000) : ∀ (d j : Nat), (bs s).length ≤ j + d → j ≤ (bs s).length → (∀ j2, j ≤ j2 → j2 ≤ (bs s).length → Ev (fun k => trickleref15_blank.l0 k s (j2 : Int)) ((j2 + bl false ((bs s).drop j2) : Nat) : Int)) → Ev (fun k => trickleref15_blank.l1 k s (j : Int)) ((j + bl true ((bs s).drop j) : Nat) : Int)
  | 0, j, hd, hj, h0 => by
    have hs := bs_len s
    have := h0 j (by omega) hj
    rw [List.drop_of_length_le (by omega)] at this ⊢
    exact Ev.step (fun k => by rw [trickleref15_blank.l1]) (Ev.neg (by omega) this)
  | d + 1, j, hd, hj, h0 => by
    have hs := bs_len s
    by_cases hl : j < (bs s).length
    case neg =>
      have := h0 j (by omega) hj
      rw [List.drop_of_length_le (by omega)] at this ⊢
      exact Ev.step (fun k => by rw [trickleref15_blank.l1]) (Ev.neg (by omega) this)
    refine Ev.step (fun k => by rw [trickleref15_blank.l1]) (Ev.pos (by omega) (Ev.pos (by omega) ?_))
    rw [bt_bs s j hl, wrap_nat (n := (bs s).length) hl (by omega)]
    have h1 := h0 j (by omega) hj
    rw [drop_cons (bs s) j hl] at h1 ⊢
    have ih := blank_com s hn d (j + 1) (by omega) (by omega) (fun j2 ha hb => h0 j2 (by omega) hb)
    generalize (bs s)[j] = c at h1 ⊢
    by_cases hc : c = 10
    · refine Ev.pos ((is10 c).mpr hc) (Ev.cast h1 ?_)
      subst hc
      rw [bl, bl, if_pos (by decide), if_pos rfl]
    · refine Ev.neg (fun h => hc ((is10 c).mp h)) (Ev.cast ih ?_)
      rw [bl, if_neg hc]
      congr 1
      omega
theorem blank_ev (s : ByteArray) (hn : (bs s).length ≤ 1000000) : ∀ (d j : Nat), (bs s).length ≤ j + d → j ≤ (bs s).length → Ev (fun k => trickleref15_blank.l0 k s (j : Int)) ((j + bl false ((bs s).drop j) : Nat) : Int)
  | 0, j, hd, hj => by
    rw [List.drop_of_length_le (by omega)]
    have hs := bs_len s
    exact Ev.step (fun k => by rw [trickleref15_blank.l0]) (Ev.cast (Ev.neg (by omega) (Ev.now _)) (by simp [bl]))
  | d + 1, j, hd, hj => by
    have hs := bs_len s
    by_cases hl : j < (bs s).length
    case neg =>
      rw [List.drop_of_length_le (by omega)]
      exact Ev.step (fun k => by rw [trickleref15_blank.l0]) (Ev.cast (Ev.neg (by omega) (Ev.now _)) (by simp [bl]))
    have hih : ∀ j2, j + 1 ≤ j2 → j2 ≤ (bs s).length → Ev (fun k => trickleref15_blank.l0 k s (j2 : Int)) ((j2 + bl false ((bs s).drop j2) : Nat) : Int) := fun j2 ha hb => blank_ev s hn d j2 (by omega) hb
    refine Ev.step (fun k => by rw [trickleref15_blank.l0]) (Ev.pos (by omega) (Ev.pos (by omega) ?_))
    have hdr := drop_cons (bs s) j hl
    have hbt := bt_bs s j hl
    rw [hbt]
    -- white space
    have hws : wsB (bs s)[j] = true → Ev (fun k => trickleref15_blank.j1 k s (j : Int) true) ((j + bl false ((bs s).drop j) : Nat) : Int) := by
      intro hw
      refine Ev.step (fun k => by rw [trickleref15_blank.j1]) (Ev.pos rfl ?_)
      rw [wrap_nat (n := (bs s).length) hl (by omega)]
      refine Ev.cast (hih (j + 1) (by omega) (by omega)) ?_
      rw [hdr, bl, if_pos hw]
      congr 1
      omega
    have hno : ¬ wsB (bs s)[j] = true → Ev (fun k => trickleref15_blank.j1 k s (j : Int) false) ((j + bl false ((bs s).drop j) : Nat) : Int) := by
      intro hw
      refine Ev.step (fun k => by rw [trickleref15_blank.j1]) (Ev.neg (by decide) ?_)
      rw [wrap_nat (n := (bs s).length) hl (by omega), hbt]
      have done : ¬ ((bs s)[j] = 47 ∧ ((bs s).drop (j + 1)).head? = some 47) → Ev (fun k => trickleref15_blank.j2 k s (j : Int) true) ((j + bl false ((bs s).drop j) : Nat) : Int) := by
        intro h2
        refine Ev.step (fun k => by rw [trickleref15_blank.j2]) (Ev.pos rfl (Ev.cast (Ev.now _) ?_))
        rw [hdr, bl, if_neg hw, if_neg h2]
        simp
      by_cases hl2 : j + 1 < (bs s).length
      · have hd2 := drop_cons (bs s) (j + 1) hl2
        refine Ev.neg (by omega) (Ev.pos (by omega) (Ev.pos (by omega) ?_))
        by_cases h47 : (bs s)[j] = 47
        · refine Ev.pos ((is47 _).mpr h47) (Ev.pos (by omega) (Ev.pos (by omega) ?_))
          rw [bt_bs s (j + 1) hl2]
          by_cases h2 : (bs s)[j + 1] = 47
          · have hb := blank_com s hn (bs s).length (j + 1) (by omega) (by omega) hih
            rw [show ((((bs s)[j + 1]).toNat : Int) != 47) = false by rw [h2]; decide]
            refine Ev.step (fun k => by rw [trickleref15_blank.j2]) (Ev.neg (by decide) ?_)
            refine Ev.step (fun k => by rw [trickleref15_blank.l1]) (Ev.pos (by omega) (Ev.pos (by omega) ?_))
            rw [hbt, wrap_nat (n := (bs s).length) hl (by omega)]
            refine Ev.neg (fun h => by rw [(is10 _).mp h] at h47; cases h47) (Ev.cast hb ?_)
            rw [hdr, bl, if_neg hw, if_pos ⟨h47, by rw [hd2]; simp [h2]⟩]
            congr 1
            omega
          · rw [show ((((bs s)[j + 1]).toNat : Int) != 47) = true by rw [bne_iff_ne]; exact fun h => h2 ((is47 _).mp h)]
            exact done (fun h => h2 (by have := h.2; rw [hd2] at this; simpa using this))
        · exact Ev.neg (fun h => h47 ((is47 _).mp h)) (done (fun h => h47 h.1))
      · exact Ev.pos (by omega) (done (fun h => by have := h.2; rw [List.drop_of_length_le (by omega)] at this; cases this))
    by_cases h32 : (bs s)[j] = 32
    · exact Ev.pos ((is32 _).mpr h32) (hws (by rw [h32]; decide))
    refine Ev.neg (fun h => h32 ((is32 _).mp h)) ?_
    by_cases h9 : (bs s)[j] = 9
    · exact Ev.pos ((is9 _).mpr h9) (hws (by rw [h9]; decide))
    refine Ev.neg (fun h => h9 ((is9 _).mp h)) ?_
    by_cases h10 : (bs s)[j] = 10
    · exact Ev.pos ((is10 _).mpr h10) (hws (by rw [h10]; decide))
    refine Ev.neg (fun h => h10 ((is10 _).mp h)) ?_
    by_cases h13 : (bs s)[j] = 13
    · rw [show ((((bs s)[j]).toNat : Int) == 13) = true from beq_iff_eq.mpr ((is13 _).mpr h13)]
      exact hws (by rw [h13]; decide)
    · rw [show ((((bs s)[j]).toNat : Int) == 13) = false from beq_eq_false_iff_ne.mpr (fun h => h13 ((is13 _).mp h))]
      exact hno (fun h => by
        simp only [wsB, Bool.or_eq_true, beq_iff_eq] at h
        rcases h with ((h | h) | h) | h <;> contradiction)
end Go.Proofs.YtmpbkemicfmbaaaDoor.PX
