/- VerifySequence in plain words: the reference's Sequence computes refFrom, verify.Sequence the same, and Same holds. -/
import Derived.Test.YtakkifbcaedcoaaDoorZPXx9
import Derived.Test.YtakkifbcaedcoaaDoorZPu1
namespace Go.Proofs.YtakkifbcaedcoaaDoor.PX
open Go.RowKit Go.Proofs.YtakkifbcaedcoaaDoorW.PrintWords Go.Proofs.YtakkifbcaedcoaaDoorW.PrintLast Go.Proofs.YtakkifbcaedcoaaDoorW.PrintMore
set_option linter.unusedVariables false
set_option linter.unusedSimpArgs false
theorem take_cnt (l : List S55) (q : Int) (j : Nat) (h : j < l.length) : cnt (l.take (j + 1)) q = if l[j].f0 = q then cnt (l.take j) q + 1 else cnt (l.take j) q := by
  rw [take_snoc' l j h, cnt_snoc]
theorem count_loop (l : List S55) (q : Int) (hn : l.length < 1000) : ∀ (d j : Nat), j + d = l.length → Ev (fun k => trickleref55_count.l0 k l q (cnt (l.take j) q) (j : Int)) (cnt l q)
  | 0, j, hj => by
    refine Ev.step (fun k => by rw [trickleref55_count.l0]) (Ev.neg (by omega) ?_)
    rw [List.take_of_length_le (by omega)]
    exact Ev.now _
  | d + 1, j, hj => by
    have hc := cnt_le (l.take j) q
    rw [List.length_take] at hc
    refine Ev.step (fun k => by rw [trickleref55_count.l0]) (Ev.pos (by omega) (Ev.pos (by omega) ?_))
    rw [rd_T55_nat l j (by omega), wrap_nat (n := l.length) (by omega) (by omega), wrap_id (i := cnt (l.take j) q + 1) (by omega) (by omega)]
    have ih := count_loop l q hn d (j + 1) (by omega)
    rw [take_cnt l q j (by omega)] at ih
    by_cases h : (l[j]'(by omega)).f0 = q
    · rw [if_pos h] at ih
      exact Ev.pos h ih
    · rw [if_neg h] at ih
      exact Ev.neg h ih
theorem count_ev (l : List S55) (q : Int) (hn : l.length < 1000) : Ev (fun k => trickleref55_count.f k l q) (cnt l q) :=
  count_loop l q hn l.length 0 (by omega)
theorem seq_j2 (l : List S55) (acc : List S33) (j : Nat) (hj : j < l.length) (hn : l.length < 500) (c : Prop) [Decidable c] (x : Bool) (hx : x = decide c) (ha : acc.length ≤ 2 * j + 1) (rest : List S33) (ih : ∀ acc2 : List S33, acc2.length ≤ 2 * (j + 1) → Ev (fun k => trickleref55_Sequence.l0 k l acc2 ((j + 1 : Nat) : Int)) (acc2 ++ rest)) :
    Ev (fun k => trickleref55_Sequence.j2 k l acc (j : Int) x) (acc ++ ((if c then [⟨(j : Int), 2⟩] else []) ++ rest)) := by
  refine Ev.step (fun k => by rw [trickleref55_Sequence.j2]) ?_
  rw [wrap_nat (n := l.length) hj (by omega)]
  subst hx
  by_cases h : c
  · rw [if_pos h]
    exact Ev.pos (decide_eq_true h) (Ev.pos (by omega) (Ev.cast (ih _ (by simp; omega)) (by simp)))
  · rw [if_neg h, List.nil_append]
    exact Ev.neg (by simpa using h) (ih _ (by omega))
theorem seq_j1 (l b : List S55) (e : S55) (acc : List S33) (j : Nat) (hj : j < l.length) (hn : l.length < 500) (hb : b.length < 1000) (ha : acc.length ≤ 2 * j + 1) (rest : List S33) (ih : ∀ acc2 : List S33, acc2.length ≤ 2 * (j + 1) → Ev (fun k => trickleref55_Sequence.l0 k l acc2 ((j + 1 : Nat) : Int)) (acc2 ++ rest)) :
    Ev (fun k => trickleref55_Sequence.j1 k l acc (j : Int) b e.f0 e.f1 e.f2 e.f3 e.f4 e.f5) (acc ++ (dupR b (j : Int) e ++ rest)) := by
  refine Ev.step (fun k => by rw [trickleref55_Sequence.j1]) ?_
  by_cases h7 : e.f0 = 7
  · refine Ev.pos h7 (Ev.bind (count_ev b e.f0 hb) ?_)
    refine seq_j2 l acc j hj hn _ _ ?_ ha rest ih
    rw [Bool.eq_iff_iff]
    simp [h7]
  refine Ev.neg h7 ?_
  by_cases h8 : e.f0 = 8
  · refine Ev.pos h8 (Ev.bind (count_ev b e.f0 hb) ?_)
    refine seq_j2 l acc j hj hn _ _ ?_ ha rest ih
    rw [Bool.eq_iff_iff]
    simp [h8]
  refine Ev.neg h8 ?_
  refine seq_j2 l acc j hj hn _ _ ?_ ha rest ih
  simp [h7, h8]
theorem sequence_loop (l : List S55) (hw : ∀ x ∈ l, Wf55 x) (hn : l.length < 500) : ∀ (d j : Nat) (acc : List S33), j + d = l.length → acc.length ≤ 2 * j → Ev (fun k => trickleref55_Sequence.l0 k l acc (j : Int)) (acc ++ refFrom ((l.take j).filter VS) (j : Int) (l.drop j))
  | 0, j, acc, hj, ha => by
    refine Ev.step (fun k => by rw [trickleref55_Sequence.l0]) (Ev.neg (by omega) ?_)
    rw [List.drop_of_length_le (by omega), refFrom, List.append_nil]
    exact Ev.now _
  | d + 1, j, acc, hj, ha => by
    have hjl : j < l.length := by omega
    have hbl : ((l.take j).filter VS).length < 1000 := by
      have := List.length_filter_le VS (l.take j)
      rw [List.length_take] at this
      omega
    have ih := fun acc2 ha2 => sequence_loop l hw hn d (j + 1) acc2 (by omega) ha2
    rw [take_snoc' l j hjl, List.filter_append] at ih
    obtain ⟨at_, hix⟩ := indexed_ev (l.take j) (fun x hx => hw x (List.mem_of_mem_take hx)) (by rw [List.length_take]; omega)
    have hvv := vS_ref l[j] (hw _ (List.getElem_mem _))
    refine Ev.step (fun k => by rw [trickleref55_Sequence.l0]) (Ev.pos (by omega) (Ev.pos (by omega) (Ev.pos (by omega) ?_)))
    rw [Int.toNat_natCast, rd_T55_nat l j hjl, wrap_nat (n := l.length) (by omega) (by omega), drop_cons l j hjl, refFrom]
    refine Ev.bind hix (Ev.bind hvv ?_)
    by_cases h : VS l[j] = true
    · rw [if_pos h]
      rw [List.filter_cons_of_pos h, List.filter_nil] at ih
      refine Ev.pos h (Ev.const (a := refAllow ((l.take j).filter VS) l[j]) rfl ?_)
      by_cases hal : refAllow ((l.take j).filter VS) l[j] = true
      · refine Ev.pos hal ?_
        rw [badR, if_pos hal, List.nil_append]
        exact seq_j1 l _ l[j] acc j hjl hn hbl (by omega) _ ih
      · refine Ev.neg hal (Ev.pos (by omega) ?_)
        rw [badR, if_neg hal, ← List.append_assoc]
        exact seq_j1 l _ l[j] _ j hjl hn hbl (by simp; omega) _ ih
    · rw [if_neg h]
      rw [List.filter_cons_of_neg h, List.filter_nil, List.append_nil] at ih
      refine Ev.neg h (Ev.pos (by omega) (Ev.cast (ih _ (by simp; omega)) ?_))
      simp
theorem sequence_ev (l : List S55) (hw : ∀ x ∈ l, Wf55 x) (hn : l.length < 500) : Ev (fun k => trickleref55_Sequence.f k l) (refFrom [] 0 l) :=
  sequence_loop l hw hn l.length 0 [] (by omega) (by simp)
theorem refFrom_le (r : List S55) : ∀ (b : List S55) (i : Int), (refFrom b i r).length ≤ 2 * r.length := by
  induction r with
  | nil => intro b i; simp [refFrom]
  | cons e r ih =>
    intro b i
    rw [refFrom]
    split
    · have h1 : (badR b i e).length ≤ 1 := by unfold badR; split <;> simp
      have h2 : (dupR b i e).length ≤ 1 := by unfold dupR; split <;> simp
      have := ih (b ++ [e]) (i + 1)
      simp only [List.length_append, List.length_cons]
      omega
    · have := ih b (i + 1)
      simp only [List.length_cons]
      omega
end Go.Proofs.YtakkifbcaedcoaaDoor.PX
namespace Go.Proofs.YtakkifbcaedcoaaDoor.Pure
open Go.RowKit Go.Proofs.YtakkifbcaedcoaaDoor.PX Go.Proofs.YtakkifbcaedcoaaDoorW.PrintWords Go.Proofs.YtakkifbcaedcoaaDoorW.PrintLast
theorem VerifySequence (l0 : List S55) (hw : ∀ x ∈ l0, Wf55 x) : ∃ k, tricklelaw55_VerifySequence.f k l0 = some true := by
  refine Ev.rounds (Ev.congr (fun k => by rw [tricklelaw55_VerifySequence.f]) (Ev.const wakes55 (Ev.pos rfl ?_)))
  by_cases h : (l0.length : Int) > 90
  · exact Ev.pos h (Ev.now _)
  refine Ev.neg h ?_
  have hlen : (refFrom [] 0 l0).length < 8796093022208 := by
    have := refFrom_le l0 [] 0
    omega
  have hs := seq_eq l0 [] 0 hw (by simp; omega)
  have hp : ((seqF 0 m00 0 0 l0).map to33) = refFrom [] 0 l0 := hs
  refine Ev.const (a := seqF 0 m00 0 0 l0) (by unfold verify_Sequence.f; rw [if_pos (by omega)]) ?_
  have hpl := plain_ev (seqF 0 m00 0 0 l0) (by rw [← hp, List.length_map] at hlen; exact hlen)
  rw [hp] at hpl
  refine Ev.bind hpl (Ev.bind (sequence_ev l0 hw (by omega)) (Ev.bind (same_ev _ hlen) (Ev.now _)))
end Go.Proofs.YtakkifbcaedcoaaDoor.Pure
