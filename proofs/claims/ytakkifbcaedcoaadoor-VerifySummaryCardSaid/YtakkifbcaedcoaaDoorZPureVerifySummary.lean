/- VerifySummary in plain words: both count the kinds of the valid events and the attempts without a commit; the names of the kinds agree. -/
import Derived.Test.YtakkifbcaedcoaaDoorZPXx17
import Derived.Test.YtakkifbcaedcoaaDoorZPureVerifySequence
import Derived.Test.YtakkifbcaedcoaaDoorZPureVerifyUpdates
namespace Go.Proofs.YtakkifbcaedcoaaDoor.PX
open Go.RowKit Go.Proofs.YtakkifbcaedcoaaDoorW.PrintWords Go.Proofs.YtakkifbcaedcoaaDoorW.PrintLast Go.Proofs.YtakkifbcaedcoaaDoorW.PrintMore
set_option linter.unusedVariables false
set_option linter.unusedSimpArgs false
theorem rd_T73_nat (xs : List S73) (j : Nat) (h : j < xs.length) : rd_T73 xs (j : Int) = xs[j] := getD_nat xs z73 j h
theorem rd_T76_nat (xs : List S76) (j : Nat) (h : j < xs.length) : rd_T76 xs (j : Int) = xs[j] := getD_nat xs z76 j h
def act (e : S55) : Bool := e.f0 == 4 || e.f0 == 12 || e.f0 == 11
theorem act_impl (e : S55) : trace_activity.f e.f0 e.f1 e.f2 e.f3 e.f4 e.f5 = some (act e) := by
  unfold trace_activity.f act
  by_cases h4 : e.f0 = 4
  · simp [h4]
  · by_cases h12 : e.f0 = 12
    · simp [h12]
    · simp [h4, h12]
theorem act_ref (e : S55) : trickleref52_inner.f e.f0 e.f1 e.f2 e.f3 e.f4 e.f5 = some (act e) := by
  unfold trickleref52_inner.f act
  by_cases h4 : e.f0 = 4
  · simp [h4]
  · by_cases h12 : e.f0 = 12
    · simp [h12]
    · simp [h4, h12]
structure At where
  a : Int
  b : Int
  c : Int
  d : Bool
def At.to73 (x : At) : S73 := ⟨x.a, x.b, x.c, x.d⟩
def At.to76 (x : At) : S76 := ⟨x.a, x.b, x.c, x.d⟩
/-- How far the activities of a task reach, from a place on. -/
theorem scan (l : List S55) (hn : l.length < 1000) : ∀ (d j : Nat) (task : Int), j + d = l.length → ∃ e, j ≤ e ∧ e ≤ l.length ∧ (∀ h : j < l.length, act l[j] = true → l[j].f2 = task → j < e) ∧ (∀ h : j < l.length, ¬ (act l[j] = true ∧ l[j].f2 = task) → e = j) ∧
    (∀ (acc : List S73) (a b : Int) (fl : Bool) (r : List S73), Ev (fun k => trace_Attempts.j3 k l acc (e : Int) false a b task fl) r → Ev (fun k => trace_Attempts.l1 k l acc (j : Int) a b task fl) r) ∧
    (∀ (acc : List S76) (i a b : Int) (fl : Bool) (r : List S76), Ev (fun k => trickleref52_Attempts.j2 k l acc i (e : Int) false a b task fl) r → Ev (fun k => trickleref52_Attempts.l1 k l acc i (j : Int) a b task fl) r)
  | 0, j, task, hj => ⟨j, by omega, by omega, fun h => by omega, fun h => by omega,
      fun acc a b fl r h => Ev.step (fun k => by rw [trace_Attempts.l1]) (Ev.neg (by omega) h),
      fun acc i a b fl r h => Ev.step (fun k => by rw [trickleref52_Attempts.l1]) (Ev.neg (by omega) h)⟩
  | d + 1, j, task, hj => by
    have hjl : j < l.length := by omega
    by_cases hc : act l[j] = true ∧ l[j].f2 = task
    · obtain ⟨e, h1, h2, h3, h4, h5, h6⟩ := scan l hn d (j + 1) task (by omega)
      refine ⟨e, by omega, h2, fun _ _ _ => by omega, fun _ h => absurd hc h, ?_, ?_⟩
      · intro acc a b fl r h
        have ih := h5 acc a b fl r h
        refine Ev.step (fun k => by rw [trace_Attempts.l1]) (Ev.pos (by omega) (Ev.pos (by omega) ?_))
        rw [rd_T55_nat l j hjl]
        refine Ev.const (act_impl _) (Ev.pos hc.1 ?_)
        refine Ev.step (fun k => by rw [trace_Attempts.j3]) (Ev.pos (by simp [hc.2]) ?_)
        rw [wrap_nat (n := l.length) hjl (by omega)]
        exact ih
      · intro acc i a b fl r h
        have ih := h6 acc i a b fl r h
        refine Ev.step (fun k => by rw [trickleref52_Attempts.l1]) (Ev.pos (by omega) (Ev.pos (by omega) ?_))
        rw [rd_T55_nat l j hjl]
        refine Ev.const (act_ref _) (Ev.pos hc.1 ?_)
        refine Ev.step (fun k => by rw [trickleref52_Attempts.j2]) (Ev.pos (by simp [hc.2]) ?_)
        rw [wrap_nat (n := l.length) hjl (by omega)]
        exact ih
    · refine ⟨j, by omega, by omega, fun _ ha hb => absurd ⟨ha, hb⟩ hc, fun _ _ => rfl, ?_, ?_⟩
      · intro acc a b fl r h
        refine Ev.step (fun k => by rw [trace_Attempts.l1]) (Ev.pos (by omega) (Ev.pos (by omega) ?_))
        rw [rd_T55_nat l j hjl]
        refine Ev.const (act_impl _) ?_
        by_cases ha : act l[j] = true
        · refine Ev.pos ha ?_
          rw [show (l[j].f2 == task) = false from beq_eq_false_iff_ne.mpr (fun h => hc ⟨ha, h⟩)]
          exact h
        · exact Ev.neg ha h
      · intro acc i a b fl r h
        refine Ev.step (fun k => by rw [trickleref52_Attempts.l1]) (Ev.pos (by omega) (Ev.pos (by omega) ?_))
        rw [rd_T55_nat l j hjl]
        refine Ev.const (act_ref _) ?_
        by_cases ha : act l[j] = true
        · refine Ev.pos ha ?_
          rw [show (l[j].f2 == task) = false from beq_eq_false_iff_ne.mpr (fun h => hc ⟨ha, h⟩)]
          exact h
        · exact Ev.neg ha h
/-- Whether the scan ends at a commit of its task. -/
def endsC (l : List S55) (e : Nat) (task : Int) : Bool := if h : e < l.length then l[e].f0 == 5 && l[e].f2 == task else false
theorem j3_end (l : List S55) (e : Nat) (he : e ≤ l.length) (task a b : Int) (fl : Bool) (acc : List S73) (r : List S73) (h : Ev (fun k => trace_Attempts.j4 k l acc (e : Int) a b task (endsC l e task)) r) : Ev (fun k => trace_Attempts.j3 k l acc (e : Int) false a b task fl) r := by
  refine Ev.step (fun k => by rw [trace_Attempts.j3]) (Ev.neg (by decide) ?_)
  unfold endsC at h
  by_cases hl : e < l.length
  · rw [dif_pos hl] at h
    refine Ev.pos (by omega) (Ev.pos (by omega) ?_)
    rw [rd_T55_nat l e hl]
    by_cases h5 : l[e].f0 = 5
    · rw [show (l[e].f0 == 5) = true from beq_iff_eq.mpr h5, Bool.true_and] at h
      exact Ev.pos h5 h
    · rw [show (l[e].f0 == 5) = false from beq_eq_false_iff_ne.mpr h5, Bool.false_and] at h
      exact Ev.neg h5 h
  · rw [dif_neg hl] at h
    exact Ev.neg (by omega) h
theorem j2_end (l : List S55) (e : Nat) (he : e ≤ l.length) (i task a b : Int) (fl : Bool) (acc : List S76) (r : List S76) (h : Ev (fun k => trickleref52_Attempts.j3 k l acc i (e : Int) a b task (endsC l e task)) r) : Ev (fun k => trickleref52_Attempts.j2 k l acc i (e : Int) false a b task fl) r := by
  refine Ev.step (fun k => by rw [trickleref52_Attempts.j2]) (Ev.neg (by decide) ?_)
  unfold endsC at h
  by_cases hl : e < l.length
  · rw [dif_pos hl] at h
    refine Ev.pos (by omega) (Ev.pos (by omega) ?_)
    rw [rd_T55_nat l e hl]
    by_cases h5 : l[e].f0 = 5
    · rw [show (l[e].f0 == 5) = true from beq_iff_eq.mpr h5, Bool.true_and] at h
      exact Ev.pos h5 h
    · rw [show (l[e].f0 == 5) = false from beq_eq_false_iff_ne.mpr h5, Bool.false_and] at h
      exact Ev.neg h5 h
  · rw [dif_neg hl] at h
    exact Ev.neg (by omega) h
/-- The attempts from a place on: both give the same. -/
def Both (l : List S55) (i : Nat) (out : List At) : Prop :=
  (∀ acc : List S73, acc.length ≤ i → Ev (fun k => trace_Attempts.l0 k l acc (i : Int)) (acc ++ out.map At.to73)) ∧ (∀ acc : List S76, acc.length ≤ i → Ev (fun k => trickleref52_Attempts.l0 k l acc (i : Int)) (acc ++ out.map At.to76)) ∧ out.length + i ≤ l.length
theorem wrap_back {e : Nat} (h : 0 < e) (he : e < 1000) : wrap64 ((e : Int) - 1) = ((e - 1 : Nat) : Int) := by rw [wrap_id (by omega) (by omega)]; omega
theorem both (l : List S55) (hn : l.length < 1000) : ∀ (d i : Nat), l.length ≤ i + d → i ≤ l.length → ∃ out, Both l i out
  | 0, i, hd, hi => ⟨[], fun acc _ => Ev.cast (Ev.step (fun k => by rw [trace_Attempts.l0]) (Ev.neg (by omega) (Ev.now _))) (by simp), fun acc _ => Ev.cast (Ev.step (fun k => by rw [trickleref52_Attempts.l0]) (Ev.neg (by omega) (Ev.now _))) (by simp), by simp; omega⟩
  | d + 1, i, hd, hi => by
    by_cases hil : i < l.length
    case neg => exact ⟨[], fun acc _ => Ev.cast (Ev.step (fun k => by rw [trace_Attempts.l0]) (Ev.neg (by omega) (Ev.now _))) (by simp), fun acc _ => Ev.cast (Ev.step (fun k => by rw [trickleref52_Attempts.l0]) (Ev.neg (by omega) (Ev.now _))) (by simp), by simp; omega⟩
    obtain ⟨e, h1, h2, h3, h4, h5, h6⟩ := scan l hn (l.length - i) i l[i].f2 (by omega)
    -- the two heads of a round
    have hI : ∀ (acc : List S73) (r : List S73), act l[i] = true ∨ l[i].f0 = 5 → Ev (fun k => trace_Attempts.j4 k l acc (e : Int) (i : Int) 0 l[i].f2 (endsC l e l[i].f2)) r → Ev (fun k => trace_Attempts.l0 k l acc (i : Int)) r := by
      intro acc r hs h
      have h7 := h5 acc (i : Int) 0 false r (j3_end l e h2 _ _ _ _ _ _ h)
      refine Ev.step (fun k => by rw [trace_Attempts.l0]) (Ev.pos (by omega) (Ev.pos (by omega) ?_))
      rw [rd_T55_nat l i hil]
      refine Ev.const (act_impl _) ?_
      have h8 : Ev (fun k => trace_Attempts.j1 k l acc (i : Int) false) r := by
        refine Ev.step (fun k => by rw [trace_Attempts.j1]) (Ev.neg (by decide) (Ev.pos (by omega) (Ev.pos (by omega) ?_)))
        rw [rd_T55_nat l i hil]
        exact h7
      by_cases ha : act l[i] = true
      · exact Ev.pos ha h8
      · refine Ev.neg ha ?_
        rw [show (l[i].f0 != 5) = false by simp [hs.resolve_left ha]]
        exact h8
    have hR : ∀ (acc : List S76) (r : List S76), Ev (fun k => trickleref52_Attempts.j3 k l acc (i : Int) (e : Int) (i : Int) 0 l[i].f2 (endsC l e l[i].f2)) r → Ev (fun k => trickleref52_Attempts.l0 k l acc (i : Int)) r := by
      intro acc r h
      have h7 := h6 acc (i : Int) (i : Int) 0 false r (j2_end l e h2 _ _ _ _ _ _ _ h)
      refine Ev.step (fun k => by rw [trickleref52_Attempts.l0]) (Ev.pos (by omega) (Ev.pos (by omega) ?_))
      rw [rd_T55_nat l i hil]
      exact h7
    by_cases hs : act l[i] = true ∨ l[i].f0 = 5
    · by_cases hc : endsC l e l[i].f2 = true
      · have hel : e < l.length := by
          by_cases hl : e < l.length
          · exact hl
          · rw [endsC, dif_neg hl] at hc; cases hc
        obtain ⟨out, o1, o2, o3⟩ := both l hn d (e + 1) (by omega) (by omega)
        refine ⟨⟨(i : Int), (e : Int), l[i].f2, true⟩ :: out, ?_, ?_, by simp only [List.length_cons]; omega⟩
        · intro acc ha
          refine hI acc _ hs ?_
          rw [hc]
          refine Ev.step (fun k => by rw [trace_Attempts.j4]) (Ev.pos rfl (Ev.pos (by omega) ?_))
          rw [wrap_nat (n := l.length) hel (by omega)]
          refine Ev.cast (o1 _ (by simp; omega)) ?_
          rw [List.map_cons, List.append_assoc]
          rfl
        · intro acc ha
          refine hR acc _ ?_
          rw [hc]
          have h9 : Ev (fun k => trickleref52_Attempts.j4 k l acc (i : Int) (e : Int) false (i : Int) 0 l[i].f2 true) (acc ++ List.map At.to76 (⟨(i : Int), (e : Int), l[i].f2, true⟩ :: out)) := by
            refine Ev.step (fun k => by rw [trickleref52_Attempts.j4]) (Ev.neg (by decide) (Ev.pos rfl (Ev.pos (by omega) ?_)))
            rw [wrap_nat (n := l.length) hel (by omega)]
            refine Ev.cast (o2 _ (by simp; omega)) ?_
            rw [List.map_cons, List.append_assoc]
            rfl
          refine Ev.step (fun k => by rw [trickleref52_Attempts.j3]) ?_
          by_cases hei : (e : Int) = (i : Int)
          · exact Ev.pos hei h9
          · exact Ev.neg hei h9
      · have hc' : endsC l e l[i].f2 = false := Bool.eq_false_iff.mpr hc
        have hie : i < e := by
          rcases hs with ha | h55
          · exact h3 hil ha rfl
          · by_cases ha : act l[i] = true
            · exact h3 hil ha rfl
            · have := h4 hil (fun h => ha h.1)
              subst this
              rw [endsC, dif_pos hil, h55] at hc
              simp at hc
        obtain ⟨out, o1, o2, o3⟩ := both l hn d e (by omega) (by omega)
        refine ⟨⟨(i : Int), ((e - 1 : Nat) : Int), l[i].f2, false⟩ :: out, ?_, ?_, by simp only [List.length_cons]; omega⟩
        · intro acc ha
          refine hI acc _ hs ?_
          rw [hc']
          refine Ev.step (fun k => by rw [trace_Attempts.j4]) (Ev.neg (by decide) (Ev.pos (by omega) ?_))
          rw [wrap_back (by omega) (by omega), wrap_nat (n := l.length) (by omega) (by omega), show e - 1 + 1 = e by omega]
          refine Ev.cast (o1 _ (by simp; omega)) ?_
          rw [List.map_cons, List.append_assoc]
          rfl
        · intro acc ha
          refine hR acc _ ?_
          rw [hc']
          refine Ev.step (fun k => by rw [trickleref52_Attempts.j3]) (Ev.neg (by omega) ?_)
          refine Ev.step (fun k => by rw [trickleref52_Attempts.j4]) (Ev.neg (by decide) (Ev.neg (by decide) (Ev.pos (by omega) ?_)))
          rw [wrap_back (by omega) (by omega), wrap_nat (n := l.length) (by omega) (by omega), show e - 1 + 1 = e by omega]
          refine Ev.cast (o2 _ (by simp; omega)) ?_
          rw [List.map_cons, List.append_assoc]
          rfl
    · have hna : ¬ act l[i] = true := fun h => hs (.inl h)
      have hn5 : ¬ l[i].f0 = 5 := fun h => hs (.inr h)
      have hei : e = i := h4 hil (fun h => hna h.1)
      subst hei
      obtain ⟨out, o1, o2, o3⟩ := both l hn d (e + 1) (by omega) (by omega)
      refine ⟨out, ?_, ?_, by omega⟩
      · intro acc ha
        refine Ev.step (fun k => by rw [trace_Attempts.l0]) (Ev.pos (by omega) (Ev.pos (by omega) ?_))
        rw [rd_T55_nat l e hil]
        refine Ev.const (act_impl _) (Ev.neg hna ?_)
        rw [show (l[e].f0 != 5) = true by simp [hn5]]
        refine Ev.step (fun k => by rw [trace_Attempts.j1]) (Ev.pos rfl ?_)
        rw [wrap_nat (n := l.length) hil (by omega)]
        exact o1 acc (by omega)
      · intro acc ha
        refine hR acc _ ?_
        have hc' : endsC l e l[e].f2 = false := by
          rw [endsC, dif_pos hil, beq_eq_false_iff_ne.mpr hn5, Bool.false_and]
        rw [hc']
        refine Ev.step (fun k => by rw [trickleref52_Attempts.j3]) (Ev.pos rfl ?_)
        refine Ev.step (fun k => by rw [trickleref52_Attempts.j4]) (Ev.pos (show (!false) = true from rfl) ?_)
        rw [wrap_nat (n := l.length) hil (by omega)]
        exact o2 acc (by omega)
def aborts (o : List At) : Int := ((o.countP (fun x => !x.d) : Nat) : Int)
theorem aborts_le (o : List At) : 0 ≤ aborts o ∧ aborts o ≤ (o.length : Int) := by
  unfold aborts
  have := List.countP_le_length (p := fun x : At => !x.d) (l := o)
  omega
theorem aborts_take (o : List At) (j : Nat) (h : j < o.length) : aborts (o.take (j + 1)) = if o[j].d = true then aborts (o.take j) else aborts (o.take j) + 1 := by
  rw [take_snoc' o j h]
  unfold aborts
  rw [List.countP_append]
  cases hd : o[j].d <;> simp [hd]
theorem events_loop (l : List S68) (hn : l.length < 1000) : ∀ (d j : Nat) (acc : List S55), j + d = l.length → acc.length ≤ j → Ev (fun k => verify_events.l0 k acc l (l.length : Int) (j : Int)) (acc ++ (l.drop j).map (·.f1))
  | 0, j, acc, hj, ha => by
    refine Ev.step (fun k => by rw [verify_events.l0]) (Ev.neg (by omega) ?_)
    rw [List.drop_of_length_le (by omega), List.map_nil, List.append_nil]
    exact Ev.now _
  | d + 1, j, acc, hj, ha => by
    have hjl : j < l.length := by omega
    refine Ev.step (fun k => by rw [verify_events.l0]) (Ev.pos (by omega) (Ev.pos (by omega) (Ev.pos (by omega) (Ev.pos (by omega) ?_))))
    rw [rd_T68_nat l j hjl, wrap_nat (n := l.length) hjl (by omega), drop_cons l j hjl]
    refine Ev.cast (events_loop l hn d (j + 1) _ (by omega) (by simp; omega)) ?_
    rw [List.map_cons, List.append_assoc]
    rfl
theorem vl_events (l : List S55) : ∀ i, (vl i l).map (·.f1) = l.filter VS := by
  induction l with
  | nil => intro i; rfl
  | cons e r ih =>
    intro i
    rw [vl]
    by_cases h : VS e = true
    · rw [if_pos h, List.filter_cons_of_pos h, List.map_cons, ih]
    · rw [if_neg h, List.filter_cons_of_neg h, ih]
abbrev N9 := Int × Int × Int × Int × Int × Int × Int × Int × Int
theorem sum_l1 (o : List At) (hn : o.length < 1000) (a b c e f g h m : Int) : ∀ (d j : Nat), j + d = o.length → Ev (fun k => verify_Summarize.l1 k (o.map At.to73) ((o.map At.to73).length : Int) (j : Int) a b c (aborts (o.take j)) e f g h m) ((a, b, c, aborts o, e, f, g, h, m) : N9)
  | 0, j, hj => by
    refine Ev.step (fun k => by rw [verify_Summarize.l1]) (Ev.neg (by rw [List.length_map]; omega) ?_)
    rw [List.take_of_length_le (by omega)]
    exact Ev.now _
  | d + 1, j, hj => by
    have hjo : j < o.length := by omega
    have hjl : j < (o.map At.to73).length := by rw [List.length_map]; exact hjo
    have ih := sum_l1 o hn a b c e f g h m d (j + 1) (by omega)
    rw [aborts_take o j hjo] at ih
    have hle := aborts_le (o.take j)
    rw [List.length_take] at hle
    refine Ev.step (fun k => by rw [verify_Summarize.l1]) (Ev.pos (by omega) (Ev.pos (by omega) (Ev.pos (by omega) ?_)))
    rw [rd_T73_nat _ j hjl, wrap_nat (n := o.length) hjo (by omega), wrap_id (i := aborts (o.take j) + 1) (by omega) (by omega), List.getElem_map]
    by_cases hd : o[j].d = true
    · rw [if_pos hd] at ih
      exact Ev.pos hd ih
    · rw [if_neg hd] at ih
      exact Ev.neg hd ih
theorem sum_l0 (x4 l : List S68) (hn : l.length < 1000) (hx : x4.length < 1000) (o : List At) (ho : o.length < 1000) (hat : Ev (fun k => trace_Attempts.f k (x4.map (·.f1))) (o.map At.to73)) : ∀ (d j : Nat) (b : List S55), j + d = l.length → b = (l.take j).map (·.f1) → Ev (fun k => verify_Summarize.l0 k x4 l (l.length : Int) (j : Int) (cnt b 1) (cnt b 2) (cnt b 5) 0 (cnt b 6) (cnt b 7) (cnt b 8) (cnt b 9) (cnt b 11)) ((cnt (l.map (·.f1)) 1, cnt (l.map (·.f1)) 2, cnt (l.map (·.f1)) 5, aborts o, cnt (l.map (·.f1)) 6, cnt (l.map (·.f1)) 7, cnt (l.map (·.f1)) 8, cnt (l.map (·.f1)) 9, cnt (l.map (·.f1)) 11) : N9)
  | 0, j, b, hj, hb => by
    refine Ev.step (fun k => by rw [verify_Summarize.l0]) (Ev.neg (by omega) ?_)
    rw [List.take_of_length_le (by omega)] at hb
    rw [hb]
    have hev := events_loop x4 hx x4.length 0 [] (by omega) (by simp)
    refine Ev.bind (a := x4.map (·.f1)) (Ev.congr (fun k => by rw [verify_events.f]) (by simpa using hev)) (Ev.bind hat ?_)
    have h := sum_l1 o ho (cnt (l.map (·.f1)) 1) (cnt (l.map (·.f1)) 2) (cnt (l.map (·.f1)) 5) (cnt (l.map (·.f1)) 6) (cnt (l.map (·.f1)) 7) (cnt (l.map (·.f1)) 8) (cnt (l.map (·.f1)) 9) (cnt (l.map (·.f1)) 11) o.length 0 (by omega)
    exact h
  | d + 1, j, b, hj, hb => by
    have hjl : j < l.length := by omega
    have hbl : b.length = j := by rw [hb, List.length_map, List.length_take]; omega
    have hb2 : b ++ [l[j].f1] = (l.take (j + 1)).map (·.f1) := by rw [take_snoc' l j hjl, List.map_append, hb]; rfl
    have ih := sum_l0 x4 l hn hx o ho hat d (j + 1) (b ++ [l[j].f1]) (by omega) hb2
    have w : ∀ q, wrap64 (cnt b q + 1) = cnt b q + 1 := fun q => by have := cnt_le b q; exact wrap_id (by omega) (by omega)
    refine Ev.step (fun k => by rw [verify_Summarize.l0]) (Ev.pos (by omega) (Ev.pos (by omega) (Ev.pos (by omega) ?_)))
    rw [rd_T68_nat l j hjl, wrap_nat (n := l.length) hjl (by omega)]
    simp only [cnt_snoc] at ih
    simp only [w]
    generalize l[j].f1.f0 = q at ih ⊢
    by_cases h1 : q = 1
    · subst h1; exact Ev.pos rfl ih
    refine Ev.neg h1 ?_
    by_cases h2 : q = 2
    · subst h2; exact Ev.pos rfl ih
    refine Ev.neg h2 ?_
    by_cases h5 : q = 5
    · subst h5; exact Ev.pos rfl ih
    refine Ev.neg h5 ?_
    by_cases h6 : q = 6
    · subst h6; exact Ev.pos rfl ih
    refine Ev.neg h6 ?_
    by_cases h7 : q = 7
    · subst h7; exact Ev.pos rfl ih
    refine Ev.neg h7 ?_
    by_cases h8 : q = 8
    · subst h8; exact Ev.pos rfl ih
    refine Ev.neg h8 ?_
    by_cases h9 : q = 9
    · subst h9; exact Ev.pos rfl ih
    refine Ev.neg h9 ?_
    by_cases h11 : q = 11
    · subst h11; exact Ev.pos rfl ih
    refine Ev.neg h11 ?_
    simp only [if_neg h1, if_neg h2, if_neg h5, if_neg h6, if_neg h7, if_neg h8, if_neg h9, if_neg h11] at ih
    exact ih
def nine (v : List S55) (o : List At) : List Int := [cnt v 1, cnt v 2, cnt v 5, aborts o, cnt v 6, cnt v 7, cnt v 8, cnt v 9, cnt v 11]
theorem num_l0 (v : List S55) (hn : v.length < 1000) (o : List At) (ho : o.length < 1000) : ∀ (d j : Nat), j + d = o.length → Ev (fun k => trickleref55_Numbers.l0 k v (aborts (o.take j)) (o.map At.to76) (j : Int)) (nine v o)
  | 0, j, hj => by
    refine Ev.step (fun k => by rw [trickleref55_Numbers.l0]) (Ev.neg (by rw [List.length_map]; omega) ?_)
    rw [List.take_of_length_le (by omega)]
    exact Ev.bind (count_ev v 1 hn) (Ev.bind (count_ev v 2 hn) (Ev.bind (count_ev v 5 hn) (Ev.bind (count_ev v 6 hn) (Ev.bind (count_ev v 7 hn) (Ev.bind (count_ev v 8 hn) (Ev.bind (count_ev v 9 hn) (Ev.bind (count_ev v 11 hn) (Ev.now _))))))))
  | d + 1, j, hj => by
    have hjo : j < o.length := by omega
    have hjl : j < (o.map At.to76).length := by rw [List.length_map]; exact hjo
    have ih := num_l0 v hn o ho d (j + 1) (by omega)
    rw [aborts_take o j hjo] at ih
    have hle := aborts_le (o.take j)
    rw [List.length_take] at hle
    refine Ev.step (fun k => by rw [trickleref55_Numbers.l0]) (Ev.pos (by omega) (Ev.pos (by omega) ?_))
    rw [rd_T76_nat _ j hjl, wrap_nat (n := o.length) hjo (by omega), wrap_id (i := aborts (o.take j) + 1) (by omega) (by omega), List.getElem_map]
    by_cases hd : o[j].d = true
    · rw [if_pos hd] at ih
      exact Ev.pos hd ih
    · rw [if_neg hd] at ih
      exact Ev.neg hd ih
theorem same11_loop (l : List Int) (hn : l.length < 1000) : ∀ (d j : Nat), j + d = l.length → Ev (fun k => trickleref11_Same.l0 k l l (j : Int)) true
  | 0, j, hj => Ev.step (fun k => by rw [trickleref11_Same.l0]) (Ev.neg (by omega) (Ev.now _))
  | d + 1, j, hj => by
    refine Ev.step (fun k => by rw [trickleref11_Same.l0]) (Ev.pos (by omega) (Ev.pos (by omega) (Ev.pos (by omega) (Ev.pos rfl ?_))))
    rw [wrap_nat (n := l.length) (by omega) (by omega)]
    exact same11_loop l hn d (j + 1) (by omega)
theorem same11_ev (l : List Int) (hn : l.length < 1000) : Ev (fun k => trickleref11_Same.f k l l) true :=
  Ev.congr (f := fun k => trickleref11_Same.l0 k l l ((0 : Nat) : Int)) (fun k => by rw [trickleref11_Same.f, if_pos rfl]; rfl) (same11_loop l hn l.length 0 (by omega))
theorem name_eq (a : Int) : ∃ n, verify_Name.f a = some n ∧ trickleref55_Name.f a = some n := by
  by_cases h : 0 ≤ a ∧ a < 6
  · obtain ⟨k, rfl⟩ := Int.eq_ofNat_of_zero_le h.1
    match k, h with
    | 0, _ => exact ⟨_, rfl, rfl⟩
    | 1, _ => exact ⟨_, rfl, rfl⟩
    | 2, _ => exact ⟨_, rfl, rfl⟩
    | 3, _ => exact ⟨_, rfl, rfl⟩
    | 4, _ => exact ⟨_, rfl, rfl⟩
    | 5, _ => exact ⟨_, rfl, rfl⟩
    | k + 6, h => omega
  · refine ⟨⟨#[]⟩, ?_, ?_⟩
    · unfold verify_Name.f
      rw [Option.bind_some]
      by_cases h0 : a < 0
      · rw [if_pos h0]
      · rw [if_neg h0, if_pos (by simp only [List.length_cons, List.length_nil]; omega)]
    · unfold trickleref55_Name.f
      rw [if_neg (by omega), if_neg (by omega), if_neg (by omega), if_neg (by omega), if_neg (by omega)]
end Go.Proofs.YtakkifbcaedcoaaDoor.PX
namespace Go.Proofs.YtakkifbcaedcoaaDoor.Pure
open Go.RowKit Go.Proofs.YtakkifbcaedcoaaDoor.PX Go.Proofs.YtakkifbcaedcoaaDoorW.PrintWords Go.Proofs.YtakkifbcaedcoaaDoorW.PrintLast
theorem VerifySummary (l0 : List S55) (a1 : Int) (hw : ∀ x ∈ l0, Wf55 x) : ∃ k, tricklelaw55_VerifySummary.f k l0 a1 = some true := by
  refine Ev.rounds (Ev.congr (fun k => by rw [tricklelaw55_VerifySummary.f]) (Ev.const wakes55 (Ev.pos rfl ?_)))
  by_cases h : (l0.length : Int) > 90
  · exact Ev.pos h (Ev.now _)
  refine Ev.neg h ?_
  have h1 := vl_le l0 0
  have hfl := List.length_filter_le VS l0
  obtain ⟨o, o1, o2, o3⟩ := both (l0.filter VS) (by omega) (l0.filter VS).length 0 (by omega) (by omega)
  have hat : Ev (fun k => trace_Attempts.f k ((vl 0 l0).map (·.f1))) (o.map At.to73) := by
    rw [vl_events]
    exact Ev.congr (f := fun k => trace_Attempts.l0 k (l0.filter VS) [] ((0 : Nat) : Int)) (fun k => rfl) (o1 [] (by simp))
  have hs := sum_l0 (vl 0 l0) (vl 0 l0) (by omega) (by omega) o (by omega) hat (vl 0 l0).length 0 [] (by omega) rfl
  rw [vl_events] at hs
  obtain ⟨at_, hix⟩ := indexed_ev l0 hw (by omega)
  have hnum := num_l0 (l0.filter VS) (by omega) o (by omega) o.length 0 (by omega)
  obtain ⟨n, n1, n2⟩ := name_eq a1
  refine Ev.bind (Ev.congr (fun k => by rw [verify_Summarize.f]) (Ev.bind (validl_ev l0 hw (by omega)) hs)) ?_
  refine Ev.bind (a := nine (l0.filter VS) o) (Ev.congr (fun k => by rw [trickleref55_Numbers.f]) (Ev.bind hix (Ev.bind (a := o.map At.to76) (Ev.congr (f := fun k => trickleref52_Attempts.l0 k (l0.filter VS) [] ((0 : Nat) : Int)) (fun k => rfl) (o2 [] (by simp))) hnum))) ?_
  refine Ev.bind (same11_ev (nine (l0.filter VS) o) (by simp [nine])) (Ev.pos rfl (Ev.const n1 (Ev.const n2 (Ev.cast (Ev.now _) ?_))))
  exact beq_self_eq_true _
end Go.Proofs.YtakkifbcaedcoaaDoor.Pure
