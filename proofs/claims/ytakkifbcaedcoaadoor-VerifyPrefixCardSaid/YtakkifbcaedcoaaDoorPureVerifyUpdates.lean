/- VerifyUpdates in plain words: both Updates follow the version of the valid boots and updates, and Same holds. -/
import Derived.Test.YtakkifbcaedcoaaDoorPXx11
import Derived.Test.YtakkifbcaedcoaaDoorPu1
namespace Go.Proofs.YtakkifbcaedcoaaDoor.PX
open Go.RowKit Go.Proofs.YtakkifbcaedcoaaDoorW.PrintWords Go.Proofs.YtakkifbcaedcoaaDoorW.PrintLast Go.Proofs.YtakkifbcaedcoaaDoorW.PrintMore
set_option linter.unusedVariables false
set_option linter.unusedSimpArgs false
theorem rd_T68_nat (xs : List S68) (j : Nat) (h : j < xs.length) : rd_T68 xs (j : Int) = xs[j] := getD_nat xs z68 j h
/-- The valid events with their places. -/
def vl : Int → List S55 → List S68
  | _, [] => []
  | i, e :: r => if VS e = true then ⟨i, e⟩ :: vl (i + 1) r else vl (i + 1) r
theorem vl_le (l : List S55) : ∀ i, (vl i l).length ≤ l.length := by
  induction l with
  | nil => intro i; simp [vl]
  | cons e r ih =>
    intro i
    rw [vl]
    have := ih (i + 1)
    split <;> simp only [List.length_cons] <;> omega
theorem valid_some' (e : S55) (hw : Wf55 e) : trace_Valid.f e.f0 e.f1 e.f2 e.f3 e.f4 e.f5 = some (VS e) := vS_impl e hw
theorem validl_loop (l : List S55) (hw : ∀ x ∈ l, Wf55 x) (hn : l.length < 1000) : ∀ (d j : Nat) (acc : List S68), j + d = l.length → acc.length ≤ j → Ev (fun k => verify_valid.l0 k acc l (l.length : Int) (j : Int)) (acc ++ vl (j : Int) (l.drop j))
  | 0, j, acc, hj, ha => by
    refine Ev.step (fun k => by rw [verify_valid.l0]) (Ev.neg (by omega) ?_)
    rw [List.drop_of_length_le (by omega), vl, List.append_nil]
    exact Ev.now _
  | d + 1, j, acc, hj, ha => by
    have hjl : j < l.length := by omega
    have ih := fun acc2 ha2 => validl_loop l hw hn d (j + 1) acc2 (by omega) ha2
    refine Ev.step (fun k => by rw [verify_valid.l0]) (Ev.pos (by omega) (Ev.pos (by omega) (Ev.pos (by omega) ?_)))
    rw [rd_T55_nat l j hjl, wrap_nat (n := l.length) (by omega) (by omega), drop_cons l j hjl, vl]
    refine Ev.const (vS_impl l[j] (hw _ (List.getElem_mem _))) ?_
    by_cases h : VS l[j] = true
    · rw [if_pos h]
      refine Ev.pos h (Ev.pos (by omega) (Ev.cast (ih _ (by simp; omega)) ?_))
      rw [List.append_assoc]
      rfl
    · rw [if_neg h]
      exact Ev.neg h (ih _ (by omega))
theorem validl_ev (l : List S55) (hw : ∀ x ∈ l, Wf55 x) (hn : l.length < 1000) : Ev (fun k => verify_valid.f k l) (vl 0 l) :=
  validl_loop l hw hn l.length 0 [] (by omega) (by simp)
def viol (kn : Bool) (v : Int) (e : S55) : Bool := kn && ((e.f0 == 1 && e.f3 != v) || (e.f0 == 10 && decide (e.f3 ≤ v)))
def updF : Bool → Int → List S68 → List S32
  | _, _, [] => []
  | kn, v, x :: r => if x.f1.f0 = 1 ∨ x.f1.f0 = 10 then (if viol kn v x.f1 = true then [⟨x.f0, 5⟩] else []) ++ updF true x.f1.f3 r else updF kn v r
theorem updF_le (l : List S68) : ∀ kn v, (updF kn v l).length ≤ l.length := by
  induction l with
  | nil => intro kn v; simp [updF]
  | cons x r ih =>
    intro kn v
    rw [updF]
    have h1 := ih true x.f1.f3
    have h2 := ih kn v
    split
    · split <;> simp only [List.length_append, List.length_cons, List.length_nil] <;> omega
    · simp only [List.length_cons]; omega
theorem updates_loop (l : List S68) (hn : l.length < 1000) : ∀ (d j : Nat) (acc : List S32) (v : Int) (kn : Bool), j + d = l.length → acc.length ≤ j → Ev (fun k => verify_Updates.l0 k acc v kn l (l.length : Int) (j : Int)) (acc ++ updF kn v (l.drop j))
  | 0, j, acc, v, kn, hj, ha => by
    refine Ev.step (fun k => by rw [verify_Updates.l0]) (Ev.neg (by omega) ?_)
    rw [List.drop_of_length_le (by omega), updF, List.append_nil]
    exact Ev.now _
  | d + 1, j, acc, v, kn, hj, ha => by
    have hjl : j < l.length := by omega
    have ih := fun acc2 v2 kn2 ha2 => updates_loop l hn d (j + 1) acc2 v2 kn2 (by omega) ha2
    refine Ev.step (fun k => by rw [verify_Updates.l0]) (Ev.pos (by omega) (Ev.pos (by omega) (Ev.pos (by omega) ?_)))
    rw [rd_T68_nat l j hjl, wrap_nat (n := l.length) (by omega) (by omega), drop_cons l j hjl, updF]
    have put : ∀ (b : Bool), viol kn v l[j].f1 = b → Ev (fun k => verify_Updates.l0 k (acc ++ (if b = true then [⟨l[j].f0, 5⟩] else [])) l[j].f1.f3 true l (l.length : Int) ((j + 1 : Nat) : Int)) (acc ++ ((if viol kn v l[j].f1 = true then [⟨l[j].f0, 5⟩] else []) ++ updF true l[j].f1.f3 (l.drop (j + 1)))) := by
      intro b hb
      rw [hb, ← List.append_assoc]
      exact ih _ _ _ (by cases b <;> simp <;> omega)
    by_cases h1 : l[j].f1.f0 = 1
    · rw [if_pos (.inl h1)]
      refine Ev.pos h1 ?_
      cases kn with
      | false => exact Ev.neg (by decide) (by simpa using put false (by simp [viol]))
      | true =>
        refine Ev.pos rfl ?_
        by_cases h3 : l[j].f1.f3 = v
        · exact Ev.pos h3 (by simpa using put false (by simp [viol, h1, h3]))
        · exact Ev.neg h3 (Ev.pos (by omega) (by simpa using put true (by simp [viol, h1, h3])))
    refine Ev.neg h1 ?_
    by_cases h2 : l[j].f1.f0 = 10
    · rw [if_pos (.inr h2)]
      refine Ev.pos h2 ?_
      cases kn with
      | false => exact Ev.neg (by decide) (by simpa using put false (by simp [viol]))
      | true =>
        refine Ev.pos rfl ?_
        by_cases h3 : l[j].f1.f3 ≤ v
        · exact Ev.pos h3 (Ev.pos (by omega) (by simpa using put true (by simp [viol, h2, h3])))
        · exact Ev.neg h3 (by simpa using put false (by simp [viol, h2]; omega))
    rw [if_neg (fun h => h.elim h1 h2)]
    exact Ev.neg h2 (ih _ _ _ (by omega))
theorem updates_ev (l : List S55) (hw : ∀ x ∈ l, Wf55 x) (hn : l.length < 1000) : Ev (fun k => verify_Updates.f k l) (updF false 0 (vl 0 l)) := by
  have hle := vl_le l 0
  have h := updates_loop (vl 0 l) (by omega) (vl 0 l).length 0 [] 0 false (by omega) (by simp)
  exact Ev.congr (fun k => by rw [verify_Updates.f]) (Ev.bind (validl_ev l hw hn) h)
def refU : Bool → Int → Int → List S55 → List S33
  | _, _, _, [] => []
  | kn, v, i, e :: r => if VS e = true ∧ (e.f0 = 1 ∨ e.f0 = 10) then (if viol kn v e = true then [⟨i, 5⟩] else []) ++ refU true e.f3 (i + 1) r else refU kn v (i + 1) r
theorem upd_eq (l : List S55) : ∀ (kn : Bool) (v i : Int), (updF kn v (vl i l)).map to33 = refU kn v i l := by
  induction l with
  | nil => intro kn v i; rfl
  | cons e r ih =>
    intro kn v i
    rw [vl, refU]
    by_cases h : VS e = true
    · rw [if_pos h, updF]
      show List.map to33 (if e.f0 = 1 ∨ e.f0 = 10 then (if viol kn v e = true then [⟨i, 5⟩] else []) ++ updF true e.f3 (vl (i + 1) r) else updF kn v (vl (i + 1) r)) = _
      by_cases hk : e.f0 = 1 ∨ e.f0 = 10
      · rw [if_pos hk, if_pos (show VS e = true ∧ (e.f0 = 1 ∨ e.f0 = 10) from ⟨h, hk⟩), List.map_append, ih]
        cases viol kn v e <;> rfl
      · rw [if_neg hk, if_neg (show ¬ (VS e = true ∧ (e.f0 = 1 ∨ e.f0 = 10)) from fun h2 => hk h2.2), ih]
    · rw [if_neg h, if_neg (show ¬ (VS e = true ∧ (e.f0 = 1 ∨ e.f0 = 10)) from fun h2 => h h2.1), ih]
theorem refU_j2 (l : List S55) (e : S55) (acc : List S33) (j : Nat) (hj : j < l.length) (hn : l.length < 1000) (ha : acc.length ≤ j) (b : Bool) (rest : List S33) (ih : ∀ acc2 : List S33, acc2.length ≤ j + 1 → Ev (fun k => trickleref55_Updates.l0 k l acc2 true e.f3 ((j + 1 : Nat) : Int)) (acc2 ++ rest)) :
    Ev (fun k => trickleref55_Updates.j2 k l acc (j : Int) b e.f0 e.f1 e.f2 e.f3 e.f4 e.f5) (acc ++ ((if b = true then [⟨(j : Int), 5⟩] else []) ++ rest)) := by
  refine Ev.step (fun k => by rw [trickleref55_Updates.j2]) ?_
  rw [wrap_nat (n := l.length) hj (by omega)]
  cases b with
  | true => exact Ev.pos rfl (Ev.pos (by omega) (Ev.cast (ih _ (by simp; omega)) (by simp)))
  | false => exact Ev.neg (by decide) (ih _ (by omega))
theorem refU_loop (l : List S55) (hw : ∀ x ∈ l, Wf55 x) (hn : l.length < 1000) : ∀ (d j : Nat) (acc : List S33) (kn : Bool) (v : Int), j + d = l.length → acc.length ≤ j → Ev (fun k => trickleref55_Updates.l0 k l acc kn v (j : Int)) (acc ++ refU kn v (j : Int) (l.drop j))
  | 0, j, acc, kn, v, hj, ha => by
    refine Ev.step (fun k => by rw [trickleref55_Updates.l0]) (Ev.neg (by omega) ?_)
    rw [List.drop_of_length_le (by omega), refU, List.append_nil]
    exact Ev.now _
  | d + 1, j, acc, kn, v, hj, ha => by
    have hjl : j < l.length := by omega
    have ih := fun acc2 kn2 v2 ha2 => refU_loop l hw hn d (j + 1) acc2 kn2 v2 (by omega) ha2
    refine Ev.step (fun k => by rw [trickleref55_Updates.l0]) (Ev.pos (by omega) (Ev.pos (by omega) ?_))
    rw [rd_T55_nat l j hjl, drop_cons l j hjl, refU]
    refine Ev.bind (vS_ref l[j] (hw _ (List.getElem_mem _))) ?_
    have skip : ¬ (VS l[j] = true ∧ (l[j].f0 = 1 ∨ l[j].f0 = 10)) → Ev (fun k => trickleref55_Updates.j1 k l acc kn v (j : Int) true l[j].f0 l[j].f1 l[j].f2 l[j].f3 l[j].f4 l[j].f5) (acc ++ refU kn v ((j : Int) + 1) (l.drop (j + 1))) := by
      intro _
      refine Ev.step (fun k => by rw [trickleref55_Updates.j1]) (Ev.pos rfl ?_)
      rw [wrap_nat (n := l.length) hjl (by omega)]
      exact ih _ _ _ (by omega)
    have go : (l[j].f0 = 1 ∨ l[j].f0 = 10) → Ev (fun k => trickleref55_Updates.j1 k l acc kn v (j : Int) false l[j].f0 l[j].f1 l[j].f2 l[j].f3 l[j].f4 l[j].f5) (acc ++ ((if viol kn v l[j] = true then [⟨(j : Int), 5⟩] else []) ++ refU true l[j].f3 ((j : Int) + 1) (l.drop (j + 1)))) := by
      intro hk
      refine Ev.step (fun k => by rw [trickleref55_Updates.j1]) (Ev.neg (by decide) ?_)
      have done : ∀ b : Bool, viol kn v l[j] = b → Ev (fun k => trickleref55_Updates.j2 k l acc (j : Int) b l[j].f0 l[j].f1 l[j].f2 l[j].f3 l[j].f4 l[j].f5) (acc ++ ((if viol kn v l[j] = true then [⟨(j : Int), 5⟩] else []) ++ refU true l[j].f3 ((j : Int) + 1) (l.drop (j + 1)))) := by
        intro b hb
        rw [hb]
        exact refU_j2 l l[j] acc j hjl hn ha b _ (fun acc2 ha2 => ih acc2 true _ ha2)
      cases kn with
      | false => exact Ev.neg (by decide) (done false (by simp [viol]))
      | true =>
        refine Ev.pos rfl ?_
        by_cases h1 : l[j].f0 = 1
        · refine Ev.pos h1 ?_
          have h10 : ¬ l[j].f0 = 10 := by omega
          by_cases h3 : l[j].f3 = v
          · exact Ev.pos h3 (Ev.neg h10 (done false (by simp [viol, h1, h3])))
          · exact Ev.neg h3 (done true (by simp [viol, h1, h3]))
        · have h10 : l[j].f0 = 10 := hk.resolve_left h1
          exact Ev.neg h1 (Ev.pos h10 (done _ (by simp [viol, h10])))
    by_cases h : VS l[j] = true
    · refine Ev.pos h ?_
      by_cases h1 : l[j].f0 = 1
      · rw [if_pos ⟨h, .inl h1⟩]
        exact Ev.pos h1 (go (.inl h1))
      · refine Ev.neg h1 ?_
        by_cases h10 : l[j].f0 = 10
        · rw [if_pos ⟨h, .inr h10⟩, show (l[j].f0 != 10) = false by simp [h10]]
          exact go (.inr h10)
        · have hno : ¬ (VS l[j] = true ∧ (l[j].f0 = 1 ∨ l[j].f0 = 10)) := fun h2 => h2.2.elim h1 h10
          rw [if_neg hno, show (l[j].f0 != 10) = true by simp [h10]]
          exact skip hno
    · have hno : ¬ (VS l[j] = true ∧ (l[j].f0 = 1 ∨ l[j].f0 = 10)) := fun h2 => h h2.1
      rw [if_neg hno]
      exact Ev.neg h (skip hno)
theorem refU_ev (l : List S55) (hw : ∀ x ∈ l, Wf55 x) (hn : l.length < 1000) : Ev (fun k => trickleref55_Updates.f k l) (refU false 0 0 l) :=
  refU_loop l hw hn l.length 0 [] false 0 (by omega) (by simp)
end Go.Proofs.YtakkifbcaedcoaaDoor.PX
namespace Go.Proofs.YtakkifbcaedcoaaDoor.Pure
open Go.RowKit Go.Proofs.YtakkifbcaedcoaaDoor.PX Go.Proofs.YtakkifbcaedcoaaDoorW.PrintWords Go.Proofs.YtakkifbcaedcoaaDoorW.PrintLast
theorem VerifyUpdates (l0 : List S55) (hw : ∀ x ∈ l0, Wf55 x) : ∃ k, tricklelaw55_VerifyUpdates.f k l0 = some true := by
  refine Ev.rounds (Ev.congr (fun k => by rw [tricklelaw55_VerifyUpdates.f]) (Ev.const wakes55 (Ev.pos rfl ?_)))
  by_cases h : (l0.length : Int) > 90
  · exact Ev.pos h (Ev.now _)
  refine Ev.neg h ?_
  have h1 := vl_le l0 0
  have h2 := updF_le (vl 0 l0) false 0
  have hp := upd_eq l0 false 0 0
  have hlen : (refU false 0 0 l0).length < 8796093022208 := by rw [← hp, List.length_map]; omega
  have hpl := plain_ev (updF false 0 (vl 0 l0)) (by omega)
  rw [hp] at hpl
  exact Ev.bind (updates_ev l0 hw (by omega)) (Ev.bind hpl (Ev.bind (refU_ev l0 hw (by omega)) (Ev.bind (same_ev _ hlen) (Ev.now _))))
end Go.Proofs.YtakkifbcaedcoaaDoor.Pure
