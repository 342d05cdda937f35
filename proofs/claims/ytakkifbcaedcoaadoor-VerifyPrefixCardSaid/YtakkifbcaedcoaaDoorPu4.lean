/- The two Sequence rules give the same violations: the machine's state against the reference's look at all earlier valid events. -/
import Derived.Test.YtakkifbcaedcoaaDoorPu3
import Derived.Test.YtakkifbcaedcoaaDoorMAllowed
namespace Go.Proofs.YtakkifbcaedcoaaDoor.PX
open Go.RowKit Go.Proofs.YtakkifbcaedcoaaDoorW.PrintWords Go.Proofs.YtakkifbcaedcoaaDoorW.PrintLast Go.Proofs.YtakkifbcaedcoaaDoorW.PrintMore
set_option linter.unusedVariables false
set_option linter.unusedSimpArgs false
def to33 (v : S32) : S33 := ⟨v.f0, v.f1⟩
def cnt (l : List S55) (q : Int) : Int := ((l.countP (fun e => e.f0 == q) : Nat) : Int)
theorem cnt_snoc (l : List S55) (e : S55) (q : Int) : cnt (l ++ [e]) q = if e.f0 = q then cnt l q + 1 else cnt l q := by
  unfold cnt
  rw [List.countP_append]
  by_cases h : e.f0 = q
  · simp [h]
  · simp [h]
theorem cnt_le (l : List S55) (q : Int) : 0 ≤ cnt l q ∧ cnt l q ≤ (l.length : Int) := by
  unfold cnt
  have := List.countP_le_length (p := fun e : S55 => e.f0 == q) (l := l)
  omega
def lastM (m : Mc) : S55 := ⟨m.l0, m.l1, m.l2, m.l3, m.l4, m.l5⟩
set_option maxHeartbeats 4000000 in
theorem allowB_eq (m : Mc) (e : S55) (h1 : 1 ≤ e.f0) (h2 : e.f0 < 13) : allowB m e = sw m.on m.run (lastM m) e := by
  obtain ⟨e0, e1, e2, e3, e4, e5⟩ := e
  obtain ⟨on, run, a0, a1, a2, a3, a4, a5, lat⟩ := m
  simp only at h1 h2
  obtain ⟨k, rfl⟩ := Int.eq_ofNat_of_zero_le (show 0 ≤ e0 by omega)
  match k, h1, h2 with
  | 1, _, _ =>
    cases on <;> simp [allowB, verify_machine_allowed.f, verify_machine_allowed.j0, verify_machine_allowed.j1, verify_machine_allowed.j2, verify_machine_allowed.j3, sw, lastM]
  | 2, _, _ =>
    cases on <;> simp [allowB, verify_machine_allowed.f, verify_machine_allowed.j0, verify_machine_allowed.j1, verify_machine_allowed.j2, verify_machine_allowed.j3, sw, lastM]
  | 3, _, _ =>
    cases on <;> simp [allowB, verify_machine_allowed.f, verify_machine_allowed.j0, verify_machine_allowed.j1, verify_machine_allowed.j2, verify_machine_allowed.j3, sw, lastM]
  | 4, _, _ =>
    cases on <;> simp [allowB, verify_machine_allowed.f, verify_machine_allowed.j0, verify_machine_allowed.j1, verify_machine_allowed.j2, verify_machine_allowed.j3, sw, lastM]
  | 5, _, _ =>
    cases on <;> simp [allowB, verify_machine_allowed.f, verify_machine_allowed.j0, verify_machine_allowed.j1, verify_machine_allowed.j2, verify_machine_allowed.j3, sw, lastM]
  | 6, _, _ =>
    cases on
    · simp [allowB, verify_machine_allowed.f, verify_machine_allowed.j0, verify_machine_allowed.j1, verify_machine_allowed.j2, verify_machine_allowed.j3, sw, lastM]
    · simp [allowB, verify_machine_allowed.f, verify_machine_allowed.j0, verify_machine_allowed.j1, verify_machine_allowed.j2, verify_machine_allowed.j3, sw, lastM]
      by_cases hr : run = e2
      · subst hr; by_cases hp : a0 = 5 <;> by_cases hq : run < 0 <;> simp [hp, hq]
      · by_cases hp : a0 = 5 <;> by_cases hq : run < 0 <;> simp [hr, hp, hq]
  | 7, _, _ =>
    cases on <;> simp [allowB, verify_machine_allowed.f, verify_machine_allowed.j0, verify_machine_allowed.j1, verify_machine_allowed.j2, verify_machine_allowed.j3, sw, lastM]
  | 8, _, _ =>
    cases on <;> simp [allowB, verify_machine_allowed.f, verify_machine_allowed.j0, verify_machine_allowed.j1, verify_machine_allowed.j2, verify_machine_allowed.j3, sw, lastM]
  | 9, _, _ =>
    cases on
    · simp [allowB, verify_machine_allowed.f, verify_machine_allowed.j0, verify_machine_allowed.j1, verify_machine_allowed.j2, verify_machine_allowed.j3, sw, lastM]
    · simp [allowB, verify_machine_allowed.f, verify_machine_allowed.j0, verify_machine_allowed.j1, verify_machine_allowed.j2, verify_machine_allowed.j3, sw, lastM]
      by_cases hr : run = e2
      · subst hr; by_cases hp : a0 = 5 <;> by_cases hq : run < 0 <;> simp [hp, hq]
      · by_cases hp : a0 = 5 <;> by_cases hq : run < 0 <;> simp [hr, hp, hq]
  | 10, _, _ =>
    cases on <;> simp [allowB, verify_machine_allowed.f, verify_machine_allowed.j0, verify_machine_allowed.j1, verify_machine_allowed.j2, verify_machine_allowed.j3, sw, lastM]
  | 11, _, _ =>
    cases on <;> simp [allowB, verify_machine_allowed.f, verify_machine_allowed.j0, verify_machine_allowed.j1, verify_machine_allowed.j2, verify_machine_allowed.j3, sw, lastM]
  | 12, _, _ =>
    cases on <;> simp [allowB, verify_machine_allowed.f, verify_machine_allowed.j0, verify_machine_allowed.j1, verify_machine_allowed.j2, verify_machine_allowed.j3, sw, lastM]
  | k + 13, _, h => omega
theorem state_st (l : List S55) : ∀ (m : Mc) (s : Bool × Int), m.on = s.1 → m.run = s.2 → (l.foldl stepM m).on = (l.foldl stStep s).1 ∧ (l.foldl stepM m).run = (l.foldl stStep s).2 := by
  induction l with
  | nil => exact fun m s h1 h2 => ⟨h1, h2⟩
  | cons e r ih =>
    intro m s h1 h2
    rw [List.foldl_cons, List.foldl_cons]
    exact ih _ _ (by simp only [stepM, stStep, h1]) (by simp only [stepM, stStep, h2])
theorem last_st (l : List S55) : lastM (l.foldl stepM m00) = lastE l := by
  rcases List.eq_nil_or_concat l with rfl | ⟨r, e, rfl⟩
  · rfl
  · rw [List.concat_eq_append, List.foldl_append, lastE, List.getLast?_append]
    rfl
theorem lat_st (l : List S55) (x : Int) : ∀ (m : Mc), (l.foldl stepM m).lat ≤ x ↔ (m.lat ≤ x ∧ l.all (fun y => decide (y.f1 ≤ x)) = true) := by
  induction l with
  | nil => simp
  | cons e r ih =>
    intro m
    rw [List.foldl_cons, ih, List.all_cons, Bool.and_eq_true, decide_eq_true_eq]
    have : (stepM m e).lat = mx m.lat e.f1 := rfl
    rw [this]
    unfold mx
    split
    · constructor
      · rintro ⟨a, b⟩; exact ⟨by omega, a, b⟩
      · rintro ⟨a, b, c⟩; exact ⟨b, c⟩
    · constructor
      · rintro ⟨a, b⟩; exact ⟨a, by omega, b⟩
      · rintro ⟨a, b, c⟩; exact ⟨a, c⟩
theorem vS_kind {e : S55} (h : VS e = true) : 1 ≤ e.f0 ∧ e.f0 < 13 ∧ 0 ≤ e.f1 := by
  unfold VS at h
  simp only [Bool.and_eq_true, decide_eq_true_eq] at h
  exact ⟨h.1.1.1.1.1.1.1, h.1.1.1.1.1.1.2, h.1.1.1.1.1.2⟩
/-- What the reference says of one event behind the earlier valid ones. -/
def badR (b : List S55) (i : Int) (e : S55) : List S33 := if refAllow b e = true then [] else [⟨i, 1⟩]
def dupR (b : List S55) (i : Int) (e : S55) : List S33 := if e.f0 = 7 ∧ e.f3 ≠ cnt b 7 ∨ e.f0 = 8 ∧ e.f3 ≠ cnt b 8 then [⟨i, 2⟩] else []
def refFrom : List S55 → Int → List S55 → List S33
  | _, _, [] => []
  | b, i, e :: r => if VS e = true then badR b i e ++ (dupR b i e ++ refFrom (b ++ [e]) (i + 1) r) else ⟨i, 1⟩ :: refFrom b (i + 1) r
theorem bad_eq (b : List S55) (i : Int) (e : S55) (h : VS e = true) : (bad i (b.foldl stepM m00) e).map to33 = badR b i e := by
  obtain ⟨h1, h2, h3⟩ := vS_kind h
  have hs := state_st b m00 (false, -1) rfl rfl
  have hl := last_st b
  have ht := lat_st b e.f1 m00
  have h0 : m00.lat = 0 := rfl
  have hsw : allowB (b.foldl stepM m00) e = sw (stF b).1 (stF b).2 (lastE b) e := by
    rw [allowB_eq _ e h1 h2, hl, hs.1, hs.2]
    rfl
  unfold bad badR refAllow
  rw [hsw]
  generalize sw (stF b).1 (stF b).2 (lastE b) e = q
  clear hsw
  by_cases ha : b.all (fun y => decide (y.f1 ≤ e.f1)) = true
  · have h4 : ¬ e.f1 < (b.foldl stepM m00).lat := by have := ht.mpr ⟨by omega, ha⟩; omega
    rw [ha, Bool.true_and]
    cases q
    · rw [if_pos (.inr rfl), if_neg (by decide)]; rfl
    · rw [if_neg (fun h => h.elim h4 (fun h => by cases h)), if_pos rfl]; rfl
  · have h4 : e.f1 < (b.foldl stepM m00).lat := by
      have h5 : ¬ (b.foldl stepM m00).lat ≤ e.f1 := fun h => ha (ht.mp h).2
      omega
    rw [if_pos (.inl h4), Bool.eq_false_iff.mpr ha, Bool.false_and, if_neg (by decide)]
    rfl
theorem seq_eq (r : List S55) : ∀ (b : List S55) (i : Int), (∀ x ∈ r, Wf55 x) → b.length + r.length < 1000000 → (seqF i (b.foldl stepM m00) (cnt b 7) (cnt b 8) r).map to33 = refFrom b i r := by
  induction r with
  | nil => intro b i _ _; rfl
  | cons e r ih =>
    intro b i hw hn
    rw [seqF, refFrom, validE_eq e (hw e (.head _))]
    simp only [List.length_cons] at hn
    by_cases h : VS e = true
    · rw [if_pos h, if_pos h, List.map_append, List.map_append, bad_eq b i e h]
      have hd : (dup i (cnt b 7) (cnt b 8) e).map to33 = dupR b i e := by
        unfold dup dupR
        split <;> rfl
      rw [hd]
      have := ih (b ++ [e]) (i + 1) (fun x hx => hw x (.tail _ hx)) (by simp; omega)
      rw [List.foldl_append, cnt_snoc, cnt_snoc] at this
      rw [← this]
      have h7 := cnt_le b 7
      have h8 := cnt_le b 8
      rw [wrap_id (i := cnt b 7 + 1) (by omega) (by omega), wrap_id (i := cnt b 8 + 1) (by omega) (by omega)]
      rfl
    · rw [if_neg h, if_neg h, List.map_cons, ih b (i + 1) (fun x hx => hw x (.tail _ hx)) (by omega)]
      rfl
end Go.Proofs.YtakkifbcaedcoaaDoor.PX
