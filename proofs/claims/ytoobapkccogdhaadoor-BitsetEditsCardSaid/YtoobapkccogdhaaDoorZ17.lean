/- Parts of the proof, merged in build order: PureBitsetEdits. -/
import Derived.Test.YtoobapkccogdhaaDoorZ8
import Derived.Test.YtoobapkccogdhaaDoorZ4
import Derived.Test.YtoobapkccogdhaaDoorZ9
import Derived.Test.YtoobapkccogdhaaDoorZ16
/- With and Without in plain words; earlier sets stay. -/
namespace Go.Proofs.YtoobapkccogdhaaDoor.Pure
open Go.RowKit Go.Proofs.YtoobapkccogdhaaDoor.PX Go.Proofs.YtoobapkccogdhaaDoorW.PrintWords Go.Proofs.YtoobapkccogdhaaDoorW.PrintLast Go.Proofs.YtoobapkccogdhaaDoorW.PrintMore
set_option linter.unusedVariables false
def PairOK (s x : List Int) : Prop := PX.Good s ∧ Srt x ∧ ∀ y, y ∈ elF 0 s ↔ y ∈ x
theorem last_loop (sets : List S27) (want : List (List Int)) (hl : sets.length = want.length) (hn : sets.length ≤ 100) (hp : ∀ i (h1 : i < sets.length) (h2 : i < want.length), PairOK sets[i].f0 want[i]) :
    ∀ d j, j + d = sets.length → Ev (fun k => tricklelaw04_BitsetEdits.l1 k sets want (sets.length : Int) (j : Int)) true
  | 0, j, h => Ev.step (fun k => by rw [tricklelaw04_BitsetEdits.l1]) (Ev.neg (by omega) (Ev.now _))
  | d + 1, j, h => by
    have h1 : j < sets.length := by omega
    have h2 : j < want.length := by omega
    obtain ⟨p1, p2, p3⟩ := hp j h1 h2
    refine Ev.step (fun k => by rw [tricklelaw04_BitsetEdits.l1]) (Ev.pos (by omega) (Ev.pos (by omega) (Ev.pos (by omega) (Ev.pos (by omega) ?_))))
    rw [show rd_T27 sets (j : Int) = sets[j] from getD_nat _ _ _ h1, show rd_L6 want (j : Int) = want[j] from getD_nat _ _ _ h2, wrap_nat h1 (by omega)]
    exact Ev.bind (same_ev p1 p2 p3) (Ev.pos rfl (last_loop sets want hl hn hp d (j + 1) (by omega)))
theorem pairs_snoc {sets : List S27} {want : List (List Int)} (hl : sets.length = want.length) (hp : ∀ i (h1 : i < sets.length) (h2 : i < want.length), PairOK sets[i].f0 want[i]) {s x : List Int} (h : PairOK s x) :
    ∀ i (h1 : i < (sets ++ [(⟨s⟩ : S27)]).length) (h2 : i < (want ++ [x]).length), PairOK (sets ++ [(⟨s⟩ : S27)])[i].f0 (want ++ [x])[i] := by
  intro i h1 h2
  rw [List.length_append, List.length_singleton] at h1 h2
  by_cases hi : i < sets.length
  · rw [List.getElem_append_left hi, List.getElem_append_left (by omega)]
    exact hp i hi (by omega)
  · have e1 : i = sets.length := by omega
    subst e1
    rw [List.getElem_append_right (by omega), List.getElem_append_right (by omega)]
    simp only [Nat.sub_self, hl, List.getElem_cons_zero]
    exact h
theorem edit_loop (l : List S49) (hn : l.length ≤ 40) : ∀ d j, j + d = l.length → ∀ (sets : List S27) (want : List (List Int)) (x s : List Int), sets.length = j → want.length = j → PairOK s x →
    (∀ i (h1 : i < sets.length) (h2 : i < want.length), PairOK sets[i].f0 want[i]) → Ev (fun k => tricklelaw04_BitsetEdits.l0 k sets want x l (l.length : Int) (j : Int) s) true
  | 0, j, h, sets, want, x, s, h1, h2, hp, hps => by
    refine Ev.step (fun k => by rw [tricklelaw04_BitsetEdits.l0]) (Ev.neg (by omega) ?_)
    exact last_loop sets want (by omega) (by omega) hps sets.length 0 (by omega)
  | d + 1, j, h, sets, want, x, s, h1, h2, hp, hps => by
    have hj : j < l.length := by omega
    obtain ⟨p1, p2, p3⟩ := hp
    refine Ev.step (fun k => by rw [tricklelaw04_BitsetEdits.l0]) (Ev.pos (by omega) (Ev.pos (by omega) (Ev.pos (by omega) ?_)))
    rw [show rd_T49 l (j : Int) = l[j] from getD_nat _ _ _ hj, wrap_nat hj (by omega)]
    have fin : ∀ s' x', PairOK s' x' → Ev (fun k => tricklelaw04_BitsetEdits.l0 k (sets ++ [(⟨s'⟩ : S27)]) (want ++ [x']) x' l (l.length : Int) ((j + 1 : Nat) : Int) s') true := fun s' x' hp' =>
      edit_loop l hn d (j + 1) (by omega) _ _ x' s' (by rw [List.length_append, List.length_singleton]; omega) (by rw [List.length_append, List.length_singleton]; omega) hp' (pairs_snoc (by omega) hps hp')
    by_cases hr : (l[j]).f1 = true
    · refine Ev.pos hr ?_
      obtain ⟨s', s1, s2, s3⟩ := without_ev p1 (l[j]).f0
      obtain ⟨x', x1, x2, x3⟩ := rminus_ev p2 [(l[j]).f0] (by simp)
      refine Ev.bind s1 (Ev.bind (g := fun k => trickleref04_MinusV.f k x ([(l[j]).f0] : List Int)) x1 (Ev.pos (by omega) (Ev.pos (by omega) ?_)))
      exact fin s' x' ⟨s2, x2, fun y => by rw [s3, x3, p3, List.mem_singleton]⟩
    · refine Ev.neg hr ?_
      obtain ⟨s', s1, s2, s3⟩ := with_ev p1 (l[j]).f0
      obtain ⟨x', x1, x2, x3⟩ := rwith_ev p2 (l[j]).f0
      refine Ev.bind s1 (Ev.bind x1 (Ev.pos (by omega) (Ev.pos (by omega) ?_)))
      exact fin s' x' ⟨s2, x2, fun y => by rw [s3, x3, p3]⟩
theorem BitsetEdits (l : List S49) (_ : ∀ x ∈ l, True) : ∃ k, tricklelaw04_BitsetEdits.f k l = some true := by
  refine Ev.rounds ?_
  refine Ev.congr (fun k => by rw [tricklelaw04_BitsetEdits.f]) (Ev.bind awake_ev (Ev.pos rfl ?_))
  by_cases hl : l.length ≤ 40
  · refine Ev.neg (by omega) ?_
    obtain ⟨s, s1, s2, s3⟩ := of_ev [] (by simp)
    refine Ev.bind s1 ?_
    exact edit_loop l hl l.length 0 (by omega) [] [] [] s rfl rfl ⟨s2, srt_nil, fun y => by rw [s3]; simp⟩ (fun i h1 h2 => absurd h1 (by simp))
  · exact Ev.pos (by omega) (Ev.now _)
end Go.Proofs.YtoobapkccogdhaaDoor.Pure
