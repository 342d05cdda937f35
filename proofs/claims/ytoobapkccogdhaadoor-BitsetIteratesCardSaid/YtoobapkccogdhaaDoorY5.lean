/- Parts of the proof, merged in build order: MIterLaw, PureBitsetIterates. -/
import Derived.Test.YtoobapkccogdhaaDoorY4
/- BitsetIterates in the printed form, where it returns true. -/
namespace Go.Proofs.YtoobapkccogdhaaDoor.PX
open Go.RowKit Go.Shelf Go.Proofs.YtoobapkccogdhaaDoorW.PrintWords Go.Proofs.YtoobapkccogdhaaDoorW.PrintMore
set_option linter.unusedVariables false
def tricklelaw04_BitsetIterates.f (k : Nat) (l0 : List Int) (a1 : Int) : Option Bool :=
  (tricklelaw04_awake.f k).bind fun t1 => if t1 = true then ((trickleref04_Small.f l0).bind fun t2 => if t2 = true then ((bitset_Of.f k l0).bind fun ws => ((trickleref04_Of.f k l0).bind fun want =>
    ((trickleref04_Equal.f k (want.take (min want.length (stopN a1))) (want.take (min want.length (stopN a1)))).bind fun t3 =>
      if okB ws = true ∧ ws.length ≤ 100000 ∧ elF 0 ws = want ∧ want.length < 99999 ∧ 0 ≤ a1 ∧ a1 ≤ 255 ∧ t3 = true then some true else none))) else some true) else none
set_option maxHeartbeats 4000000 in
set_option maxRecDepth 100000 in
theorem iterates_great (k : Nat) (A0 : Option Addr) (c0 : Nat) (l0 : List Int) (s : Int) (w : World) (hr0 : Kd.C (Kd.int .i64) w A0 l0.length l0) (hc0 : l0.length ≤ c0) (hG : GW w)
    (hA : tricklelaw04_awake.f k = some true) (hS : trickleref04_Small.f l0 = some false) :
    Calls Tryd.prog 6 #[.slice A0 l0.length c0, .int .u8 s] w fun e w' => e = .returned (.bool true) ∧ Below w.heap.size w w' := by
  have HG := Aside0.mk hG
  have HR0 := Aside0.mk hr0
  clear hG hr0
  go_enter Tryd.func6, Tryd.ntmps6
  go_wp2_with (first
    | (go_at_call 11; refine (tricklelaw04_awake.calls k true _ (HG.out.below (below_alloc (Below.refl _ _) _)) hA).mono ?_; rintro e w1 ⟨rfl, hb1⟩; have HB1 := Aside0.mk (below_step (below_alloc (Below.refl _ _) _) hb1); clear hb1)
    | (go_at_call 12; refine (trickleref04_Small.calls _ _ l0 false _ (Kd.C_below HR0.out HB1.out) hc0 hS).mono ?_; rintro e w2x ⟨rfl, ⟨nd, rfl⟩⟩; have HB2 := Aside0.mk (pw_below_drewN HB1.out nd); clear HB1; generalize w1.drewN nd = w2 at HB2 ⊢))
  go_ret
  exact ⟨rfl, HB2.out⟩
theorem tricklelaw04_BitsetIterates.calls (k : Nat) (A0 : Option Addr) (c0 : Nat) (l0 : List Int) (a1 : Int) (r : Bool) (hrt : r = true) (w : World) (hr0 : Kd.C (Kd.int .i64) w A0 l0.length l0) (hc0 : l0.length ≤ c0) (hG : GW w) (h : tricklelaw04_BitsetIterates.f k l0 a1 = some r) :
    Calls Tryd.prog 6 #[.slice A0 l0.length c0, .int .u8 a1] w fun e w' => e = .returned (.bool r) ∧ Below w.heap.size w w' := by
  subst hrt
  unfold tricklelaw04_BitsetIterates.f at h
  obtain ⟨t1, h1, h⟩ := Option.bind_eq_some_iff.mp h
  by_cases c1 : t1 = true
  · rw [if_pos c1] at h
    subst c1
    obtain ⟨t2, h2, h⟩ := Option.bind_eq_some_iff.mp h
    by_cases c2 : t2 = true
    · rw [if_pos c2] at h
      subst c2
      obtain ⟨ws, h3, h⟩ := Option.bind_eq_some_iff.mp h
      obtain ⟨want, h4, h⟩ := Option.bind_eq_some_iff.mp h
      obtain ⟨t3, h5, h⟩ := Option.bind_eq_some_iff.mp h
      split at h
      case isFalse => cases h
      rename_i hh
      obtain ⟨g1, g2, g3, g4, g5, g6, rfl⟩ := hh
      exact iterates_walk k A0 c0 l0 a1 w hr0 hc0 hG g5 g6 h1 h2 ws want h3 h4 (okB_okW g1) g2 g3 g4 _ rfl h5
    · have c2 : t2 = false := by simpa using c2
      subst c2
      exact iterates_great k A0 c0 l0 a1 w hr0 hc0 hG h1 h2
  · rw [if_neg c1] at h
    cases h
end Go.Proofs.YtoobapkccogdhaaDoor.PX
/- BitsetIterates in plain words. -/
namespace Go.Proofs.YtoobapkccogdhaaDoor.Pure
open Go.RowKit Go.Proofs.YtoobapkccogdhaaDoor.PX Go.Proofs.YtoobapkccogdhaaDoorW.PrintWords Go.Proofs.YtoobapkccogdhaaDoorW.PrintLast Go.Proofs.YtoobapkccogdhaaDoorW.PrintMore
set_option linter.unusedVariables false
theorem BitsetIterates (l : List Int) (s : Int) (_ : ∀ x ∈ l, True) (hs : 0 ≤ s ∧ s ≤ 255) : ∃ k, tricklelaw04_BitsetIterates.f k l s = some true := by
  refine Ev.rounds ?_
  refine Ev.congr (fun k => by rw [tricklelaw04_BitsetIterates.f]) (Ev.bind awake_ev (Ev.pos rfl (Ev.const (small_eq l) ?_)))
  by_cases hl : l.length ≤ 60
  · refine Ev.pos (decide_eq_true hl) ?_
    obtain ⟨ws, w1, w2, w3⟩ := of_ev l (by omega)
    obtain ⟨x, x1, x2, x3⟩ := rof_ev l (by omega)
    have e : elF 0 ws = x := srt_eq (srt_el w2.len) x2 (fun y => (w3 y).trans (x3 y).symm)
    have hx := srt_len x2
    have hw := w2.len
    refine Ev.bind w1 (Ev.bind x1 (Ev.bind (requal_ev _ _ (by rw [List.length_take]; omega)) ?_))
    exact Ev.pos ⟨okB_good w2, by omega, e, by omega, hs.1, hs.2, decide_eq_true rfl⟩ (Ev.now _)
  · exact Ev.neg (by rw [decide_eq_false hl]; decide) (Ev.now _)
end Go.Proofs.YtoobapkccogdhaaDoor.Pure
