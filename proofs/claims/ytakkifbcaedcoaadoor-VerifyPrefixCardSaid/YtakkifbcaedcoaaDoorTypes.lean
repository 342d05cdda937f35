/- This seat's types, opened. -/
import Derived.Test.YtakkifbcaedcoaaDoorOpen
import Derived.Test.YtakkifbcaedcoaaDoorPXx0
namespace Go.Proofs.YtakkifbcaedcoaaDoor.PX
open Go.RowKit Go.Proofs.YtakkifbcaedcoaaDoorW.PrintWords
def r55 : Rd S55 := rSt (fun x : S55 => (x.f0, x.f1, x.f2, x.f3, x.f4, x.f5)) (rCons (rInt .i64) (rCons (rInt .i64) (rCons (rInt .i64) (rCons (rInt .i64) (rCons (rInt .i16) (rOne (rInt .i64)))))))
theorem open55 (M : Nat) : OpensAt M Tryd.prog k55 55 r55 :=
  OpensAt.stAny (fun x : S55 => (x.f0, x.f1, x.f2, x.f3, x.f4, x.f5)) (fun t => ⟨t.1, t.2.1, t.2.2.1, t.2.2.2.1, t.2.2.2.2.1, t.2.2.2.2.2⟩) (fun _ => rfl) Tryd.underlying55 (by kernel_rfl) (fun M => OpensF.cons (OpensAt.int Tryd.underlying3 (by kernel_rfl)) rfl (OpensF.cons (OpensAt.int Tryd.underlying2 (by kernel_rfl)) rfl (OpensF.cons (OpensAt.int Tryd.underlying3 (by kernel_rfl)) rfl (OpensF.cons (OpensAt.int Tryd.underlying2 (by kernel_rfl)) rfl (OpensF.cons (OpensAt.int Tryd.underlying53 (by kernel_rfl)) rfl (OpensF.one (OpensAt.int Tryd.underlying3 (by kernel_rfl)) rfl)))))) M
/-- What the ranges of an event's numbers are. -/
def Wf55 (e : S55) : Prop := (Lit.int .i64 e.f0).wf = true ∧ (Lit.int .i64 e.f1).wf = true ∧ (Lit.int .i64 e.f2).wf = true ∧ (Lit.int .i64 e.f3).wf = true ∧ (Lit.int .i16 e.f4).wf = true ∧ (Lit.int .i64 e.f5).wf = true
theorem wf55 {H : Type} {e : S55} {y : DataW H} (h : r55 H e y) : Wf55 e := by
  obtain ⟨_, _, _, _, _, ⟨_, h0⟩, _, _, _, ⟨_, h1⟩, _, _, _, ⟨_, h2⟩, _, _, _, ⟨_, h3⟩, _, _, _, ⟨_, h4⟩, _, _, ⟨_, h5⟩⟩ := h
  exact ⟨h0, h1, h2, h3, h4, h5⟩
theorem rSl_all {α : Type} {q : Rd α} {H : Type} {xs : List α} {y : DataW H} (h : rSl q H xs y) : ∀ x ∈ xs, ∃ e, q H x e := by
  intro x hx
  rcases h with ⟨rfl, _⟩ | ⟨es, rest, rfl, hl, hi⟩
  · cases hx
  · obtain ⟨i, hlt, rfl⟩ := List.getElem_of_mem hx
    exact ⟨es[i]'(by omega), hi i _ _ (List.getElem?_eq_getElem hlt) (List.getElem?_eq_getElem (by omega))⟩
end Go.Proofs.YtakkifbcaedcoaaDoor.PX
