/- Arguments opened: what a reading of a type gives in the words of the printed contracts (Kd.K, Kd.C). Of no program. -/
import Derived.Test.YtmpbkemicfmbaaaDoorZWWords
import Derived.ProofKit
import Derived.OpenShut
import Derived.DataReads
import Derived.Deep.Slices
namespace Go.Proofs.YtmpbkemicfmbaaaDoor.PX
open Go.RowKit Go.Proofs.YtmpbkemicfmbaaaDoorW.PrintWords
set_option linter.unusedVariables false
/-- A relation between what a value stands for and what it reads as. -/
abbrev Rd (α : Type) := (H : Type) → α → DataW H → Prop
abbrev RdF (α : Type) := (H : Type) → α → List (DataW H) → Prop
structure OpensAt (N : Nat) (P : Program) {α : Type} (d : Kd α) (t : TypeId) (q : Rd α) : Prop where
  sz : d.sz = P.cellsOf t
  op : ∀ {H : Type} {enc : TypeId × Value → H} {w : World} {base : Nat} {spare : Nat → Bool} {held : Bool} {fuel : Nat} {cs : List Value} {y : DataW H × List MemPlace}, fuel ≤ N →
    DataW.trod enc P w base spare held fuel t cs = some y → ∃ x, d.K w x cs ∧ q H x y.1
structure OpensF (N : Nat) (P : Program) {α : Type} (d : Kd α) (fs : List Field) (off : Nat) (q : RdF α) : Prop where
  op : ∀ {H : Type} {enc : TypeId × Value → H} {w : World} {base : Nat} {spare : Nat → Bool} {held : Bool} {n : Nat} {cs : List Value} {ys : List (DataW H × List MemPlace)}, n ≤ N → cs.length = off + d.sz → ys.length = fs.length →
    (∀ (j : Nat) (f : Field), fs[j]? = some f → DataW.trod enc P w base spare held n f.type ((cs.drop f.offset).take (P.cellsOf f.type)) = ys[j]?) → ∃ x, d.K w x (cs.drop off) ∧ q H x (ys.map (·.1))
def rInt (k : IntKind) : Rd Int := fun _ n y => y = .lit (.int k n) ∧ (Lit.int k n).wf = true
def rBool : Rd Bool := fun _ b y => y = .lit (.bool b)
def rOne {α : Type} (q : Rd α) : RdF α := fun H x ys => ∃ y, ys = [y] ∧ q H x y
def rCons {α β : Type} (q : Rd α) (r : RdF β) : RdF (α × β) := fun H x ys => ∃ y zs, ys = y :: zs ∧ q H x.1 y ∧ r H x.2 zs
def rSt {α β : Type} (f : β → α) (q : RdF α) : Rd β := fun H x y => ∃ ys, y = .agg ys ∧ q H (f x) ys
section
variable {N : Nat} {P : Program}
theorem OpensAt.zero {α : Type} {d : Kd α} {t : TypeId} {q : Rd α} (hsz : d.sz = P.cellsOf t) : OpensAt 0 P d t q := ⟨hsz, fun {H enc w base spare held fuel cs y} hf h => by
  obtain rfl : fuel = 0 := by omega
  simp [DataW.trod] at h⟩
theorem OpensAt.int {t : TypeId} {k : IntKind} (ht : P.underlying t = some (.int k)) (hc : P.cellsOf t = 1) : OpensAt N P (Kd.int k) t (rInt k) := ⟨hc.symm, fun hf h => by
  obtain ⟨n, rfl, rfl, hw⟩ := DataW.trod_int ht h
  exact ⟨n, rfl, rfl, hw⟩⟩
theorem OpensAt.bool {t : TypeId} (ht : P.underlying t = some .bool) (hc : P.cellsOf t = 1) : OpensAt N P Kd.bool t rBool := ⟨hc.symm, fun hf h => by
  obtain ⟨b, rfl, rfl⟩ := DataW.trod_bool ht h
  exact ⟨b, rfl, rfl⟩⟩
theorem OpensF.one {α : Type} {d : Kd α} {f : Field} {off : Nat} {q : Rd α} (hd : OpensAt N P d f.type q) (ho : f.offset = off) : OpensF N P d [f] off (rOne q) := ⟨fun {H enc w base spare held n cs ys} hn hl hy h => by
  match ys, hy with
  | [y], _ =>
    have h0 := h 0 f rfl
    rw [ho, List.take_of_length_le (by rw [List.length_drop, ← hd.sz]; omega)] at h0
    obtain ⟨x, hx, hq⟩ := hd.op hn h0
    exact ⟨x, hx, _, rfl, hq⟩⟩
theorem OpensF.cons {α β : Type} {d : Kd α} {d2 : Kd β} {f : Field} {fs : List Field} {off : Nat} {q : Rd α} {r : RdF β} (hd : OpensAt N P d f.type q) (ho : f.offset = off) (hr : OpensF N P d2 fs (off + d.sz) r) : OpensF N P (Kd.pair d d2) (f :: fs) off (rCons q r) := ⟨fun {H enc w base spare held n cs ys} hn hl hy h => by
  match ys, hy with
  | y :: zs, hy =>
    have h0 := h 0 f rfl
    rw [ho, ← hd.sz] at h0
    obtain ⟨x, hx, hq⟩ := hd.op hn h0
    obtain ⟨x2, hx2, hq2⟩ := hr.op (w := w) (enc := enc) (base := base) (spare := spare) (held := held) (cs := cs) (ys := zs) hn (by rw [hl]; show off + (d.sz + d2.sz) = _; omega) (by simpa using hy) (fun j f1 hj => h (j + 1) f1 hj)
    refine ⟨(x, x2), ⟨(cs.drop off).take d.sz, cs.drop (off + d.sz), ?_, hx, hx2⟩, y.1, zs.map (·.1), rfl, hq, hq2⟩
    rw [← List.drop_drop]
    exact (List.take_append_drop _ _).symm⟩
/-- A struct: N goes down by one at its fields. -/
theorem OpensAt.st {α β : Type} {d : Kd α} {t : TypeId} {fs : Array Field} {q : RdF α} (f : β → α) (g : α → β) (hg : ∀ x, f (g x) = x) (ht : P.underlying t = some (.struct fs)) (hc : d.sz = P.cellsOf t) (hF : OpensF N P d fs.toList 0 q) : OpensAt (N + 1) P (Kd.iso d f) t (rSt f q) := ⟨hc, fun {H enc w base spare held fuel cs y} hf h => by
  obtain ⟨xs, n, rfl, rfl, hl, hn, hi⟩ := DataW.trod_struct ht h
  obtain ⟨x, hx, hq⟩ := hF.op (w := w) (enc := enc) (base := base) (spare := spare) (held := held) (cs := cs) (ys := xs) (n := n) (by omega) (by rw [hl, ← hc]; omega) (by simpa using hn) (fun j f1 hj => hi j f1 (by simpa using hj))
  refine ⟨g x, ?_, _, rfl, ?_⟩
  · show d.K w (f (g x)) cs
    rw [hg]
    simpa using hx
  · rw [hg]; exact hq⟩
end
end Go.Proofs.YtmpbkemicfmbaaaDoor.PX
