/- Arguments opened: what a reading of a type gives in the words of the printed contracts (Kd.K, Kd.C). Of no program. -/
import Derived.Test.YtakkifbcaedcoaaDoorWWords
import Derived.ProofKit
import Derived.OpenShut
import Derived.DataReads
import Derived.Deep.Slices
namespace Go.Proofs.YtakkifbcaedcoaaDoor.PX
open Go.RowKit Go.Proofs.YtakkifbcaedcoaaDoorW.PrintWords
set_option linter.unusedVariables false
/-- A relation between what a value stands for and what it reads as. -/
abbrev Rd (α : Type) := (H : Type) → α → DataW H → Prop
abbrev RdF (α : Type) := (H : Type) → α → List (DataW H) → Prop
structure OpensAt (N : Nat) (P : Program) {α : Type} (d : Kd α) (t : TypeId) (q : Rd α) : Prop where
  sz : d.sz = P.cellsOf t
  op : ∀ {H : Type} {enc : TypeId × Value → H} {w : World} {base : Nat} {spare : Nat → Bool} {held : Bool} {fuel : Nat} {cs : List Value} {y : DataW H × List MemPlace}, fuel ≤ N →
    DataW.trod enc P w base spare held fuel t cs = some y → ∃ x, d.K w x cs ∧ q H x y.1
structure OpensF (N : Nat) (P : Program) {α : Type} (d : Kd α) (fs : List Field) (off : Nat) (q : RdF α) : Prop where
  op : ∀ {H : Type} {enc : TypeId × Value → H} {w : World} {base : Nat} {spare : Nat → Bool} {held : Bool} {n : Nat} {cs : List Value} {ys : List (DataW H × List MemPlace)}, n ≤ N → cs.length = off + d.sz → ys.length = fs.length →
    (∀ (j : Nat) (f : Field), fs[j]? = some f → DataW.trod enc P w base spare held n f.type ((cs.drop f.offset).take (P.cellsOf f.type)) = ys[j]?) → ∃ x, d.K w x (cs.drop off) ∧ q H x (ys.map (·.1))
def rInt (k : IntKind) : Rd Int := fun _ n y => y = .lit (.int k n) ∧ (Lit.int k n).wf = true
def rBool : Rd Bool := fun _ b y => y = .lit (.bool b)
def rStr : Rd ByteArray := fun _ s y => y = .lit (.string s.data.toList) ∧ s.size ≤ maxLen
def rSl {α : Type} (q : Rd α) : Rd (List α) := fun H xs y => (xs = [] ∧ y = .nil) ∨ ∃ es rest, y = .slice es rest ∧ es.length = xs.length ∧ ∀ (i : Nat) (x : α) (e : DataW H), xs[i]? = some x → es[i]? = some e → q H x e
def rOne {α : Type} (q : Rd α) : RdF α := fun H x ys => ∃ y, ys = [y] ∧ q H x y
def rCons {α β : Type} (q : Rd α) (r : RdF β) : RdF (α × β) := fun H x ys => ∃ y zs, ys = y :: zs ∧ q H x.1 y ∧ r H x.2 zs
def rSt {α β : Type} (f : β → α) (q : RdF α) : Rd β := fun H x y => ∃ ys, y = .agg ys ∧ q H (f x) ys
section
variable {N : Nat} {P : Program}
theorem OpensAt.zero {α : Type} {d : Kd α} {t : TypeId} {q : Rd α} (hsz : d.sz = P.cellsOf t) : OpensAt 0 P d t q := ⟨hsz, fun {H enc w base spare held fuel cs y} hf h => by
  obtain rfl : fuel = 0 := by omega
  simp [DataW.trod] at h⟩
theorem OpensAt.int {t : TypeId} {k : IntKind} (ht : P.underlying t = some (.int k)) (hc : P.cellsOf t = 1) : OpensAt N P (Kd.int k) t (rInt k) := ⟨hc.symm, fun hf h => by
  obtain ⟨n, rfl, rfl, hw⟩ := DataW.trod_int ht h
  exact ⟨n, rfl, rfl, hw⟩⟩
theorem OpensAt.bool {t : TypeId} (ht : P.underlying t = some .bool) (hc : P.cellsOf t = 1) : OpensAt N P Kd.bool t rBool := ⟨hc.symm, fun hf h => by
  obtain ⟨b, rfl, rfl⟩ := DataW.trod_bool ht h
  exact ⟨b, rfl, rfl⟩⟩
theorem OpensAt.str {t : TypeId} (ht : P.underlying t = some .string) (hc : P.cellsOf t = 1) : OpensAt N P Kd.string t rStr := ⟨hc.symm, fun hf h => by
  obtain ⟨s, rfl, rfl, hs⟩ := DataW.trod_string ht h
  exact ⟨s, rfl, rfl, hs⟩⟩
theorem choose_list {α β : Type} {n : Nat} {R : Nat → α → Prop} (h : ∀ i, i < n → ∃ x, R i x) : ∃ xs : List α, xs.length = n ∧ ∀ i x, xs[i]? = some x → R i x := by
  induction n with
  | zero => exact ⟨[], rfl, fun i x h => by simp at h⟩
  | succ n ih =>
    obtain ⟨xs, hl, hx⟩ := ih (fun i hi => h i (by omega))
    obtain ⟨y, hy⟩ := h n (by omega)
    refine ⟨xs ++ [y], by simp [hl], fun i x hi => ?_⟩
    by_cases hlt : i < xs.length
    · rw [List.getElem?_append_left hlt] at hi
      exact hx i x hi
    · rw [List.getElem?_append_right (by omega)] at hi
      have : i - xs.length = 0 := by
        by_cases h0 : i - xs.length = 0
        · exact h0
        · rw [List.getElem?_eq_none (by simp; omega)] at hi
          cases hi
      rw [this] at hi
      have he : i = n := by omega
      subst he
      injection hi with hi
      subst hi
      exact hy
/-- A slice, its elements opened. -/
theorem OpensAt.sl {α : Type} {d : Kd α} {t e : TypeId} {q : Rd α} (ht : P.underlying t = some (.slice e)) (hc : P.cellsOf t = 1) (hd : OpensAt N P d e q) : OpensAt N P (Kd.slice e d) t (rSl q) := ⟨hc.symm, fun {H enc w base spare held fuel cs y} hf h => by
  rcases DataW.trod_slice ht h with ⟨rfl, rfl⟩ | ⟨a, len, cap, elems, rest, n, rfl, rfl, rfl, hb, hl, hm, hlen, hel, _, _⟩
  · exact ⟨[], ⟨none, 0, rfl, Nat.le_refl _, rfl, by simp, fun h => absurd h (by simp)⟩, .inl ⟨rfl, rfl⟩⟩
  · have hall : ∀ i, i < len → ∃ x : α × List Value × DataW H, w.cells? base (a.add (i * P.cellsOf e)) (P.cellsOf e) = some x.2.1 ∧ d.K w x.1 x.2.1 ∧ q H x.1 x.2.2 ∧ (elems[i]?).map (·.1) = some x.2.2 := by
      intro i hi
      have h1 := hel i hi
      rw [List.getElem?_eq_getElem (by omega)] at h1
      obtain ⟨cs', hc1, hc2⟩ := Option.bind_eq_some_iff.mp h1
      obtain ⟨x, hx, hq⟩ := hd.op (by omega) hc2
      exact ⟨(x, cs', elems[i].1), hc1, hx, hq, by rw [List.getElem?_eq_getElem (by omega)]; rfl⟩
    obtain ⟨xs, hxl, hxs⟩ := choose_list (β := Nat) hall
    refine ⟨xs.map (·.1), ⟨some a, cap, by simp [hxl], by simp [hxl, hl], by simp, by simp only [maxLen] at hm; simp; omega, fun h0 => ⟨a, rfl, fun j p hj => ?_⟩⟩, .inr ⟨_, _, rfl, by simp [hlen, hxl], fun i x e0 hi he => ?_⟩⟩
    · rw [List.getElem?_map] at hj
      obtain ⟨x, hx, rfl⟩ := Option.map_eq_some_iff.mp hj
      obtain ⟨h1, h2, h3, _⟩ := hxs j x hx
      obtain ⟨_, hcl, hat⟩ := World.cells?_some h1
      refine ⟨x.2.1, by rw [hd.sz]; exact hcl, h2, fun i u hu => ?_⟩
      have hil : i < P.cellsOf e := by rw [← hcl]; exact (List.getElem?_eq_some_iff.1 hu).1
      rw [hd.sz, ← Go.Deep.add_add, hat i hil, hu]
    · rw [List.getElem?_map] at hi he
      obtain ⟨x1, hx, rfl⟩ := Option.map_eq_some_iff.mp hi
      obtain ⟨_, _, h3, h4⟩ := hxs i x1 hx
      rw [h4] at he
      injection he with he
      subst he
      exact h3⟩
theorem OpensF.one {α : Type} {d : Kd α} {f : Field} {off : Nat} {q : Rd α} (hd : OpensAt N P d f.type q) (ho : f.offset = off) : OpensF N P d [f] off (rOne q) := ⟨fun {H enc w base spare held n cs ys} hn hl hy h => by
  match ys, hy with
  | [y], _ =>
    have h0 := h 0 f rfl
    rw [ho, List.take_of_length_le (by rw [List.length_drop, ← hd.sz]; omega)] at h0
    obtain ⟨x, hx, hq⟩ := hd.op hn h0
    exact ⟨x, hx, _, rfl, hq⟩⟩
theorem OpensF.cons {α β : Type} {d : Kd α} {d2 : Kd β} {f : Field} {fs : List Field} {off : Nat} {q : Rd α} {r : RdF β} (hd : OpensAt N P d f.type q) (ho : f.offset = off) (hr : OpensF N P d2 fs (off + d.sz) r) : OpensF N P (Kd.pair d d2) (f :: fs) off (rCons q r) := ⟨fun {H enc w base spare held n cs ys} hn hl hy h => by
  match ys, hy with
  | y :: zs, hy =>
    have h0 := h 0 f rfl
    rw [ho, ← hd.sz] at h0
    obtain ⟨x, hx, hq⟩ := hd.op hn h0
    obtain ⟨x2, hx2, hq2⟩ := hr.op (w := w) (enc := enc) (base := base) (spare := spare) (held := held) (cs := cs) (ys := zs) hn (by rw [hl]; show off + (d.sz + d2.sz) = _; omega) (by simpa using hy) (fun j f1 hj => h (j + 1) f1 hj)
    refine ⟨(x, x2), ⟨(cs.drop off).take d.sz, cs.drop (off + d.sz), ?_, hx, hx2⟩, y.1, zs.map (·.1), rfl, hq, hq2⟩
    rw [← List.drop_drop]
    exact (List.take_append_drop _ _).symm⟩
/-- A struct: N goes down by one at its fields. -/
theorem OpensAt.st {α β : Type} {d : Kd α} {t : TypeId} {fs : Array Field} {q : RdF α} (f : β → α) (g : α → β) (hg : ∀ x, f (g x) = x) (ht : P.underlying t = some (.struct fs)) (hc : d.sz = P.cellsOf t) (hF : OpensF N P d fs.toList 0 q) : OpensAt (N + 1) P (Kd.iso d f) t (rSt f q) := ⟨hc, fun {H enc w base spare held fuel cs y} hf h => by
  obtain ⟨xs, n, rfl, rfl, hl, hn, hi⟩ := DataW.trod_struct ht h
  obtain ⟨x, hx, hq⟩ := hF.op (w := w) (enc := enc) (base := base) (spare := spare) (held := held) (cs := cs) (ys := xs) (n := n) (by omega) (by rw [hl, ← hc]; omega) (by simpa using hn) (fun j f1 hj => hi j f1 (by simpa using hj))
  refine ⟨g x, ?_, _, rfl, ?_⟩
  · show d.K w (f (g x)) cs
    rw [hg]
    simpa using hx
  · rw [hg]; exact hq⟩
theorem OpensAt.stAny {α β : Type} {d : Kd α} {t : TypeId} {fs : Array Field} {q : RdF α} (f : β → α) (g : α → β) (hg : ∀ x, f (g x) = x) (ht : P.underlying t = some (.struct fs)) (hc : d.sz = P.cellsOf t) (hF : ∀ M, OpensF M P d fs.toList 0 q) (N : Nat) : OpensAt N P (Kd.iso d f) t (rSt f q) := by
  cases N with
  | zero => exact OpensAt.zero hc
  | succ N => exact OpensAt.st f g hg ht hc (hF N)
/-- An argument that is a slice. -/
theorem open_arg_slice {α : Type} {d : Kd α} {t e : TypeId} {q : Rd α} (ht : P.underlying t = some (.slice e)) (hc : P.cellsOf t = 1) (hd : ∀ M, OpensAt M P d e q)
    {H : Type} {enc : TypeId × Value → H} {w : World} {base b0 : Nat} {spare : Nat → Bool} {held : Bool} {r : Reach} {v : Value} {y : DataW H} {p : List MemPlace} (hv : Value.okWide P w r b0 t v) (h : DataW.Trod enc P w base spare held t v y p) :
    ∃ (A : Option Addr) (c : Nat) (xs : List α), v = .slice A xs.length c ∧ xs.length ≤ c ∧ d.C w A xs.length xs ∧ rSl q H xs y := by
  obtain ⟨A, len, cap, rfl⟩ := WideShapes.okWide_slice ht hv
  obtain ⟨fuel, hf⟩ := h
  obtain ⟨xs, ⟨A', c', he, hle, hC⟩, hq⟩ := (OpensAt.sl ht hc (hd fuel)).op (Nat.le_refl _) hf
  simp only [Value.cells] at he
  have he' : Value.slice A len cap = Value.slice A' xs.length c' := by simpa using he
  injection he' with h1 h2 h3
  subst h1 h2 h3
  exact ⟨_, _, xs, rfl, hle, hC, hq⟩
end
end Go.Proofs.YtakkifbcaedcoaaDoor.PX
