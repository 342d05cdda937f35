-- Written by a program of this session (wip/xprint.py, over the kit's print tool). Lean checks it.
import Derived.Test.YtakkifbcaedcoaaDoorPXx0
namespace Go.Proofs.YtakkifbcaedcoaaDoor.PX
open Go.RowKit Go.Proofs.YtakkifbcaedcoaaDoorW.PrintWords Go.Proofs.YtakkifbcaedcoaaDoorW.PrintLast Go.Proofs.YtakkifbcaedcoaaDoorW.PrintMore
attribute [local go_sem] max2_int min2_int max_two min_two max_three min_three max_four min_four   -- for this text's walks alone
set_option linter.unusedVariables false
set_option linter.unusedSimpArgs false

/-- A state of type 57 at block g of W; what its slices lead to came in by w0. -/
def IsS57 (w0 W : World) (g : Nat) (f0 : Bool) (f1 : Int) (f2 : Int) (f3 : Int) (f4 : Int) (f5 : Int) (f6 : Int) (f7 : Int) (f8 : Int) : Prop := W.heap[g]? = some (.cells #[.bool f0, .int .i64 f1, .int .i64 f2, .int .i64 f3, .int .i64 f4, .int .i64 f5, .int .i16 f6, .int .i64 f7, .int .i64 f8] 57 (0, 0)) ∧ w0.heap.size ≤ g
theorem IsS57.grown {w0 W : World} {g : Nat} {f0 : Bool} {f1 : Int} {f2 : Int} {f3 : Int} {f4 : Int} {f5 : Int} {f6 : Int} {f7 : Int} {f8 : Int} {W1 : World} {row : Option Nat} (h : IsS57 w0 W g f0 f1 f2 f3 f4 f5 f6 f7 f8) (hw : W.grownBy W1 row) (hne : some g ≠ row) : IsS57 w0 W1 g f0 f1 f2 f3 f4 f5 f6 f7 f8 := by
  obtain ⟨hb, hg⟩ := h
  exact ⟨blk_grown hb hw hne, hg⟩
theorem IsS57.own_neN {w0 W : World} {g : Nat} {f0 : Bool} {f1 : Int} {f2 : Int} {f3 : Int} {f4 : Int} {f5 : Int} {f6 : Int} {f7 : Int} {f8 : Int} {α : Type} {d : Kd α} {e : Nat} {base : Nat} {ok : Nat → Prop} {v : Value} {xs : List α} (h : IsS57 w0 W g f0 f1 f2 f3 f4 f5 f6 f7 f8) (ho : Kd.N d e W base ok v xs) (ht : e ≠ 57) : some g ≠ v.ownBlock := by
  obtain ⟨hb, hg⟩ := h
  exact Kd.N_ne ho hb ht
theorem IsS57.fresh {w0 W : World} {g : Nat} {f0 : Bool} {f1 : Int} {f2 : Int} {f3 : Int} {f4 : Int} {f5 : Int} {f6 : Int} {f7 : Int} {f8 : Int} (h : IsS57 w0 W g f0 f1 f2 f3 f4 f5 f6 f7 f8) : ∀ k, W.heap.size ≤ k → k ≠ g := by
  obtain ⟨hb, hg⟩ := h
  exact Kd.freshB hb
theorem IsS57.kept {w0 W : World} {g : Nat} {f0 : Bool} {f1 : Int} {f2 : Int} {f3 : Int} {f4 : Int} {f5 : Int} {f6 : Int} {f7 : Int} {f8 : Int} {W1 : World} {S : Nat → Prop} (h : IsS57 w0 W g f0 f1 f2 f3 f4 f5 f6 f7 f8) (hk : Kept W W1 S) (hne : ¬ S g) : IsS57 w0 W1 g f0 f1 f2 f3 f4 f5 f6 f7 f8 := by
  obtain ⟨hb, hg⟩ := h
  exact ⟨blk_kept hb hk hne, hg⟩
theorem IsS57.below {w0 W : World} {g : Nat} {f0 : Bool} {f1 : Int} {f2 : Int} {f3 : Int} {f4 : Int} {f5 : Int} {f6 : Int} {f7 : Int} {f8 : Int} {W1 : World} (h : IsS57 w0 W g f0 f1 f2 f3 f4 f5 f6 f7 f8) (hw : Below W.heap.size W W1) : IsS57 w0 W1 g f0 f1 f2 f3 f4 f5 f6 f7 f8 := h.grown (grown_of_below hw none) (by simp)
theorem IsS57.alloc {w0 W : World} {g : Nat} {f0 : Bool} {f1 : Int} {f2 : Int} {f3 : Int} {f4 : Int} {f5 : Int} {f6 : Int} {f7 : Int} {f8 : Int} (h : IsS57 w0 W g f0 f1 f2 f3 f4 f5 f6 f7 f8) (o : Obj) : IsS57 w0 (W.alloc o) g f0 f1 f2 f3 f4 f5 f6 f7 f8 := h.below (below_alloc (Below.refl _ _) o)
theorem IsS57.drewN {w0 W : World} {g : Nat} {f0 : Bool} {f1 : Int} {f2 : Int} {f3 : Int} {f4 : Int} {f5 : Int} {f6 : Int} {f7 : Int} {f8 : Int} (h : IsS57 w0 W g f0 f1 f2 f3 f4 f5 f6 f7 f8) (m : Nat) : IsS57 w0 (W.drewN m) g f0 f1 f2 f3 f4 f5 f6 f7 f8 := h
theorem IsS57.drew {w0 W : World} {g : Nat} {f0 : Bool} {f1 : Int} {f2 : Int} {f3 : Int} {f4 : Int} {f5 : Int} {f6 : Int} {f7 : Int} {f8 : Int} (h : IsS57 w0 W g f0 f1 f2 f3 f4 f5 f6 f7 f8) : IsS57 w0 W.drew g f0 f1 f2 f3 f4 f5 f6 f7 f8 := h
theorem IsS57.at_ {w0 W : World} {g : Nat} {f0 : Bool} {f1 : Int} {f2 : Int} {f3 : Int} {f4 : Int} {f5 : Int} {f6 : Int} {f7 : Int} {f8 : Int} {w' : World} {m : Nat} (hq : W.drewN m = w') (h : IsS57 w0 W g f0 f1 f2 f3 f4 f5 f6 f7 f8) : IsS57 w0 w' g f0 f1 f2 f3 f4 f5 f6 f7 f8 := by subst hq; exact IsS57.drewN h m
theorem IsS57.apart {w0 W : World} {g : Nat} {f0 : Bool} {f1 : Int} {f2 : Int} {f3 : Int} {f4 : Int} {f5 : Int} {f6 : Int} {f7 : Int} {f8 : Int} {α : Type} {d : Kd α} {e : Nat} {base : Nat} {ok : Nat → Prop} {v : Value} {xs : List α} (h : IsS57 w0 W g f0 f1 f2 f3 f4 f5 f6 f7 f8) (ho : d.R e W base ok v xs) (ht : ∀ q, q ∈ e :: d.E → q ≠ 57) : d.R e W base (fun k => ok k ∧ k ≠ g) v xs := by
  obtain ⟨hb, hg⟩ := h
  exact Kd.R_types ho hb ht
theorem IsS57.own_ne {w0 W : World} {g : Nat} {f0 : Bool} {f1 : Int} {f2 : Int} {f3 : Int} {f4 : Int} {f5 : Int} {f6 : Int} {f7 : Int} {f8 : Int} {α : Type} {d : Kd α} {e : Nat} {base : Nat} {ok : Nat → Prop} {v : Value} {xs : List α} (h : IsS57 w0 W g f0 f1 f2 f3 f4 f5 f6 f7 f8) (ho : d.R e W base ok v xs) (ht : e ≠ 57) : some g ≠ v.ownBlock := by
  obtain ⟨hb, hg⟩ := h
  exact Kd.R_ne ho hb ht
theorem IsS57.apartQ {w0 W : World} {g : Nat} {f0 : Bool} {f1 : Int} {f2 : Int} {f3 : Int} {f4 : Int} {f5 : Int} {f6 : Int} {f7 : Int} {f8 : Int} {α : Type} {d : Kd α} {e : Nat} {base : Nat} {ok : Nat → Prop} {v : Value} {xs : List α} (h : IsS57 w0 W g f0 f1 f2 f3 f4 f5 f6 f7 f8) (ho : d.Q e W base ok v xs) (ht : ∀ q, q ∈ e :: d.E → q ≠ 57) : d.Q e W base (fun k => ok k ∧ k ≠ g) v xs := by
  obtain ⟨hb, hg⟩ := h
  exact Kd.Q_types ho hb ht
theorem IsS57.own_neQ {w0 W : World} {g : Nat} {f0 : Bool} {f1 : Int} {f2 : Int} {f3 : Int} {f4 : Int} {f5 : Int} {f6 : Int} {f7 : Int} {f8 : Int} {α : Type} {d : Kd α} {e : Nat} {base : Nat} {ok : Nat → Prop} {v : Value} {xs : List α} (h : IsS57 w0 W g f0 f1 f2 f3 f4 f5 f6 f7 f8) (ho : d.Q e W base ok v xs) (ht : e ≠ 57) : some g ≠ v.ownBlock := by
  obtain ⟨hb, hg⟩ := h
  exact Kd.Q_ne ho hb ht
theorem IsS57.apartS {w0 W : World} {g : Nat} {f0 : Bool} {f1 : Int} {f2 : Int} {f3 : Int} {f4 : Int} {f5 : Int} {f6 : Int} {f7 : Int} {f8 : Int} {α : Type} {d : Kd α} {e : Nat} {base : Nat} {ok : Nat → Prop} {v : Value} {xs : List α} (h : IsS57 w0 W g f0 f1 f2 f3 f4 f5 f6 f7 f8) (ho : d.S e W base ok v xs) (ht : ∀ q, q ∈ e :: d.E → q ≠ 57) : d.S e W base (fun k => ok k ∧ k ≠ g) v xs := by
  obtain ⟨hb, hg⟩ := h
  exact Kd.S_types ho hb ht
theorem IsS57.own_neS {w0 W : World} {g : Nat} {f0 : Bool} {f1 : Int} {f2 : Int} {f3 : Int} {f4 : Int} {f5 : Int} {f6 : Int} {f7 : Int} {f8 : Int} {α : Type} {d : Kd α} {e : Nat} {base : Nat} {ok : Nat → Prop} {v : Value} {xs : List α} (h : IsS57 w0 W g f0 f1 f2 f3 f4 f5 f6 f7 f8) (ho : d.S e W base ok v xs) (ht : e ≠ 57) : some g ≠ v.ownBlock := by
  obtain ⟨hb, hg⟩ := h
  exact Kd.S_ne ho hb ht
theorem IsS57.lt {w0 W : World} {g : Nat} {f0 : Bool} {f1 : Int} {f2 : Int} {f3 : Int} {f4 : Int} {f5 : Int} {f6 : Int} {f7 : Int} {f8 : Int} (h : IsS57 w0 W g f0 f1 f2 f3 f4 f5 f6 f7 f8) : g < W.heap.size := by
  obtain ⟨hb, hg⟩ := h
  exact blk_lt hb
theorem IsS57.ge {w0 W : World} {g : Nat} {f0 : Bool} {f1 : Int} {f2 : Int} {f3 : Int} {f4 : Int} {f5 : Int} {f6 : Int} {f7 : Int} {f8 : Int} (h : IsS57 w0 W g f0 f1 f2 f3 f4 f5 f6 f7 f8) : w0.heap.size ≤ g := by
  obtain ⟨hb, hg⟩ := h
  exact hg
theorem IsS57.ne_blk {w0 W : World} {g : Nat} {f0 : Bool} {f1 : Int} {f2 : Int} {f3 : Int} {f4 : Int} {f5 : Int} {f6 : Int} {f7 : Int} {f8 : Int} {a : Nat} {cs : Array Value} {t : TypeId} {fr : Nat × Nat} (h : IsS57 w0 W g f0 f1 f2 f3 f4 f5 f6 f7 f8) (hb2 : W.heap[a]? = some (.cells cs t fr)) (ht : t ≠ 57) : g ≠ a := by
  obtain ⟨hb, hg⟩ := h
  rintro rfl
  rw [hb] at hb2
  injection hb2 with hb2
  injection hb2 with _ ht2
  exact ht ht2.symm
theorem IsS57.far {w0 W : World} {g : Nat} {f0 : Bool} {f1 : Int} {f2 : Int} {f3 : Int} {f4 : Int} {f5 : Int} {f6 : Int} {f7 : Int} {f8 : Int} {p : Addr} (h : IsS57 w0 W g f0 f1 f2 f3 f4 f5 f6 f7 f8) (hne : g ≠ p.block) (u : Value) : IsS57 w0 (W.setCell p u) g f0 f1 f2 f3 f4 f5 f6 f7 f8 := by
  obtain ⟨hb, hg⟩ := h
  exact ⟨blk_far hb hne u, hg⟩
theorem cellS57_0 {W : World} {g : Nat} {f0 : Bool} {f1 : Int} {f2 : Int} {f3 : Int} {f4 : Int} {f5 : Int} {f6 : Int} {f7 : Int} {f8 : Int} (h : W.heap[g]? = some (.cells #[.bool f0, .int .i64 f1, .int .i64 f2, .int .i64 f3, .int .i64 f4, .int .i64 f5, .int .i16 f6, .int .i64 f7, .int .i64 f8] 57 (0, 0))) : W.cell? ⟨g, 0, none⟩ = some (.bool f0) := (blk_cell h 0).trans rfl
theorem IsS57.set_0 {w0 W : World} {g : Nat} {f0 : Bool} {f1 : Int} {f2 : Int} {f3 : Int} {f4 : Int} {f5 : Int} {f6 : Int} {f7 : Int} {f8 : Int} (h : IsS57 w0 W g f0 f1 f2 f3 f4 f5 f6 f7 f8) (x : Bool) : IsS57 w0 (W.setCell ⟨g, 0, none⟩ (.bool x)) g x f1 f2 f3 f4 f5 f6 f7 f8 := by
  obtain ⟨hb, hg⟩ := h
  exact ⟨by simpa using blk_set hb 0 (.bool x), hg⟩
theorem cellS57_1 {W : World} {g : Nat} {f0 : Bool} {f1 : Int} {f2 : Int} {f3 : Int} {f4 : Int} {f5 : Int} {f6 : Int} {f7 : Int} {f8 : Int} (h : W.heap[g]? = some (.cells #[.bool f0, .int .i64 f1, .int .i64 f2, .int .i64 f3, .int .i64 f4, .int .i64 f5, .int .i16 f6, .int .i64 f7, .int .i64 f8] 57 (0, 0))) : W.cell? ⟨g, 1, none⟩ = some (.int .i64 f1) := (blk_cell h 1).trans rfl
theorem IsS57.set_1 {w0 W : World} {g : Nat} {f0 : Bool} {f1 : Int} {f2 : Int} {f3 : Int} {f4 : Int} {f5 : Int} {f6 : Int} {f7 : Int} {f8 : Int} (h : IsS57 w0 W g f0 f1 f2 f3 f4 f5 f6 f7 f8) (x : Int) : IsS57 w0 (W.setCell ⟨g, 1, none⟩ (.int .i64 x)) g f0 x f2 f3 f4 f5 f6 f7 f8 := by
  obtain ⟨hb, hg⟩ := h
  exact ⟨by simpa using blk_set hb 1 (.int .i64 x), hg⟩
theorem cellS57_2 {W : World} {g : Nat} {f0 : Bool} {f1 : Int} {f2 : Int} {f3 : Int} {f4 : Int} {f5 : Int} {f6 : Int} {f7 : Int} {f8 : Int} (h : W.heap[g]? = some (.cells #[.bool f0, .int .i64 f1, .int .i64 f2, .int .i64 f3, .int .i64 f4, .int .i64 f5, .int .i16 f6, .int .i64 f7, .int .i64 f8] 57 (0, 0))) : W.cell? ⟨g, 2, none⟩ = some (.int .i64 f2) := (blk_cell h 2).trans rfl
theorem IsS57.set_2 {w0 W : World} {g : Nat} {f0 : Bool} {f1 : Int} {f2 : Int} {f3 : Int} {f4 : Int} {f5 : Int} {f6 : Int} {f7 : Int} {f8 : Int} (h : IsS57 w0 W g f0 f1 f2 f3 f4 f5 f6 f7 f8) (x : Int) : IsS57 w0 (W.setCell ⟨g, 2, none⟩ (.int .i64 x)) g f0 f1 x f3 f4 f5 f6 f7 f8 := by
  obtain ⟨hb, hg⟩ := h
  exact ⟨by simpa using blk_set hb 2 (.int .i64 x), hg⟩
theorem cellS57_3 {W : World} {g : Nat} {f0 : Bool} {f1 : Int} {f2 : Int} {f3 : Int} {f4 : Int} {f5 : Int} {f6 : Int} {f7 : Int} {f8 : Int} (h : W.heap[g]? = some (.cells #[.bool f0, .int .i64 f1, .int .i64 f2, .int .i64 f3, .int .i64 f4, .int .i64 f5, .int .i16 f6, .int .i64 f7, .int .i64 f8] 57 (0, 0))) : W.cell? ⟨g, 3, none⟩ = some (.int .i64 f3) := (blk_cell h 3).trans rfl
theorem IsS57.set_3 {w0 W : World} {g : Nat} {f0 : Bool} {f1 : Int} {f2 : Int} {f3 : Int} {f4 : Int} {f5 : Int} {f6 : Int} {f7 : Int} {f8 : Int} (h : IsS57 w0 W g f0 f1 f2 f3 f4 f5 f6 f7 f8) (x : Int) : IsS57 w0 (W.setCell ⟨g, 3, none⟩ (.int .i64 x)) g f0 f1 f2 x f4 f5 f6 f7 f8 := by
  obtain ⟨hb, hg⟩ := h
  exact ⟨by simpa using blk_set hb 3 (.int .i64 x), hg⟩
theorem cellS57_4 {W : World} {g : Nat} {f0 : Bool} {f1 : Int} {f2 : Int} {f3 : Int} {f4 : Int} {f5 : Int} {f6 : Int} {f7 : Int} {f8 : Int} (h : W.heap[g]? = some (.cells #[.bool f0, .int .i64 f1, .int .i64 f2, .int .i64 f3, .int .i64 f4, .int .i64 f5, .int .i16 f6, .int .i64 f7, .int .i64 f8] 57 (0, 0))) : W.cell? ⟨g, 4, none⟩ = some (.int .i64 f4) := (blk_cell h 4).trans rfl
theorem IsS57.set_4 {w0 W : World} {g : Nat} {f0 : Bool} {f1 : Int} {f2 : Int} {f3 : Int} {f4 : Int} {f5 : Int} {f6 : Int} {f7 : Int} {f8 : Int} (h : IsS57 w0 W g f0 f1 f2 f3 f4 f5 f6 f7 f8) (x : Int) : IsS57 w0 (W.setCell ⟨g, 4, none⟩ (.int .i64 x)) g f0 f1 f2 f3 x f5 f6 f7 f8 := by
  obtain ⟨hb, hg⟩ := h
  exact ⟨by simpa using blk_set hb 4 (.int .i64 x), hg⟩
theorem cellS57_5 {W : World} {g : Nat} {f0 : Bool} {f1 : Int} {f2 : Int} {f3 : Int} {f4 : Int} {f5 : Int} {f6 : Int} {f7 : Int} {f8 : Int} (h : W.heap[g]? = some (.cells #[.bool f0, .int .i64 f1, .int .i64 f2, .int .i64 f3, .int .i64 f4, .int .i64 f5, .int .i16 f6, .int .i64 f7, .int .i64 f8] 57 (0, 0))) : W.cell? ⟨g, 5, none⟩ = some (.int .i64 f5) := (blk_cell h 5).trans rfl
theorem IsS57.set_5 {w0 W : World} {g : Nat} {f0 : Bool} {f1 : Int} {f2 : Int} {f3 : Int} {f4 : Int} {f5 : Int} {f6 : Int} {f7 : Int} {f8 : Int} (h : IsS57 w0 W g f0 f1 f2 f3 f4 f5 f6 f7 f8) (x : Int) : IsS57 w0 (W.setCell ⟨g, 5, none⟩ (.int .i64 x)) g f0 f1 f2 f3 f4 x f6 f7 f8 := by
  obtain ⟨hb, hg⟩ := h
  exact ⟨by simpa using blk_set hb 5 (.int .i64 x), hg⟩
theorem cellS57_6 {W : World} {g : Nat} {f0 : Bool} {f1 : Int} {f2 : Int} {f3 : Int} {f4 : Int} {f5 : Int} {f6 : Int} {f7 : Int} {f8 : Int} (h : W.heap[g]? = some (.cells #[.bool f0, .int .i64 f1, .int .i64 f2, .int .i64 f3, .int .i64 f4, .int .i64 f5, .int .i16 f6, .int .i64 f7, .int .i64 f8] 57 (0, 0))) : W.cell? ⟨g, 6, none⟩ = some (.int .i16 f6) := (blk_cell h 6).trans rfl
theorem IsS57.set_6 {w0 W : World} {g : Nat} {f0 : Bool} {f1 : Int} {f2 : Int} {f3 : Int} {f4 : Int} {f5 : Int} {f6 : Int} {f7 : Int} {f8 : Int} (h : IsS57 w0 W g f0 f1 f2 f3 f4 f5 f6 f7 f8) (x : Int) : IsS57 w0 (W.setCell ⟨g, 6, none⟩ (.int .i16 x)) g f0 f1 f2 f3 f4 f5 x f7 f8 := by
  obtain ⟨hb, hg⟩ := h
  exact ⟨by simpa using blk_set hb 6 (.int .i16 x), hg⟩
theorem cellS57_7 {W : World} {g : Nat} {f0 : Bool} {f1 : Int} {f2 : Int} {f3 : Int} {f4 : Int} {f5 : Int} {f6 : Int} {f7 : Int} {f8 : Int} (h : W.heap[g]? = some (.cells #[.bool f0, .int .i64 f1, .int .i64 f2, .int .i64 f3, .int .i64 f4, .int .i64 f5, .int .i16 f6, .int .i64 f7, .int .i64 f8] 57 (0, 0))) : W.cell? ⟨g, 7, none⟩ = some (.int .i64 f7) := (blk_cell h 7).trans rfl
theorem IsS57.set_7 {w0 W : World} {g : Nat} {f0 : Bool} {f1 : Int} {f2 : Int} {f3 : Int} {f4 : Int} {f5 : Int} {f6 : Int} {f7 : Int} {f8 : Int} (h : IsS57 w0 W g f0 f1 f2 f3 f4 f5 f6 f7 f8) (x : Int) : IsS57 w0 (W.setCell ⟨g, 7, none⟩ (.int .i64 x)) g f0 f1 f2 f3 f4 f5 f6 x f8 := by
  obtain ⟨hb, hg⟩ := h
  exact ⟨by simpa using blk_set hb 7 (.int .i64 x), hg⟩
theorem cellS57_8 {W : World} {g : Nat} {f0 : Bool} {f1 : Int} {f2 : Int} {f3 : Int} {f4 : Int} {f5 : Int} {f6 : Int} {f7 : Int} {f8 : Int} (h : W.heap[g]? = some (.cells #[.bool f0, .int .i64 f1, .int .i64 f2, .int .i64 f3, .int .i64 f4, .int .i64 f5, .int .i16 f6, .int .i64 f7, .int .i64 f8] 57 (0, 0))) : W.cell? ⟨g, 8, none⟩ = some (.int .i64 f8) := (blk_cell h 8).trans rfl
theorem IsS57.set_8 {w0 W : World} {g : Nat} {f0 : Bool} {f1 : Int} {f2 : Int} {f3 : Int} {f4 : Int} {f5 : Int} {f6 : Int} {f7 : Int} {f8 : Int} (h : IsS57 w0 W g f0 f1 f2 f3 f4 f5 f6 f7 f8) (x : Int) : IsS57 w0 (W.setCell ⟨g, 8, none⟩ (.int .i64 x)) g f0 f1 f2 f3 f4 f5 f6 f7 x := by
  obtain ⟨hb, hg⟩ := h
  exact ⟨by simpa using blk_set hb 8 (.int .i64 x), hg⟩
theorem IsS57.new (w0 W : World) (f0 : Bool) (f1 : Int) (f2 : Int) (f3 : Int) (f4 : Int) (f5 : Int) (f6 : Int) (f7 : Int) (f8 : Int) (hB : Below w0.heap.size w0 W) : IsS57 w0 (W.alloc (.cells #[.bool f0, .int .i64 f1, .int .i64 f2, .int .i64 f3, .int .i64 f4, .int .i64 f5, .int .i16 f6, .int .i64 f7, .int .i64 f8] 57)) W.heap.size f0 f1 f2 f3 f4 f5 f6 f7 f8 := ⟨by simpa using heap_alloc_new W _, hB.size⟩

/-! ### verify_machine_allowed: function 25 -/
mutual
def verify_machine_allowed.j0 : Nat → Bool → Bool → Int → Int → Int → Int → Int → Int → Int → Int → Int → Int → Int → Int → Int → Int → Option (Bool × Bool × Int × Int × Int × Int × Int × Int × Int × Int)
  | 0, _, _, _, _, _, _, _, _, _, _, _, _, _, _, _, _ => none
  | k + 1, x5, x1000, x1001, x1002, x1003, x1004, x1005, x1006, x1007, x1008, x103000, x103001, x103002, x103003, x103004, x103005 => if x103000 = 1 then (if x1000 = true then (some ((x1002 == 10), x1000, x1001, x1002, x1003, x1004, x1005, x1006, x1007, x1008)) else (some (true, x1000, x1001, x1002, x1003, x1004, x1005, x1006, x1007, x1008))) else (if x103000 = 2 then (verify_machine_allowed.j1 k x5 x103000 (x103000 == 2) x1000 x1001 x1002 x1003 x1004 x1005 x1006 x1007 x1008 x103000 x103001 x103002 x103003 x103004 x103005) else (verify_machine_allowed.j1 k x5 x103000 (x103000 == 7) x1000 x1001 x1002 x1003 x1004 x1005 x1006 x1007 x1008 x103000 x103001 x103002 x103003 x103004 x103005))
def verify_machine_allowed.j1 : Nat → Bool → Int → Bool → Bool → Int → Int → Int → Int → Int → Int → Int → Int → Int → Int → Int → Int → Int → Int → Option (Bool × Bool × Int × Int × Int × Int × Int × Int × Int × Int)
  | 0, _, _, _, _, _, _, _, _, _, _, _, _, _, _, _, _, _, _ => none
  | k + 1, x5, x20, x36, x1000, x1001, x1002, x1003, x1004, x1005, x1006, x1007, x1008, x103000, x103001, x103002, x103003, x103004, x103005 => if x36 = true then (some (x1000, x1000, x1001, x1002, x1003, x1004, x1005, x1006, x1007, x1008)) else (if x20 = 10 then (verify_machine_allowed.j2 k x5 x20 (x20 == 10) x1000 x1001 x1002 x1003 x1004 x1005 x1006 x1007 x1008 x103000 x103001 x103002 x103003 x103004 x103005) else (verify_machine_allowed.j2 k x5 x20 (x20 == 3) x1000 x1001 x1002 x1003 x1004 x1005 x1006 x1007 x1008 x103000 x103001 x103002 x103003 x103004 x103005))
def verify_machine_allowed.j2 : Nat → Bool → Int → Bool → Bool → Int → Int → Int → Int → Int → Int → Int → Int → Int → Int → Int → Int → Int → Int → Option (Bool × Bool × Int × Int × Int × Int × Int × Int × Int × Int)
  | 0, _, _, _, _, _, _, _, _, _, _, _, _, _, _, _, _, _, _ => none
  | k + 1, x5, x20, x43, x1000, x1001, x1002, x1003, x1004, x1005, x1006, x1007, x1008, x103000, x103001, x103002, x103003, x103004, x103005 => if x43 = true then (if x1000 = true then (some (decide (x1001 < 0), x1000, x1001, x1002, x1003, x1004, x1005, x1006, x1007, x1008)) else (some (false, x1000, x1001, x1002, x1003, x1004, x1005, x1006, x1007, x1008))) else (if x20 = 4 then (verify_machine_allowed.j3 k x5 x20 (x20 == 4) x1000 x1001 x1002 x1003 x1004 x1005 x1006 x1007 x1008 x103000 x103001 x103002 x103003 x103004 x103005) else (if x20 = 12 then (verify_machine_allowed.j3 k x5 x20 (x20 == 12) x1000 x1001 x1002 x1003 x1004 x1005 x1006 x1007 x1008 x103000 x103001 x103002 x103003 x103004 x103005) else (if x20 = 11 then (verify_machine_allowed.j3 k x5 x20 (x20 == 11) x1000 x1001 x1002 x1003 x1004 x1005 x1006 x1007 x1008 x103000 x103001 x103002 x103003 x103004 x103005) else (verify_machine_allowed.j3 k x5 x20 (x20 == 5) x1000 x1001 x1002 x1003 x1004 x1005 x1006 x1007 x1008 x103000 x103001 x103002 x103003 x103004 x103005))))
def verify_machine_allowed.j3 : Nat → Bool → Int → Bool → Bool → Int → Int → Int → Int → Int → Int → Int → Int → Int → Int → Int → Int → Int → Int → Option (Bool × Bool × Int × Int × Int × Int × Int × Int × Int × Int)
  | 0, _, _, _, _, _, _, _, _, _, _, _, _, _, _, _, _, _, _ => none
  | k + 1, x5, x20, x57, x1000, x1001, x1002, x1003, x1004, x1005, x1006, x1007, x1008, x103000, x103001, x103002, x103003, x103004, x103005 => if x57 = true then (some (x5, x1000, x1001, x1002, x1003, x1004, x1005, x1006, x1007, x1008)) else (if x20 = 6 then (if x5 = true then (if x1002 = 5 then (some ((x1004 == x103002), x1000, x1001, x1002, x1003, x1004, x1005, x1006, x1007, x1008)) else (some (false, x1000, x1001, x1002, x1003, x1004, x1005, x1006, x1007, x1008))) else (some (false, x1000, x1001, x1002, x1003, x1004, x1005, x1006, x1007, x1008))) else (if x20 = 9 then (if x1000 = true then (if x1001 < 0 then (some (true, x1000, x1001, x1002, x1003, x1004, x1005, x1006, x1007, x1008)) else (some (x5, x1000, x1001, x1002, x1003, x1004, x1005, x1006, x1007, x1008))) else (some (false, x1000, x1001, x1002, x1003, x1004, x1005, x1006, x1007, x1008))) else (some (true, x1000, x1001, x1002, x1003, x1004, x1005, x1006, x1007, x1008))))
end
def verify_machine_allowed.f (k : Nat) (s0_0 : Bool) (s0_1 : Int) (s0_2 : Int) (s0_3 : Int) (s0_4 : Int) (s0_5 : Int) (s0_6 : Int) (s0_7 : Int) (s0_8 : Int) (a1_0 : Int) (a1_1 : Int) (a1_2 : Int) (a1_3 : Int) (a1_4 : Int) (a1_5 : Int) : Option (Bool × Bool × Int × Int × Int × Int × Int × Int × Int × Int) := if s0_0 = true then (verify_machine_allowed.j0 k (s0_1 == a1_2) s0_0 s0_1 s0_2 s0_3 s0_4 s0_5 s0_6 s0_7 s0_8 a1_0 a1_1 a1_2 a1_3 a1_4 a1_5) else (verify_machine_allowed.j0 k false s0_0 s0_1 s0_2 s0_3 s0_4 s0_5 s0_6 s0_7 s0_8 a1_0 a1_1 a1_2 a1_3 a1_4 a1_5)
theorem verify_machine_allowed.mono_l : ∀ k, (∀ y0 y1 y2 y3 y4 y5 y6 y7 y8 y9 y10 y11 y12 y13 y14 y15, LeO (verify_machine_allowed.j0 k y0 y1 y2 y3 y4 y5 y6 y7 y8 y9 y10 y11 y12 y13 y14 y15) (verify_machine_allowed.j0 (k + 1) y0 y1 y2 y3 y4 y5 y6 y7 y8 y9 y10 y11 y12 y13 y14 y15)) ∧ (∀ y0 y1 y2 y3 y4 y5 y6 y7 y8 y9 y10 y11 y12 y13 y14 y15 y16 y17, LeO (verify_machine_allowed.j1 k y0 y1 y2 y3 y4 y5 y6 y7 y8 y9 y10 y11 y12 y13 y14 y15 y16 y17) (verify_machine_allowed.j1 (k + 1) y0 y1 y2 y3 y4 y5 y6 y7 y8 y9 y10 y11 y12 y13 y14 y15 y16 y17)) ∧ (∀ y0 y1 y2 y3 y4 y5 y6 y7 y8 y9 y10 y11 y12 y13 y14 y15 y16 y17, LeO (verify_machine_allowed.j2 k y0 y1 y2 y3 y4 y5 y6 y7 y8 y9 y10 y11 y12 y13 y14 y15 y16 y17) (verify_machine_allowed.j2 (k + 1) y0 y1 y2 y3 y4 y5 y6 y7 y8 y9 y10 y11 y12 y13 y14 y15 y16 y17)) ∧ (∀ y0 y1 y2 y3 y4 y5 y6 y7 y8 y9 y10 y11 y12 y13 y14 y15 y16 y17, LeO (verify_machine_allowed.j3 k y0 y1 y2 y3 y4 y5 y6 y7 y8 y9 y10 y11 y12 y13 y14 y15 y16 y17) (verify_machine_allowed.j3 (k + 1) y0 y1 y2 y3 y4 y5 y6 y7 y8 y9 y10 y11 y12 y13 y14 y15 y16 y17))
  | 0 => ⟨fun _ _ _ _ _ _ _ _ _ _ _ _ _ _ _ _ r h => by simp [verify_machine_allowed.j0] at h, fun _ _ _ _ _ _ _ _ _ _ _ _ _ _ _ _ _ _ r h => by simp [verify_machine_allowed.j1] at h, fun _ _ _ _ _ _ _ _ _ _ _ _ _ _ _ _ _ _ r h => by simp [verify_machine_allowed.j2] at h, fun _ _ _ _ _ _ _ _ _ _ _ _ _ _ _ _ _ _ r h => by simp [verify_machine_allowed.j3] at h⟩
  | k + 1 => by
    obtain ⟨ih0, ih1, ih2, ih3⟩ := verify_machine_allowed.mono_l k
    refine ⟨?_, ?_, ?_, ?_⟩
    · intro y0 y1 y2 y3 y4 y5 y6 y7 y8 y9 y10 y11 y12 y13 y14 y15
      unfold verify_machine_allowed.j0
      repeat' first
      | (with_reducible exact ih0 _ _ _ _ _ _ _ _ _ _ _ _ _ _ _ _)
      | (with_reducible exact ih1 _ _ _ _ _ _ _ _ _ _ _ _ _ _ _ _ _ _)
      | (with_reducible exact ih2 _ _ _ _ _ _ _ _ _ _ _ _ _ _ _ _ _ _)
      | (with_reducible exact ih3 _ _ _ _ _ _ _ _ _ _ _ _ _ _ _ _ _ _)
      | (with_reducible exact LeO.refl _)
      | (with_reducible exact LeO.none _)
      | (with_reducible refine LeO.ite ?_ ?_)
      | (with_reducible refine LeO.bind ?_ (fun _ => ?_))
      | exact ih0 _ _ _ _ _ _ _ _ _ _ _ _ _ _ _ _
      | exact ih1 _ _ _ _ _ _ _ _ _ _ _ _ _ _ _ _ _ _
      | exact ih2 _ _ _ _ _ _ _ _ _ _ _ _ _ _ _ _ _ _
      | exact ih3 _ _ _ _ _ _ _ _ _ _ _ _ _ _ _ _ _ _
      | exact LeO.none _
      | refine LeO.ite ?_ ?_
      | refine LeO.bind ?_ (fun _ => ?_)
    · intro y0 y1 y2 y3 y4 y5 y6 y7 y8 y9 y10 y11 y12 y13 y14 y15 y16 y17
      unfold verify_machine_allowed.j1
      repeat' first
      | (with_reducible exact ih0 _ _ _ _ _ _ _ _ _ _ _ _ _ _ _ _)
      | (with_reducible exact ih1 _ _ _ _ _ _ _ _ _ _ _ _ _ _ _ _ _ _)
      | (with_reducible exact ih2 _ _ _ _ _ _ _ _ _ _ _ _ _ _ _ _ _ _)
      | (with_reducible exact ih3 _ _ _ _ _ _ _ _ _ _ _ _ _ _ _ _ _ _)
      | (with_reducible exact LeO.refl _)
      | (with_reducible exact LeO.none _)
      | (with_reducible refine LeO.ite ?_ ?_)
      | (with_reducible refine LeO.bind ?_ (fun _ => ?_))
      | exact ih0 _ _ _ _ _ _ _ _ _ _ _ _ _ _ _ _
      | exact ih1 _ _ _ _ _ _ _ _ _ _ _ _ _ _ _ _ _ _
      | exact ih2 _ _ _ _ _ _ _ _ _ _ _ _ _ _ _ _ _ _
      | exact ih3 _ _ _ _ _ _ _ _ _ _ _ _ _ _ _ _ _ _
      | exact LeO.none _
      | refine LeO.ite ?_ ?_
      | refine LeO.bind ?_ (fun _ => ?_)
    · intro y0 y1 y2 y3 y4 y5 y6 y7 y8 y9 y10 y11 y12 y13 y14 y15 y16 y17
      unfold verify_machine_allowed.j2
      repeat' first
      | (with_reducible exact ih0 _ _ _ _ _ _ _ _ _ _ _ _ _ _ _ _)
      | (with_reducible exact ih1 _ _ _ _ _ _ _ _ _ _ _ _ _ _ _ _ _ _)
      | (with_reducible exact ih2 _ _ _ _ _ _ _ _ _ _ _ _ _ _ _ _ _ _)
      | (with_reducible exact ih3 _ _ _ _ _ _ _ _ _ _ _ _ _ _ _ _ _ _)
      | (with_reducible exact LeO.refl _)
      | (with_reducible exact LeO.none _)
      | (with_reducible refine LeO.ite ?_ ?_)
      | (with_reducible refine LeO.bind ?_ (fun _ => ?_))
      | exact ih0 _ _ _ _ _ _ _ _ _ _ _ _ _ _ _ _
      | exact ih1 _ _ _ _ _ _ _ _ _ _ _ _ _ _ _ _ _ _
      | exact ih2 _ _ _ _ _ _ _ _ _ _ _ _ _ _ _ _ _ _
      | exact ih3 _ _ _ _ _ _ _ _ _ _ _ _ _ _ _ _ _ _
      | exact LeO.none _
      | refine LeO.ite ?_ ?_
      | refine LeO.bind ?_ (fun _ => ?_)
    · intro y0 y1 y2 y3 y4 y5 y6 y7 y8 y9 y10 y11 y12 y13 y14 y15 y16 y17
      unfold verify_machine_allowed.j3
      repeat' first
      | (with_reducible exact ih0 _ _ _ _ _ _ _ _ _ _ _ _ _ _ _ _)
      | (with_reducible exact ih1 _ _ _ _ _ _ _ _ _ _ _ _ _ _ _ _ _ _)
      | (with_reducible exact ih2 _ _ _ _ _ _ _ _ _ _ _ _ _ _ _ _ _ _)
      | (with_reducible exact ih3 _ _ _ _ _ _ _ _ _ _ _ _ _ _ _ _ _ _)
      | (with_reducible exact LeO.refl _)
      | (with_reducible exact LeO.none _)
      | (with_reducible refine LeO.ite ?_ ?_)
      | (with_reducible refine LeO.bind ?_ (fun _ => ?_))
      | exact ih0 _ _ _ _ _ _ _ _ _ _ _ _ _ _ _ _
      | exact ih1 _ _ _ _ _ _ _ _ _ _ _ _ _ _ _ _ _ _
      | exact ih2 _ _ _ _ _ _ _ _ _ _ _ _ _ _ _ _ _ _
      | exact ih3 _ _ _ _ _ _ _ _ _ _ _ _ _ _ _ _ _ _
      | exact LeO.none _
      | refine LeO.ite ?_ ?_
      | refine LeO.bind ?_ (fun _ => ?_)
theorem verify_machine_allowed.mono : ∀ a0 a1 a2 a3 a4 a5 a6 a7 a8 a9 a10 a11 a12 a13 a14 k, LeO (verify_machine_allowed.f k a0 a1 a2 a3 a4 a5 a6 a7 a8 a9 a10 a11 a12 a13 a14) (verify_machine_allowed.f (k + 1) a0 a1 a2 a3 a4 a5 a6 a7 a8 a9 a10 a11 a12 a13 a14) := by
  intro a0 a1 a2 a3 a4 a5 a6 a7 a8 a9 a10 a11 a12 a13 a14 k
  obtain ⟨ih0, ih1, ih2, ih3⟩ := verify_machine_allowed.mono_l k
  unfold verify_machine_allowed.f
  repeat' first
      | (with_reducible exact ih0 _ _ _ _ _ _ _ _ _ _ _ _ _ _ _ _)
      | (with_reducible exact ih1 _ _ _ _ _ _ _ _ _ _ _ _ _ _ _ _ _ _)
      | (with_reducible exact ih2 _ _ _ _ _ _ _ _ _ _ _ _ _ _ _ _ _ _)
      | (with_reducible exact ih3 _ _ _ _ _ _ _ _ _ _ _ _ _ _ _ _ _ _)
      | (with_reducible exact LeO.refl _)
      | (with_reducible exact LeO.none _)
      | (with_reducible refine LeO.ite ?_ ?_)
      | (with_reducible refine LeO.bind ?_ (fun _ => ?_))
      | exact ih0 _ _ _ _ _ _ _ _ _ _ _ _ _ _ _ _
      | exact ih1 _ _ _ _ _ _ _ _ _ _ _ _ _ _ _ _ _ _
      | exact ih2 _ _ _ _ _ _ _ _ _ _ _ _ _ _ _ _ _ _
      | exact ih3 _ _ _ _ _ _ _ _ _ _ _ _ _ _ _ _ _ _
      | exact LeO.none _
      | refine LeO.ite ?_ ?_
      | refine LeO.bind ?_ (fun _ => ?_)
set_option maxHeartbeats 8000000 in
set_option maxRecDepth 100000 in
theorem verify_machine_allowed.calls (k : Nat) (g : Nat) (s0_0 : Bool) (s0_1 : Int) (s0_2 : Int) (s0_3 : Int) (s0_4 : Int) (s0_5 : Int) (s0_6 : Int) (s0_7 : Int) (s0_8 : Int) (a1_0 : Int) (a1_1 : Int) (a1_2 : Int) (a1_3 : Int) (a1_4 : Int) (a1_5 : Int) (r1 : Bool) (r2 : Bool) (r3 : Int) (r4 : Int) (r5 : Int) (r6 : Int) (r7 : Int) (r8 : Int) (r9 : Int) (r10 : Int) (w0 w : World) (hI : IsS57 w0 w g s0_0 s0_1 s0_2 s0_3 s0_4 s0_5 s0_6 s0_7 s0_8) (hB : Below w0.heap.size w0 w) (h : verify_machine_allowed.f k s0_0 s0_1 s0_2 s0_3 s0_4 s0_5 s0_6 s0_7 s0_8 a1_0 a1_1 a1_2 a1_3 a1_4 a1_5 = some (r1, r2, r3, r4, r5, r6, r7, r8, r9, r10)) :
    Calls Tryd.prog 25 #[.pointer (some ⟨g, 0, none⟩), .agg #[.int .i64 a1_0, .int .i64 a1_1, .int .i64 a1_2, .int .i64 a1_3, .int .i16 a1_4, .int .i64 a1_5]] w fun e w' => e = .returned (.bool r1) ∧ IsS57 w0 w' g r2 r3 r4 r5 r6 r7 r8 r9 r10 ∧ Below w0.heap.size w0 w' ∧ KeepBut w w' g none := by
  have hu55 := Tryd.underlying55
  have HI0 := Aside0.mk hI
  have HK := Aside0.mk (KeepBut.refl w g none)
  have HL := Aside0.mk hB.size
  clear hI
  have HW0 := Aside0.mk hB.size
  have HB := Aside0.mk hB
  clear hB
  have H : (if s0_0 = true then (verify_machine_allowed.j0 k (s0_1 == a1_2) s0_0 s0_1 s0_2 s0_3 s0_4 s0_5 s0_6 s0_7 s0_8 a1_0 a1_1 a1_2 a1_3 a1_4 a1_5) else (verify_machine_allowed.j0 k false s0_0 s0_1 s0_2 s0_3 s0_4 s0_5 s0_6 s0_7 s0_8 a1_0 a1_1 a1_2 a1_3 a1_4 a1_5)) = some (r1, r2, r3, r4, r5, r6, r7, r8, r9, r10) := h
  clear h
  have HC3 := Aside0.mk H
  clear H
  go_enter Tryd.func25, Tryd.ntmps25
  go_upto_region 1 with (first | ((with_reducible refine gate_dst (N := 3) rfl ?_); refine box_event ?hg (N := 3) ?hd (cs := #[.int .i64 a1_0, .int .i64 a1_1, .int .i64 a1_2, .int .i64 a1_3, .int .i16 a1_4, .int .i64 a1_5]) (t := 55) ?hr ?_; (case hd => rfl); (case hg => rfl); (case hr => first | (go_simp; done) | (go_simp; rfl)); intro gb102 hg w4 hbox hb; have n0_ := Aside0.mk (IsS57.below (by repeat (first | (with_reducible first | exact HI0.out | apply IsS57.alloc | apply IsS57.drewN | apply IsS57.drew | apply IsS57.set_0 | apply IsS57.set_1 | apply IsS57.set_2 | apply IsS57.set_3 | apply IsS57.set_4 | apply IsS57.set_5 | apply IsS57.set_6 | apply IsS57.set_7 | apply IsS57.set_8) | exact HI0.out)) hb); have n1_ := Aside0.mk (KeepBut.trans (by repeat (first | (with_reducible first | exact HK.out | apply KeepBut.set_ | apply keep_drewN | apply keep_drew | apply keep_alloc) | exact HK.out)) (KeepBut.of_below hb g none) (.inl rfl)); have n2_ := Aside0.mk (below_step (by repeat (first | (with_reducible first | exact HB.out | apply below_alloc | apply pw_below_drewN | apply below_drew1 | refine below_set ?_ (IsS57.ge HI0.out)) | exact HB.out)) hb); have n3_ := Aside0.mk (hbox); have n4_ := Aside0.mk ((by rw [hg]; exact (keep_size (w := w) (g := g) (row := none) (by repeat (first | (with_reducible first | exact HK.out | apply KeepBut.set_ | apply keep_drewN | apply keep_drew | apply keep_alloc) | exact HK.out))) : w.heap.size ≤ gb102)); have n5_ := Aside0.mk ((Nat.le_trans HW0.out (by rw [hg]; exact (keep_size (w := w) (g := g) (row := none) (by repeat (first | (with_reducible first | exact HK.out | apply KeepBut.set_ | apply keep_drewN | apply keep_drew | apply keep_alloc) | exact HK.out))) : w.heap.size ≤ gb102) : w0.heap.size ≤ gb102)); have n6_ := Aside0.mk ((by rw [hg]; exact Nat.ne_of_lt (IsS57.lt (show IsS57 w0 _ g s0_0 s0_1 s0_2 s0_3 s0_4 s0_5 s0_6 s0_7 s0_8 from by repeat (first | (with_reducible first | exact HI0.out | apply IsS57.alloc | apply IsS57.drewN | apply IsS57.drew | apply IsS57.set_0 | apply IsS57.set_1 | apply IsS57.set_2 | apply IsS57.set_3 | apply IsS57.set_4 | apply IsS57.set_5 | apply IsS57.set_6 | apply IsS57.set_7 | apply IsS57.set_8) | exact HI0.out))) : g ≠ gb102)); have n7_ := Aside0.mk ((by rw [hg]; exact Nat.ne_of_gt (IsS57.lt (show IsS57 w0 _ g s0_0 s0_1 s0_2 s0_3 s0_4 s0_5 s0_6 s0_7 s0_8 from by repeat (first | (with_reducible first | exact HI0.out | apply IsS57.alloc | apply IsS57.drewN | apply IsS57.drew | apply IsS57.set_0 | apply IsS57.set_1 | apply IsS57.set_2 | apply IsS57.set_3 | apply IsS57.set_4 | apply IsS57.set_5 | apply IsS57.set_6 | apply IsS57.set_7 | apply IsS57.set_8) | exact HI0.out))) : gb102 ≠ g)); clear HI0; clear HK; clear HB; have HI0 := n0_; have HK := n1_; have HB := n2_; have BK102 := n3_; have GW102 := n4_; have GE102 := n5_; have NB0_102 := n6_; have NB102_0 := n7_; clear n0_ n1_ n2_ n3_ n4_ n5_ n6_ n7_; clear hb hbox hg))
  repeat (go_quiet (first | ((with_reducible refine gate_dst (N := 3) rfl ?_); refine box_event ?hg (N := 3) ?hd (cs := #[.int .i64 a1_0, .int .i64 a1_1, .int .i64 a1_2, .int .i64 a1_3, .int .i16 a1_4, .int .i64 a1_5]) (t := 55) ?hr ?_; (case hd => rfl); (case hg => rfl); (case hr => first | (go_simp; done) | (go_simp; rfl)); intro gb102 hg w4 hbox hb; have n0_ := Aside0.mk (IsS57.below (by repeat (first | (with_reducible first | exact HI0.out | apply IsS57.alloc | apply IsS57.drewN | apply IsS57.drew | apply IsS57.set_0 | apply IsS57.set_1 | apply IsS57.set_2 | apply IsS57.set_3 | apply IsS57.set_4 | apply IsS57.set_5 | apply IsS57.set_6 | apply IsS57.set_7 | apply IsS57.set_8) | exact HI0.out)) hb); have n1_ := Aside0.mk (KeepBut.trans (by repeat (first | (with_reducible first | exact HK.out | apply KeepBut.set_ | apply keep_drewN | apply keep_drew | apply keep_alloc) | exact HK.out)) (KeepBut.of_below hb g none) (.inl rfl)); have n2_ := Aside0.mk (below_step (by repeat (first | (with_reducible first | exact HB.out | apply below_alloc | apply pw_below_drewN | apply below_drew1 | refine below_set ?_ (IsS57.ge HI0.out)) | exact HB.out)) hb); have n3_ := Aside0.mk (hbox); have n4_ := Aside0.mk ((by rw [hg]; exact (keep_size (w := w) (g := g) (row := none) (by repeat (first | (with_reducible first | exact HK.out | apply KeepBut.set_ | apply keep_drewN | apply keep_drew | apply keep_alloc) | exact HK.out))) : w.heap.size ≤ gb102)); have n5_ := Aside0.mk ((Nat.le_trans HW0.out (by rw [hg]; exact (keep_size (w := w) (g := g) (row := none) (by repeat (first | (with_reducible first | exact HK.out | apply KeepBut.set_ | apply keep_drewN | apply keep_drew | apply keep_alloc) | exact HK.out))) : w.heap.size ≤ gb102) : w0.heap.size ≤ gb102)); have n6_ := Aside0.mk ((by rw [hg]; exact Nat.ne_of_lt (IsS57.lt (show IsS57 w0 _ g s0_0 s0_1 s0_2 s0_3 s0_4 s0_5 s0_6 s0_7 s0_8 from by repeat (first | (with_reducible first | exact HI0.out | apply IsS57.alloc | apply IsS57.drewN | apply IsS57.drew | apply IsS57.set_0 | apply IsS57.set_1 | apply IsS57.set_2 | apply IsS57.set_3 | apply IsS57.set_4 | apply IsS57.set_5 | apply IsS57.set_6 | apply IsS57.set_7 | apply IsS57.set_8) | exact HI0.out))) : g ≠ gb102)); have n7_ := Aside0.mk ((by rw [hg]; exact Nat.ne_of_gt (IsS57.lt (show IsS57 w0 _ g s0_0 s0_1 s0_2 s0_3 s0_4 s0_5 s0_6 s0_7 s0_8 from by repeat (first | (with_reducible first | exact HI0.out | apply IsS57.alloc | apply IsS57.drewN | apply IsS57.drew | apply IsS57.set_0 | apply IsS57.set_1 | apply IsS57.set_2 | apply IsS57.set_3 | apply IsS57.set_4 | apply IsS57.set_5 | apply IsS57.set_6 | apply IsS57.set_7 | apply IsS57.set_8) | exact HI0.out))) : gb102 ≠ g)); clear HI0; clear HK; clear HB; have HI0 := n0_; have HK := n1_; have HB := n2_; have BK102 := n3_; have GW102 := n4_; have GE102 := n5_; have NB0_102 := n6_; have NB102_0 := n7_; clear n0_ n1_ n2_ n3_ n4_ n5_ n6_ n7_; clear hb hbox hg)); go_upto_region 1 with (first | ((with_reducible refine gate_dst (N := 3) rfl ?_); refine box_event ?hg (N := 3) ?hd (cs := #[.int .i64 a1_0, .int .i64 a1_1, .int .i64 a1_2, .int .i64 a1_3, .int .i16 a1_4, .int .i64 a1_5]) (t := 55) ?hr ?_; (case hd => rfl); (case hg => rfl); (case hr => first | (go_simp; done) | (go_simp; rfl)); intro gb102 hg w4 hbox hb; have n0_ := Aside0.mk (IsS57.below (by repeat (first | (with_reducible first | exact HI0.out | apply IsS57.alloc | apply IsS57.drewN | apply IsS57.drew | apply IsS57.set_0 | apply IsS57.set_1 | apply IsS57.set_2 | apply IsS57.set_3 | apply IsS57.set_4 | apply IsS57.set_5 | apply IsS57.set_6 | apply IsS57.set_7 | apply IsS57.set_8) | exact HI0.out)) hb); have n1_ := Aside0.mk (KeepBut.trans (by repeat (first | (with_reducible first | exact HK.out | apply KeepBut.set_ | apply keep_drewN | apply keep_drew | apply keep_alloc) | exact HK.out)) (KeepBut.of_below hb g none) (.inl rfl)); have n2_ := Aside0.mk (below_step (by repeat (first | (with_reducible first | exact HB.out | apply below_alloc | apply pw_below_drewN | apply below_drew1 | refine below_set ?_ (IsS57.ge HI0.out)) | exact HB.out)) hb); have n3_ := Aside0.mk (hbox); have n4_ := Aside0.mk ((by rw [hg]; exact (keep_size (w := w) (g := g) (row := none) (by repeat (first | (with_reducible first | exact HK.out | apply KeepBut.set_ | apply keep_drewN | apply keep_drew | apply keep_alloc) | exact HK.out))) : w.heap.size ≤ gb102)); have n5_ := Aside0.mk ((Nat.le_trans HW0.out (by rw [hg]; exact (keep_size (w := w) (g := g) (row := none) (by repeat (first | (with_reducible first | exact HK.out | apply KeepBut.set_ | apply keep_drewN | apply keep_drew | apply keep_alloc) | exact HK.out))) : w.heap.size ≤ gb102) : w0.heap.size ≤ gb102)); have n6_ := Aside0.mk ((by rw [hg]; exact Nat.ne_of_lt (IsS57.lt (show IsS57 w0 _ g s0_0 s0_1 s0_2 s0_3 s0_4 s0_5 s0_6 s0_7 s0_8 from by repeat (first | (with_reducible first | exact HI0.out | apply IsS57.alloc | apply IsS57.drewN | apply IsS57.drew | apply IsS57.set_0 | apply IsS57.set_1 | apply IsS57.set_2 | apply IsS57.set_3 | apply IsS57.set_4 | apply IsS57.set_5 | apply IsS57.set_6 | apply IsS57.set_7 | apply IsS57.set_8) | exact HI0.out))) : g ≠ gb102)); have n7_ := Aside0.mk ((by rw [hg]; exact Nat.ne_of_gt (IsS57.lt (show IsS57 w0 _ g s0_0 s0_1 s0_2 s0_3 s0_4 s0_5 s0_6 s0_7 s0_8 from by repeat (first | (with_reducible first | exact HI0.out | apply IsS57.alloc | apply IsS57.drewN | apply IsS57.drew | apply IsS57.set_0 | apply IsS57.set_1 | apply IsS57.set_2 | apply IsS57.set_3 | apply IsS57.set_4 | apply IsS57.set_5 | apply IsS57.set_6 | apply IsS57.set_7 | apply IsS57.set_8) | exact HI0.out))) : gb102 ≠ g)); clear HI0; clear HK; clear HB; have HI0 := n0_; have HK := n1_; have HB := n2_; have BK102 := n3_; have GW102 := n4_; have GE102 := n5_; have NB0_102 := n6_; have NB102_0 := n7_; clear n0_ n1_ n2_ n3_ n4_ n5_ n6_ n7_; clear hb hbox hg)))
  (try simp only [Act.put, List.setIfInBounds_toArray, List.set_cons_zero, List.set_cons_succ])
  go_cut [5] (fun v5 wc => ∃ (kq : Nat) (x5_2 : Bool), v5 = .bool x5_2 ∧ Aside0 (verify_machine_allowed.j0 kq x5_2 s0_0 s0_1 s0_2 s0_3 s0_4 s0_5 s0_6 s0_7 s0_8 a1_0 a1_1 a1_2 a1_3 a1_4 a1_5 = some (r1, r2, r3, r4, r5, r6, r7, r8, r9, r10)) ∧ Aside0 (kq ≤ k) ∧ Aside0 (wc.heap[gb102]? = some (.cells #[.int .i64 a1_0, .int .i64 a1_1, .int .i64 a1_2, .int .i64 a1_3, .int .i16 a1_4, .int .i64 a1_5] 55 (0, 0))) ∧ Aside0 (IsS57 w0 wc g s0_0 s0_1 s0_2 s0_3 s0_4 s0_5 s0_6 s0_7 s0_8) ∧ Aside0 (KeepBut w wc g none) ∧ Aside0 (Below w0.heap.size w0 wc))
  case first =>
    have H := HC3.out
    clear HC3
    by_cases c5 : s0_0 = true
    · subst c5
      have H1 : (verify_machine_allowed.j0 k (s0_1 == a1_2) true s0_1 s0_2 s0_3 s0_4 s0_5 s0_6 s0_7 s0_8 a1_0 a1_1 a1_2 a1_3 a1_4 a1_5) = some (r1, r2, r3, r4, r5, r6, r7, r8, r9, r10) := by rw [if_pos rfl] at H; exact H
      clear H
      have H := H1
      clear H1
      have H' := Aside0.mk H
      clear H
      obtain ⟨HGz6, hgz6⟩ := HI0.out
      have hcz6_0 := cellS57_0 HGz6
      have hcz6_1 := cellS57_1 HGz6
      have hcz6_2 := cellS57_2 HGz6
      have hcz6_3 := cellS57_3 HGz6
      have hcz6_4 := cellS57_4 HGz6
      have hcz6_5 := cellS57_5 HGz6
      have hcz6_6 := cellS57_6 HGz6
      have hcz6_7 := cellS57_7 HGz6
      have hcz6_8 := cellS57_8 HGz6
      have hfz6_0 := blk_frozen HGz6 0
      have hfz6_1 := blk_frozen HGz6 1
      have hfz6_2 := blk_frozen HGz6 2
      have hfz6_3 := blk_frozen HGz6 3
      have hfz6_4 := blk_frozen HGz6 4
      have hfz6_5 := blk_frozen HGz6 5
      have hfz6_6 := blk_frozen HGz6 6
      have hfz6_7 := blk_frozen HGz6 7
      have hfz6_8 := blk_frozen HGz6 8
      clear HGz6 hgz6
      have hnb7 := NB102_0.out
      have hnc7 := NB0_102.out
      have hcz8_0 : w4.cell? ⟨gb102, 0, none⟩ = some (.int .i64 a1_0) := (blk_cell BK102.out 0).trans rfl
      have hcz8_1 : w4.cell? ⟨gb102, 1, none⟩ = some (.int .i64 a1_1) := (blk_cell BK102.out 1).trans rfl
      have hcz8_2 : w4.cell? ⟨gb102, 2, none⟩ = some (.int .i64 a1_2) := (blk_cell BK102.out 2).trans rfl
      have hcz8_3 : w4.cell? ⟨gb102, 3, none⟩ = some (.int .i64 a1_3) := (blk_cell BK102.out 3).trans rfl
      have hcz8_4 : w4.cell? ⟨gb102, 4, none⟩ = some (.int .i16 a1_4) := (blk_cell BK102.out 4).trans rfl
      have hcz8_5 : w4.cell? ⟨gb102, 5, none⟩ = some (.int .i64 a1_5) := (blk_cell BK102.out 5).trans rfl
      have hfz8_0 := blk_frozen BK102.out 0
      have hfz8_1 := blk_frozen BK102.out 1
      have hfz8_2 := blk_frozen BK102.out 2
      have hfz8_3 := blk_frozen BK102.out 3
      have hfz8_4 := blk_frozen BK102.out 4
      have hfz8_5 := blk_frozen BK102.out 5
      go_wp2
      repeat (go_quiet (fail); try go_wp2)
      go_meet
      case rel => exact ⟨_, ((s0_1 == a1_2)), (by first | rfl | (simp; done) | (simp [*]; done)), H', ⟨by first | omega | exact Nat.le_refl _⟩, ⟨by (with_reducible repeat (first | refine blk_drewN ?_ _ | refine blk_drew ?_ | refine blk_alloc ?_ _)); exact BK102.out⟩, ⟨by repeat (first | (with_reducible first | exact HI0.out | apply IsS57.alloc | apply IsS57.drewN | apply IsS57.drew | apply IsS57.set_0 | apply IsS57.set_1 | apply IsS57.set_2 | apply IsS57.set_3 | apply IsS57.set_4 | apply IsS57.set_5 | apply IsS57.set_6 | apply IsS57.set_7 | apply IsS57.set_8 | refine IsS57.far ?_ NB0_102.out _) | exact HI0.out)⟩, ⟨by repeat (first | (with_reducible first | exact HK.out | apply KeepBut.set_ | apply keep_drewN | apply keep_drew | apply keep_alloc | refine keep_far ?_ GW102.out _) | exact HK.out)⟩, ⟨by repeat (first | (with_reducible first | exact HB.out | apply below_alloc | apply pw_below_drewN | apply below_drew1 | refine below_set ?_ (IsS57.ge HI0.out) | refine below_set ?_ GE102.out) | exact HB.out)⟩⟩
    · replace c5 := Bool.eq_false_iff.mpr c5
      subst c5
      have H1 : (verify_machine_allowed.j0 k false false s0_1 s0_2 s0_3 s0_4 s0_5 s0_6 s0_7 s0_8 a1_0 a1_1 a1_2 a1_3 a1_4 a1_5) = some (r1, r2, r3, r4, r5, r6, r7, r8, r9, r10) := by rw [if_neg (show ¬ (false = true) by decide)] at H; exact H
      clear H
      have H := H1
      clear H1
      have H' := Aside0.mk H
      clear H
      obtain ⟨HGz9, hgz9⟩ := HI0.out
      have hcz9_0 := cellS57_0 HGz9
      have hcz9_1 := cellS57_1 HGz9
      have hcz9_2 := cellS57_2 HGz9
      have hcz9_3 := cellS57_3 HGz9
      have hcz9_4 := cellS57_4 HGz9
      have hcz9_5 := cellS57_5 HGz9
      have hcz9_6 := cellS57_6 HGz9
      have hcz9_7 := cellS57_7 HGz9
      have hcz9_8 := cellS57_8 HGz9
      have hfz9_0 := blk_frozen HGz9 0
      have hfz9_1 := blk_frozen HGz9 1
      have hfz9_2 := blk_frozen HGz9 2
      have hfz9_3 := blk_frozen HGz9 3
      have hfz9_4 := blk_frozen HGz9 4
      have hfz9_5 := blk_frozen HGz9 5
      have hfz9_6 := blk_frozen HGz9 6
      have hfz9_7 := blk_frozen HGz9 7
      have hfz9_8 := blk_frozen HGz9 8
      clear HGz9 hgz9
      go_wp2
      repeat (go_quiet (fail); try go_wp2)
      go_meet
      case rel => exact ⟨_, (false), (by first | rfl | (simp; done) | (simp [*]; done)), H', ⟨by first | omega | exact Nat.le_refl _⟩, ⟨by (with_reducible repeat (first | refine blk_drewN ?_ _ | refine blk_drew ?_ | refine blk_alloc ?_ _)); exact BK102.out⟩, ⟨by repeat (first | (with_reducible first | exact HI0.out | apply IsS57.alloc | apply IsS57.drewN | apply IsS57.drew | apply IsS57.set_0 | apply IsS57.set_1 | apply IsS57.set_2 | apply IsS57.set_3 | apply IsS57.set_4 | apply IsS57.set_5 | apply IsS57.set_6 | apply IsS57.set_7 | apply IsS57.set_8 | refine IsS57.far ?_ NB0_102.out _) | exact HI0.out)⟩, ⟨by repeat (first | (with_reducible first | exact HK.out | apply KeepBut.set_ | apply keep_drewN | apply keep_drew | apply keep_alloc | refine keep_far ?_ GW102.out _) | exact HK.out)⟩, ⟨by repeat (first | (with_reducible first | exact HB.out | apply below_alloc | apply pw_below_drewN | apply below_drew1 | refine below_set ?_ (IsS57.ge HI0.out) | refine below_set ?_ GE102.out) | exact HB.out)⟩⟩
  case rest =>
    clear HC3
    try clear c2
    try clear p2
    try clear c5
    try clear c7
    try clear hcz6_0
    try clear hcz6_1
    try clear hcz6_2
    try clear hcz6_3
    try clear hcz6_4
    try clear hcz6_5
    try clear hcz6_6
    try clear hcz6_7
    try clear hcz6_8
    try clear hcz8_0
    try clear hcz8_1
    try clear hcz8_2
    try clear hcz8_3
    try clear hcz8_4
    try clear hcz8_5
    try clear hcz9_0
    try clear hcz9_1
    try clear hcz9_2
    try clear hcz9_3
    try clear hcz9_4
    try clear hcz9_5
    try clear hcz9_6
    try clear hcz9_7
    try clear hcz9_8
    try clear hfz6_0
    try clear hfz6_1
    try clear hfz6_2
    try clear hfz6_3
    try clear hfz6_4
    try clear hfz6_5
    try clear hfz6_6
    try clear hfz6_7
    try clear hfz6_8
    try clear hfz8_0
    try clear hfz8_1
    try clear hfz8_2
    try clear hfz8_3
    try clear hfz8_4
    try clear hfz8_5
    try clear hfz9_0
    try clear hfz9_1
    try clear hfz9_2
    try clear hfz9_3
    try clear hfz9_4
    try clear hfz9_5
    try clear hfz9_6
    try clear hfz9_7
    try clear hfz9_8
    obtain ⟨kq, x5_2, rfl, HA, HJ2, BK102, HI0, HK, HB⟩ := hcut
    cases kq with
    | zero => exact absurd HA.out (by simp [verify_machine_allowed.j0])
    | succ kj2 =>
      have H := HA.out
      clear HA
      simp only [verify_machine_allowed.j0] at H
      by_cases c10 : a1_0 = 1
      · rw [if_pos c10] at H
        have c10b0 : (a1_0 == 1) = true := beq_iff_eq.mpr c10
        have c10b1 : (a1_0 != 1) = false := bne_eq_false_iff_eq.mpr c10
        clear c10
        by_cases c11 : s0_0 = true
        · subst c11
          have H1 : (some ((s0_2 == 10), true, s0_1, s0_2, s0_3, s0_4, s0_5, s0_6, s0_7, s0_8)) = some (r1, r2, r3, r4, r5, r6, r7, r8, r9, r10) := by rw [if_pos rfl] at H; exact H
          clear H
          have H := H1
          clear H1
          simp only [Option.some.injEq, Prod.mk.injEq] at H
          obtain ⟨rfl, rfl, rfl, rfl, rfl, rfl, rfl, rfl, rfl, rfl⟩ := H
          have hnb12 := NB102_0.out
          have hnc12 := NB0_102.out
          have hcz13_0 : wc.cell? ⟨gb102, 0, none⟩ = some (.int .i64 a1_0) := (blk_cell BK102.out 0).trans rfl
          have hcz13_1 : wc.cell? ⟨gb102, 1, none⟩ = some (.int .i64 a1_1) := (blk_cell BK102.out 1).trans rfl
          have hcz13_2 : wc.cell? ⟨gb102, 2, none⟩ = some (.int .i64 a1_2) := (blk_cell BK102.out 2).trans rfl
          have hcz13_3 : wc.cell? ⟨gb102, 3, none⟩ = some (.int .i64 a1_3) := (blk_cell BK102.out 3).trans rfl
          have hcz13_4 : wc.cell? ⟨gb102, 4, none⟩ = some (.int .i16 a1_4) := (blk_cell BK102.out 4).trans rfl
          have hcz13_5 : wc.cell? ⟨gb102, 5, none⟩ = some (.int .i64 a1_5) := (blk_cell BK102.out 5).trans rfl
          have hfz13_0 := blk_frozen BK102.out 0
          have hfz13_1 := blk_frozen BK102.out 1
          have hfz13_2 := blk_frozen BK102.out 2
          have hfz13_3 := blk_frozen BK102.out 3
          have hfz13_4 := blk_frozen BK102.out 4
          have hfz13_5 := blk_frozen BK102.out 5
          obtain ⟨HGz14, hgz14⟩ := HI0.out
          have hcz14_0 := cellS57_0 HGz14
          have hcz14_1 := cellS57_1 HGz14
          have hcz14_2 := cellS57_2 HGz14
          have hcz14_3 := cellS57_3 HGz14
          have hcz14_4 := cellS57_4 HGz14
          have hcz14_5 := cellS57_5 HGz14
          have hcz14_6 := cellS57_6 HGz14
          have hcz14_7 := cellS57_7 HGz14
          have hcz14_8 := cellS57_8 HGz14
          have hfz14_0 := blk_frozen HGz14 0
          have hfz14_1 := blk_frozen HGz14 1
          have hfz14_2 := blk_frozen HGz14 2
          have hfz14_3 := blk_frozen HGz14 3
          have hfz14_4 := blk_frozen HGz14 4
          have hfz14_5 := blk_frozen HGz14 5
          have hfz14_6 := blk_frozen HGz14 6
          have hfz14_7 := blk_frozen HGz14 7
          have hfz14_8 := blk_frozen HGz14 8
          clear HGz14 hgz14
          go_wp2
          repeat (go_quiet (fail); try go_wp2)
          go_ret
          exact ⟨by first | rfl | (simp [errW_none, errW_some] <;> rfl) | (simp [*, errW_none, errW_some] <;> rfl), by repeat (first | (with_reducible first | exact HI0.out | apply IsS57.alloc | apply IsS57.drewN | apply IsS57.drew | apply IsS57.set_0 | apply IsS57.set_1 | apply IsS57.set_2 | apply IsS57.set_3 | apply IsS57.set_4 | apply IsS57.set_5 | apply IsS57.set_6 | apply IsS57.set_7 | apply IsS57.set_8 | refine IsS57.far ?_ NB0_102.out _) | exact HI0.out), by repeat (first | (with_reducible first | exact HB.out | apply below_alloc | apply pw_below_drewN | apply below_drew1 | refine below_set ?_ (IsS57.ge HI0.out) | refine below_set ?_ GE102.out) | exact HB.out), by repeat (first | (with_reducible first | exact HK.out | apply KeepBut.set_ | apply keep_drewN | apply keep_drew | apply keep_alloc | refine keep_far ?_ GW102.out _) | exact HK.out)⟩
        · replace c11 := Bool.eq_false_iff.mpr c11
          subst c11
          have H1 : (some (true, false, s0_1, s0_2, s0_3, s0_4, s0_5, s0_6, s0_7, s0_8)) = some (r1, r2, r3, r4, r5, r6, r7, r8, r9, r10) := by rw [if_neg (show ¬ (false = true) by decide)] at H; exact H
          clear H
          have H := H1
          clear H1
          simp only [Option.some.injEq, Prod.mk.injEq] at H
          obtain ⟨rfl, rfl, rfl, rfl, rfl, rfl, rfl, rfl, rfl, rfl⟩ := H
          have hnb15 := NB102_0.out
          have hnc15 := NB0_102.out
          have hcz16_0 : wc.cell? ⟨gb102, 0, none⟩ = some (.int .i64 a1_0) := (blk_cell BK102.out 0).trans rfl
          have hcz16_1 : wc.cell? ⟨gb102, 1, none⟩ = some (.int .i64 a1_1) := (blk_cell BK102.out 1).trans rfl
          have hcz16_2 : wc.cell? ⟨gb102, 2, none⟩ = some (.int .i64 a1_2) := (blk_cell BK102.out 2).trans rfl
          have hcz16_3 : wc.cell? ⟨gb102, 3, none⟩ = some (.int .i64 a1_3) := (blk_cell BK102.out 3).trans rfl
          have hcz16_4 : wc.cell? ⟨gb102, 4, none⟩ = some (.int .i16 a1_4) := (blk_cell BK102.out 4).trans rfl
          have hcz16_5 : wc.cell? ⟨gb102, 5, none⟩ = some (.int .i64 a1_5) := (blk_cell BK102.out 5).trans rfl
          have hfz16_0 := blk_frozen BK102.out 0
          have hfz16_1 := blk_frozen BK102.out 1
          have hfz16_2 := blk_frozen BK102.out 2
          have hfz16_3 := blk_frozen BK102.out 3
          have hfz16_4 := blk_frozen BK102.out 4
          have hfz16_5 := blk_frozen BK102.out 5
          obtain ⟨HGz17, hgz17⟩ := HI0.out
          have hcz17_0 := cellS57_0 HGz17
          have hcz17_1 := cellS57_1 HGz17
          have hcz17_2 := cellS57_2 HGz17
          have hcz17_3 := cellS57_3 HGz17
          have hcz17_4 := cellS57_4 HGz17
          have hcz17_5 := cellS57_5 HGz17
          have hcz17_6 := cellS57_6 HGz17
          have hcz17_7 := cellS57_7 HGz17
          have hcz17_8 := cellS57_8 HGz17
          have hfz17_0 := blk_frozen HGz17 0
          have hfz17_1 := blk_frozen HGz17 1
          have hfz17_2 := blk_frozen HGz17 2
          have hfz17_3 := blk_frozen HGz17 3
          have hfz17_4 := blk_frozen HGz17 4
          have hfz17_5 := blk_frozen HGz17 5
          have hfz17_6 := blk_frozen HGz17 6
          have hfz17_7 := blk_frozen HGz17 7
          have hfz17_8 := blk_frozen HGz17 8
          clear HGz17 hgz17
          go_wp2
          repeat (go_quiet (fail); try go_wp2)
          go_ret
          exact ⟨by first | rfl | (simp [errW_none, errW_some] <;> rfl) | (simp [*, errW_none, errW_some] <;> rfl), by repeat (first | (with_reducible first | exact HI0.out | apply IsS57.alloc | apply IsS57.drewN | apply IsS57.drew | apply IsS57.set_0 | apply IsS57.set_1 | apply IsS57.set_2 | apply IsS57.set_3 | apply IsS57.set_4 | apply IsS57.set_5 | apply IsS57.set_6 | apply IsS57.set_7 | apply IsS57.set_8 | refine IsS57.far ?_ NB0_102.out _) | exact HI0.out), by repeat (first | (with_reducible first | exact HB.out | apply below_alloc | apply pw_below_drewN | apply below_drew1 | refine below_set ?_ (IsS57.ge HI0.out) | refine below_set ?_ GE102.out) | exact HB.out), by repeat (first | (with_reducible first | exact HK.out | apply KeepBut.set_ | apply keep_drewN | apply keep_drew | apply keep_alloc | refine keep_far ?_ GW102.out _) | exact HK.out)⟩
      · rw [if_neg c10] at H
        have c10b0 : (a1_0 == 1) = false := beq_eq_false_iff_ne.mpr c10
        have c10b1 : (a1_0 != 1) = true := bne_iff_ne.mpr c10
        have HC18 := Aside0.mk H
        clear H
        have hnb19 := NB102_0.out
        have hnc19 := NB0_102.out
        have hcz20_0 : wc.cell? ⟨gb102, 0, none⟩ = some (.int .i64 a1_0) := (blk_cell BK102.out 0).trans rfl
        have hcz20_1 : wc.cell? ⟨gb102, 1, none⟩ = some (.int .i64 a1_1) := (blk_cell BK102.out 1).trans rfl
        have hcz20_2 : wc.cell? ⟨gb102, 2, none⟩ = some (.int .i64 a1_2) := (blk_cell BK102.out 2).trans rfl
        have hcz20_3 : wc.cell? ⟨gb102, 3, none⟩ = some (.int .i64 a1_3) := (blk_cell BK102.out 3).trans rfl
        have hcz20_4 : wc.cell? ⟨gb102, 4, none⟩ = some (.int .i16 a1_4) := (blk_cell BK102.out 4).trans rfl
        have hcz20_5 : wc.cell? ⟨gb102, 5, none⟩ = some (.int .i64 a1_5) := (blk_cell BK102.out 5).trans rfl
        have hfz20_0 := blk_frozen BK102.out 0
        have hfz20_1 := blk_frozen BK102.out 1
        have hfz20_2 := blk_frozen BK102.out 2
        have hfz20_3 := blk_frozen BK102.out 3
        have hfz20_4 := blk_frozen BK102.out 4
        have hfz20_5 := blk_frozen BK102.out 5
        go_upto_if 36 with (fail)
        repeat (go_quiet (fail); go_upto_if 36 with (fail))
        go_cut [36] (fun v36 wc => ∃ (kq : Nat) (x36_17 : Bool), v36 = .bool x36_17 ∧ Aside0 (verify_machine_allowed.j1 kq x5_2 a1_0 x36_17 s0_0 s0_1 s0_2 s0_3 s0_4 s0_5 s0_6 s0_7 s0_8 a1_0 a1_1 a1_2 a1_3 a1_4 a1_5 = some (r1, r2, r3, r4, r5, r6, r7, r8, r9, r10)) ∧ Aside0 (kq ≤ kj2) ∧ Aside0 (wc.heap[gb102]? = some (.cells #[.int .i64 a1_0, .int .i64 a1_1, .int .i64 a1_2, .int .i64 a1_3, .int .i16 a1_4, .int .i64 a1_5] 55 (0, 0))) ∧ Aside0 (IsS57 w0 wc g s0_0 s0_1 s0_2 s0_3 s0_4 s0_5 s0_6 s0_7 s0_8) ∧ Aside0 (KeepBut w wc g none) ∧ Aside0 (Below w0.heap.size w0 wc))
        case first =>
          have H := HC18.out
          clear HC18
          by_cases c21 : a1_0 = 2
          · rw [if_pos c21] at H
            have c21b0 : (a1_0 == 2) = true := beq_iff_eq.mpr c21
            have c21b1 : (a1_0 != 2) = false := bne_eq_false_iff_eq.mpr c21
            clear c21
            (first | rw [c21b0] | (simp only [i64_w, i32_w]; rw [c21b0]) | skip)
            have H' := Aside0.mk H
            clear H
            go_wp2
            repeat (go_quiet (fail); try go_wp2)
            go_meet
            case rel => exact ⟨_, ((a1_0 == 2)), (by first | rfl | (simp; done) | (simp [*]; done)), H', ⟨by have := HJ2.out; first | omega | exact Nat.le_refl _⟩, ⟨by (with_reducible repeat (first | refine blk_drewN ?_ _ | refine blk_drew ?_ | refine blk_alloc ?_ _)); exact BK102.out⟩, ⟨by repeat (first | (with_reducible first | exact HI0.out | apply IsS57.alloc | apply IsS57.drewN | apply IsS57.drew | apply IsS57.set_0 | apply IsS57.set_1 | apply IsS57.set_2 | apply IsS57.set_3 | apply IsS57.set_4 | apply IsS57.set_5 | apply IsS57.set_6 | apply IsS57.set_7 | apply IsS57.set_8 | refine IsS57.far ?_ NB0_102.out _) | exact HI0.out)⟩, ⟨by repeat (first | (with_reducible first | exact HK.out | apply KeepBut.set_ | apply keep_drewN | apply keep_drew | apply keep_alloc | refine keep_far ?_ GW102.out _) | exact HK.out)⟩, ⟨by repeat (first | (with_reducible first | exact HB.out | apply below_alloc | apply pw_below_drewN | apply below_drew1 | refine below_set ?_ (IsS57.ge HI0.out) | refine below_set ?_ GE102.out) | exact HB.out)⟩⟩
          · rw [if_neg c21] at H
            have c21b0 : (a1_0 == 2) = false := beq_eq_false_iff_ne.mpr c21
            have c21b1 : (a1_0 != 2) = true := bne_iff_ne.mpr c21
            (first | rw [c21b0] | (simp only [i64_w, i32_w]; rw [c21b0]) | skip)
            have H' := Aside0.mk H
            clear H
            go_wp2
            repeat (go_quiet (fail); try go_wp2)
            go_meet
            case rel => exact ⟨_, ((a1_0 == 7)), (by first | rfl | (simp; done) | (simp [*]; done)), H', ⟨by have := HJ2.out; first | omega | exact Nat.le_refl _⟩, ⟨by (with_reducible repeat (first | refine blk_drewN ?_ _ | refine blk_drew ?_ | refine blk_alloc ?_ _)); exact BK102.out⟩, ⟨by repeat (first | (with_reducible first | exact HI0.out | apply IsS57.alloc | apply IsS57.drewN | apply IsS57.drew | apply IsS57.set_0 | apply IsS57.set_1 | apply IsS57.set_2 | apply IsS57.set_3 | apply IsS57.set_4 | apply IsS57.set_5 | apply IsS57.set_6 | apply IsS57.set_7 | apply IsS57.set_8 | refine IsS57.far ?_ NB0_102.out _) | exact HI0.out)⟩, ⟨by repeat (first | (with_reducible first | exact HK.out | apply KeepBut.set_ | apply keep_drewN | apply keep_drew | apply keep_alloc | refine keep_far ?_ GW102.out _) | exact HK.out)⟩, ⟨by repeat (first | (with_reducible first | exact HB.out | apply below_alloc | apply pw_below_drewN | apply below_drew1 | refine below_set ?_ (IsS57.ge HI0.out) | refine below_set ?_ GE102.out) | exact HB.out)⟩⟩
        case rest =>
          clear HC18
          try clear c1
          try clear c2
          try clear p2
          try clear c5
          try clear c7
          try clear c10
          try clear c10b0
          try clear c10b1
          try clear c11
          try clear c12
          try clear c15
          try clear c19
          try clear c21
          try clear c21b0
          try clear c21b1
          try clear hcz13_0
          try clear hcz13_1
          try clear hcz13_2
          try clear hcz13_3
          try clear hcz13_4
          try clear hcz13_5
          try clear hcz14_0
          try clear hcz14_1
          try clear hcz14_2
          try clear hcz14_3
          try clear hcz14_4
          try clear hcz14_5
          try clear hcz14_6
          try clear hcz14_7
          try clear hcz14_8
          try clear hcz16_0
          try clear hcz16_1
          try clear hcz16_2
          try clear hcz16_3
          try clear hcz16_4
          try clear hcz16_5
          try clear hcz17_0
          try clear hcz17_1
          try clear hcz17_2
          try clear hcz17_3
          try clear hcz17_4
          try clear hcz17_5
          try clear hcz17_6
          try clear hcz17_7
          try clear hcz17_8
          try clear hcz20_0
          try clear hcz20_1
          try clear hcz20_2
          try clear hcz20_3
          try clear hcz20_4
          try clear hcz20_5
          try clear hcz6_0
          try clear hcz6_1
          try clear hcz6_2
          try clear hcz6_3
          try clear hcz6_4
          try clear hcz6_5
          try clear hcz6_6
          try clear hcz6_7
          try clear hcz6_8
          try clear hcz8_0
          try clear hcz8_1
          try clear hcz8_2
          try clear hcz8_3
          try clear hcz8_4
          try clear hcz8_5
          try clear hcz9_0
          try clear hcz9_1
          try clear hcz9_2
          try clear hcz9_3
          try clear hcz9_4
          try clear hcz9_5
          try clear hcz9_6
          try clear hcz9_7
          try clear hcz9_8
          try clear hfz13_0
          try clear hfz13_1
          try clear hfz13_2
          try clear hfz13_3
          try clear hfz13_4
          try clear hfz13_5
          try clear hfz14_0
          try clear hfz14_1
          try clear hfz14_2
          try clear hfz14_3
          try clear hfz14_4
          try clear hfz14_5
          try clear hfz14_6
          try clear hfz14_7
          try clear hfz14_8
          try clear hfz16_0
          try clear hfz16_1
          try clear hfz16_2
          try clear hfz16_3
          try clear hfz16_4
          try clear hfz16_5
          try clear hfz17_0
          try clear hfz17_1
          try clear hfz17_2
          try clear hfz17_3
          try clear hfz17_4
          try clear hfz17_5
          try clear hfz17_6
          try clear hfz17_7
          try clear hfz17_8
          try clear hfz20_0
          try clear hfz20_1
          try clear hfz20_2
          try clear hfz20_3
          try clear hfz20_4
          try clear hfz20_5
          try clear hfz6_0
          try clear hfz6_1
          try clear hfz6_2
          try clear hfz6_3
          try clear hfz6_4
          try clear hfz6_5
          try clear hfz6_6
          try clear hfz6_7
          try clear hfz6_8
          try clear hfz8_0
          try clear hfz8_1
          try clear hfz8_2
          try clear hfz8_3
          try clear hfz8_4
          try clear hfz8_5
          try clear hfz9_0
          try clear hfz9_1
          try clear hfz9_2
          try clear hfz9_3
          try clear hfz9_4
          try clear hfz9_5
          try clear hfz9_6
          try clear hfz9_7
          try clear hfz9_8
          try clear p2
          obtain ⟨kq, x36_17, rfl, HA, HJ17, BK102, HI0, HK, HB⟩ := hcut
          cases kq with
          | zero => exact absurd HA.out (by simp [verify_machine_allowed.j1])
          | succ kj17 =>
            have H := HA.out
            clear HA
            simp only [verify_machine_allowed.j1] at H
            by_cases c22 : x36_17 = true
            · subst c22
              have H1 : (some (s0_0, s0_0, s0_1, s0_2, s0_3, s0_4, s0_5, s0_6, s0_7, s0_8)) = some (r1, r2, r3, r4, r5, r6, r7, r8, r9, r10) := by rw [if_pos rfl] at H; exact H
              clear H
              have H := H1
              clear H1
              simp only [Option.some.injEq, Prod.mk.injEq] at H
              obtain ⟨rfl, rfl, rfl, rfl, rfl, rfl, rfl, rfl, rfl, rfl⟩ := H
              obtain ⟨HGz23, hgz23⟩ := HI0.out
              have hcz23_0 := cellS57_0 HGz23
              have hcz23_1 := cellS57_1 HGz23
              have hcz23_2 := cellS57_2 HGz23
              have hcz23_3 := cellS57_3 HGz23
              have hcz23_4 := cellS57_4 HGz23
              have hcz23_5 := cellS57_5 HGz23
              have hcz23_6 := cellS57_6 HGz23
              have hcz23_7 := cellS57_7 HGz23
              have hcz23_8 := cellS57_8 HGz23
              have hfz23_0 := blk_frozen HGz23 0
              have hfz23_1 := blk_frozen HGz23 1
              have hfz23_2 := blk_frozen HGz23 2
              have hfz23_3 := blk_frozen HGz23 3
              have hfz23_4 := blk_frozen HGz23 4
              have hfz23_5 := blk_frozen HGz23 5
              have hfz23_6 := blk_frozen HGz23 6
              have hfz23_7 := blk_frozen HGz23 7
              have hfz23_8 := blk_frozen HGz23 8
              clear HGz23 hgz23
              go_wp2
              repeat (go_quiet (fail); try go_wp2)
              go_ret
              exact ⟨by first | rfl | (simp [errW_none, errW_some] <;> rfl) | (simp [*, errW_none, errW_some] <;> rfl), by repeat (first | (with_reducible first | exact HI0.out | apply IsS57.alloc | apply IsS57.drewN | apply IsS57.drew | apply IsS57.set_0 | apply IsS57.set_1 | apply IsS57.set_2 | apply IsS57.set_3 | apply IsS57.set_4 | apply IsS57.set_5 | apply IsS57.set_6 | apply IsS57.set_7 | apply IsS57.set_8 | refine IsS57.far ?_ NB0_102.out _) | exact HI0.out), by repeat (first | (with_reducible first | exact HB.out | apply below_alloc | apply pw_below_drewN | apply below_drew1 | refine below_set ?_ (IsS57.ge HI0.out) | refine below_set ?_ GE102.out) | exact HB.out), by repeat (first | (with_reducible first | exact HK.out | apply KeepBut.set_ | apply keep_drewN | apply keep_drew | apply keep_alloc | refine keep_far ?_ GW102.out _) | exact HK.out)⟩
            · replace c22 := Bool.eq_false_iff.mpr c22
              subst c22
              have H1 : (if a1_0 = 10 then (verify_machine_allowed.j2 kj17 x5_2 a1_0 (a1_0 == 10) s0_0 s0_1 s0_2 s0_3 s0_4 s0_5 s0_6 s0_7 s0_8 a1_0 a1_1 a1_2 a1_3 a1_4 a1_5) else (verify_machine_allowed.j2 kj17 x5_2 a1_0 (a1_0 == 3) s0_0 s0_1 s0_2 s0_3 s0_4 s0_5 s0_6 s0_7 s0_8 a1_0 a1_1 a1_2 a1_3 a1_4 a1_5)) = some (r1, r2, r3, r4, r5, r6, r7, r8, r9, r10) := by rw [if_neg (show ¬ (false = true) by decide)] at H; exact H
              clear H
              have H := H1
              clear H1
              have HC24 := Aside0.mk H
              clear H
              go_upto_if 43 with (fail)
              repeat (go_quiet (fail); go_upto_if 43 with (fail))
              go_cut [43] (fun v43 wc => ∃ (kq : Nat) (x43_23 : Bool), v43 = .bool x43_23 ∧ Aside0 (verify_machine_allowed.j2 kq x5_2 a1_0 x43_23 s0_0 s0_1 s0_2 s0_3 s0_4 s0_5 s0_6 s0_7 s0_8 a1_0 a1_1 a1_2 a1_3 a1_4 a1_5 = some (r1, r2, r3, r4, r5, r6, r7, r8, r9, r10)) ∧ Aside0 (kq ≤ kj17) ∧ Aside0 (wc.heap[gb102]? = some (.cells #[.int .i64 a1_0, .int .i64 a1_1, .int .i64 a1_2, .int .i64 a1_3, .int .i16 a1_4, .int .i64 a1_5] 55 (0, 0))) ∧ Aside0 (IsS57 w0 wc g s0_0 s0_1 s0_2 s0_3 s0_4 s0_5 s0_6 s0_7 s0_8) ∧ Aside0 (KeepBut w wc g none) ∧ Aside0 (Below w0.heap.size w0 wc))
              case first =>
                have H := HC24.out
                clear HC24
                by_cases c25 : a1_0 = 10
                · rw [if_pos c25] at H
                  have c25b0 : (a1_0 == 10) = true := beq_iff_eq.mpr c25
                  have c25b1 : (a1_0 != 10) = false := bne_eq_false_iff_eq.mpr c25
                  clear c25
                  (first | rw [c25b0] | (simp only [i64_w, i32_w]; rw [c25b0]) | skip)
                  have H' := Aside0.mk H
                  clear H
                  go_wp2
                  repeat (go_quiet (fail); try go_wp2)
                  go_meet
                  case rel => exact ⟨_, ((a1_0 == 10)), (by first | rfl | (simp; done) | (simp [*]; done)), H', ⟨by have := HJ2.out; have := HJ17.out; first | omega | exact Nat.le_refl _⟩, ⟨by (with_reducible repeat (first | refine blk_drewN ?_ _ | refine blk_drew ?_ | refine blk_alloc ?_ _)); exact BK102.out⟩, ⟨by repeat (first | (with_reducible first | exact HI0.out | apply IsS57.alloc | apply IsS57.drewN | apply IsS57.drew | apply IsS57.set_0 | apply IsS57.set_1 | apply IsS57.set_2 | apply IsS57.set_3 | apply IsS57.set_4 | apply IsS57.set_5 | apply IsS57.set_6 | apply IsS57.set_7 | apply IsS57.set_8 | refine IsS57.far ?_ NB0_102.out _) | exact HI0.out)⟩, ⟨by repeat (first | (with_reducible first | exact HK.out | apply KeepBut.set_ | apply keep_drewN | apply keep_drew | apply keep_alloc | refine keep_far ?_ GW102.out _) | exact HK.out)⟩, ⟨by repeat (first | (with_reducible first | exact HB.out | apply below_alloc | apply pw_below_drewN | apply below_drew1 | refine below_set ?_ (IsS57.ge HI0.out) | refine below_set ?_ GE102.out) | exact HB.out)⟩⟩
                · rw [if_neg c25] at H
                  have c25b0 : (a1_0 == 10) = false := beq_eq_false_iff_ne.mpr c25
                  have c25b1 : (a1_0 != 10) = true := bne_iff_ne.mpr c25
                  (first | rw [c25b0] | (simp only [i64_w, i32_w]; rw [c25b0]) | skip)
                  have H' := Aside0.mk H
                  clear H
                  go_wp2
                  repeat (go_quiet (fail); try go_wp2)
                  go_meet
                  case rel => exact ⟨_, ((a1_0 == 3)), (by first | rfl | (simp; done) | (simp [*]; done)), H', ⟨by have := HJ2.out; have := HJ17.out; first | omega | exact Nat.le_refl _⟩, ⟨by (with_reducible repeat (first | refine blk_drewN ?_ _ | refine blk_drew ?_ | refine blk_alloc ?_ _)); exact BK102.out⟩, ⟨by repeat (first | (with_reducible first | exact HI0.out | apply IsS57.alloc | apply IsS57.drewN | apply IsS57.drew | apply IsS57.set_0 | apply IsS57.set_1 | apply IsS57.set_2 | apply IsS57.set_3 | apply IsS57.set_4 | apply IsS57.set_5 | apply IsS57.set_6 | apply IsS57.set_7 | apply IsS57.set_8 | refine IsS57.far ?_ NB0_102.out _) | exact HI0.out)⟩, ⟨by repeat (first | (with_reducible first | exact HK.out | apply KeepBut.set_ | apply keep_drewN | apply keep_drew | apply keep_alloc | refine keep_far ?_ GW102.out _) | exact HK.out)⟩, ⟨by repeat (first | (with_reducible first | exact HB.out | apply below_alloc | apply pw_below_drewN | apply below_drew1 | refine below_set ?_ (IsS57.ge HI0.out) | refine below_set ?_ GE102.out) | exact HB.out)⟩⟩
              case rest =>
                clear HC24
                try clear c1
                try clear c2
                try clear p2
                try clear c5
                try clear c7
                try clear c10
                try clear c10b0
                try clear c10b1
                try clear c11
                try clear c12
                try clear c15
                try clear c19
                try clear c21
                try clear c21b0
                try clear c21b1
                try clear c22
                try clear c25
                try clear c25b0
                try clear c25b1
                try clear hcz13_0
                try clear hcz13_1
                try clear hcz13_2
                try clear hcz13_3
                try clear hcz13_4
                try clear hcz13_5
                try clear hcz14_0
                try clear hcz14_1
                try clear hcz14_2
                try clear hcz14_3
                try clear hcz14_4
                try clear hcz14_5
                try clear hcz14_6
                try clear hcz14_7
                try clear hcz14_8
                try clear hcz16_0
                try clear hcz16_1
                try clear hcz16_2
                try clear hcz16_3
                try clear hcz16_4
                try clear hcz16_5
                try clear hcz17_0
                try clear hcz17_1
                try clear hcz17_2
                try clear hcz17_3
                try clear hcz17_4
                try clear hcz17_5
                try clear hcz17_6
                try clear hcz17_7
                try clear hcz17_8
                try clear hcz20_0
                try clear hcz20_1
                try clear hcz20_2
                try clear hcz20_3
                try clear hcz20_4
                try clear hcz20_5
                try clear hcz23_0
                try clear hcz23_1
                try clear hcz23_2
                try clear hcz23_3
                try clear hcz23_4
                try clear hcz23_5
                try clear hcz23_6
                try clear hcz23_7
                try clear hcz23_8
                try clear hcz6_0
                try clear hcz6_1
                try clear hcz6_2
                try clear hcz6_3
                try clear hcz6_4
                try clear hcz6_5
                try clear hcz6_6
                try clear hcz6_7
                try clear hcz6_8
                try clear hcz8_0
                try clear hcz8_1
                try clear hcz8_2
                try clear hcz8_3
                try clear hcz8_4
                try clear hcz8_5
                try clear hcz9_0
                try clear hcz9_1
                try clear hcz9_2
                try clear hcz9_3
                try clear hcz9_4
                try clear hcz9_5
                try clear hcz9_6
                try clear hcz9_7
                try clear hcz9_8
                try clear hfz13_0
                try clear hfz13_1
                try clear hfz13_2
                try clear hfz13_3
                try clear hfz13_4
                try clear hfz13_5
                try clear hfz14_0
                try clear hfz14_1
                try clear hfz14_2
                try clear hfz14_3
                try clear hfz14_4
                try clear hfz14_5
                try clear hfz14_6
                try clear hfz14_7
                try clear hfz14_8
                try clear hfz16_0
                try clear hfz16_1
                try clear hfz16_2
                try clear hfz16_3
                try clear hfz16_4
                try clear hfz16_5
                try clear hfz17_0
                try clear hfz17_1
                try clear hfz17_2
                try clear hfz17_3
                try clear hfz17_4
                try clear hfz17_5
                try clear hfz17_6
                try clear hfz17_7
                try clear hfz17_8
                try clear hfz20_0
                try clear hfz20_1
                try clear hfz20_2
                try clear hfz20_3
                try clear hfz20_4
                try clear hfz20_5
                try clear hfz23_0
                try clear hfz23_1
                try clear hfz23_2
                try clear hfz23_3
                try clear hfz23_4
                try clear hfz23_5
                try clear hfz23_6
                try clear hfz23_7
                try clear hfz23_8
                try clear hfz6_0
                try clear hfz6_1
                try clear hfz6_2
                try clear hfz6_3
                try clear hfz6_4
                try clear hfz6_5
                try clear hfz6_6
                try clear hfz6_7
                try clear hfz6_8
                try clear hfz8_0
                try clear hfz8_1
                try clear hfz8_2
                try clear hfz8_3
                try clear hfz8_4
                try clear hfz8_5
                try clear hfz9_0
                try clear hfz9_1
                try clear hfz9_2
                try clear hfz9_3
                try clear hfz9_4
                try clear hfz9_5
                try clear hfz9_6
                try clear hfz9_7
                try clear hfz9_8
                try clear p2
                obtain ⟨kq, x43_23, rfl, HA, HJ23, BK102, HI0, HK, HB⟩ := hcut
                cases kq with
                | zero => exact absurd HA.out (by simp [verify_machine_allowed.j2])
                | succ kj23 =>
                  have H := HA.out
                  clear HA
                  simp only [verify_machine_allowed.j2] at H
                  by_cases c26 : x43_23 = true
                  · subst c26
                    have H1 : (if s0_0 = true then (some (decide (s0_1 < 0), s0_0, s0_1, s0_2, s0_3, s0_4, s0_5, s0_6, s0_7, s0_8)) else (some (false, s0_0, s0_1, s0_2, s0_3, s0_4, s0_5, s0_6, s0_7, s0_8))) = some (r1, r2, r3, r4, r5, r6, r7, r8, r9, r10) := by rw [if_pos rfl] at H; exact H
                    clear H
                    have H := H1
                    clear H1
                    by_cases c27 : s0_0 = true
                    · subst c27
                      have H1 : (some (decide (s0_1 < 0), true, s0_1, s0_2, s0_3, s0_4, s0_5, s0_6, s0_7, s0_8)) = some (r1, r2, r3, r4, r5, r6, r7, r8, r9, r10) := by rw [if_pos rfl] at H; exact H
                      clear H
                      have H := H1
                      clear H1
                      simp only [Option.some.injEq, Prod.mk.injEq] at H
                      obtain ⟨rfl, rfl, rfl, rfl, rfl, rfl, rfl, rfl, rfl, rfl⟩ := H
                      obtain ⟨HGz28, hgz28⟩ := HI0.out
                      have hcz28_0 := cellS57_0 HGz28
                      have hcz28_1 := cellS57_1 HGz28
                      have hcz28_2 := cellS57_2 HGz28
                      have hcz28_3 := cellS57_3 HGz28
                      have hcz28_4 := cellS57_4 HGz28
                      have hcz28_5 := cellS57_5 HGz28
                      have hcz28_6 := cellS57_6 HGz28
                      have hcz28_7 := cellS57_7 HGz28
                      have hcz28_8 := cellS57_8 HGz28
                      have hfz28_0 := blk_frozen HGz28 0
                      have hfz28_1 := blk_frozen HGz28 1
                      have hfz28_2 := blk_frozen HGz28 2
                      have hfz28_3 := blk_frozen HGz28 3
                      have hfz28_4 := blk_frozen HGz28 4
                      have hfz28_5 := blk_frozen HGz28 5
                      have hfz28_6 := blk_frozen HGz28 6
                      have hfz28_7 := blk_frozen HGz28 7
                      have hfz28_8 := blk_frozen HGz28 8
                      clear HGz28 hgz28
                      go_wp2
                      repeat (go_quiet (fail); try go_wp2)
                      go_ret
                      exact ⟨by first | rfl | (simp [errW_none, errW_some] <;> rfl) | (simp [*, errW_none, errW_some] <;> rfl), by repeat (first | (with_reducible first | exact HI0.out | apply IsS57.alloc | apply IsS57.drewN | apply IsS57.drew | apply IsS57.set_0 | apply IsS57.set_1 | apply IsS57.set_2 | apply IsS57.set_3 | apply IsS57.set_4 | apply IsS57.set_5 | apply IsS57.set_6 | apply IsS57.set_7 | apply IsS57.set_8 | refine IsS57.far ?_ NB0_102.out _) | exact HI0.out), by repeat (first | (with_reducible first | exact HB.out | apply below_alloc | apply pw_below_drewN | apply below_drew1 | refine below_set ?_ (IsS57.ge HI0.out) | refine below_set ?_ GE102.out) | exact HB.out), by repeat (first | (with_reducible first | exact HK.out | apply KeepBut.set_ | apply keep_drewN | apply keep_drew | apply keep_alloc | refine keep_far ?_ GW102.out _) | exact HK.out)⟩
                    · replace c27 := Bool.eq_false_iff.mpr c27
                      subst c27
                      have H1 : (some (false, false, s0_1, s0_2, s0_3, s0_4, s0_5, s0_6, s0_7, s0_8)) = some (r1, r2, r3, r4, r5, r6, r7, r8, r9, r10) := by rw [if_neg (show ¬ (false = true) by decide)] at H; exact H
                      clear H
                      have H := H1
                      clear H1
                      simp only [Option.some.injEq, Prod.mk.injEq] at H
                      obtain ⟨rfl, rfl, rfl, rfl, rfl, rfl, rfl, rfl, rfl, rfl⟩ := H
                      obtain ⟨HGz29, hgz29⟩ := HI0.out
                      have hcz29_0 := cellS57_0 HGz29
                      have hcz29_1 := cellS57_1 HGz29
                      have hcz29_2 := cellS57_2 HGz29
                      have hcz29_3 := cellS57_3 HGz29
                      have hcz29_4 := cellS57_4 HGz29
                      have hcz29_5 := cellS57_5 HGz29
                      have hcz29_6 := cellS57_6 HGz29
                      have hcz29_7 := cellS57_7 HGz29
                      have hcz29_8 := cellS57_8 HGz29
                      have hfz29_0 := blk_frozen HGz29 0
                      have hfz29_1 := blk_frozen HGz29 1
                      have hfz29_2 := blk_frozen HGz29 2
                      have hfz29_3 := blk_frozen HGz29 3
                      have hfz29_4 := blk_frozen HGz29 4
                      have hfz29_5 := blk_frozen HGz29 5
                      have hfz29_6 := blk_frozen HGz29 6
                      have hfz29_7 := blk_frozen HGz29 7
                      have hfz29_8 := blk_frozen HGz29 8
                      clear HGz29 hgz29
                      go_wp2
                      repeat (go_quiet (fail); try go_wp2)
                      go_ret
                      exact ⟨by first | rfl | (simp [errW_none, errW_some] <;> rfl) | (simp [*, errW_none, errW_some] <;> rfl), by repeat (first | (with_reducible first | exact HI0.out | apply IsS57.alloc | apply IsS57.drewN | apply IsS57.drew | apply IsS57.set_0 | apply IsS57.set_1 | apply IsS57.set_2 | apply IsS57.set_3 | apply IsS57.set_4 | apply IsS57.set_5 | apply IsS57.set_6 | apply IsS57.set_7 | apply IsS57.set_8 | refine IsS57.far ?_ NB0_102.out _) | exact HI0.out), by repeat (first | (with_reducible first | exact HB.out | apply below_alloc | apply pw_below_drewN | apply below_drew1 | refine below_set ?_ (IsS57.ge HI0.out) | refine below_set ?_ GE102.out) | exact HB.out), by repeat (first | (with_reducible first | exact HK.out | apply KeepBut.set_ | apply keep_drewN | apply keep_drew | apply keep_alloc | refine keep_far ?_ GW102.out _) | exact HK.out)⟩
                  · replace c26 := Bool.eq_false_iff.mpr c26
                    subst c26
                    have H1 : (if a1_0 = 4 then (verify_machine_allowed.j3 kj23 x5_2 a1_0 (a1_0 == 4) s0_0 s0_1 s0_2 s0_3 s0_4 s0_5 s0_6 s0_7 s0_8 a1_0 a1_1 a1_2 a1_3 a1_4 a1_5) else (if a1_0 = 12 then (verify_machine_allowed.j3 kj23 x5_2 a1_0 (a1_0 == 12) s0_0 s0_1 s0_2 s0_3 s0_4 s0_5 s0_6 s0_7 s0_8 a1_0 a1_1 a1_2 a1_3 a1_4 a1_5) else (if a1_0 = 11 then (verify_machine_allowed.j3 kj23 x5_2 a1_0 (a1_0 == 11) s0_0 s0_1 s0_2 s0_3 s0_4 s0_5 s0_6 s0_7 s0_8 a1_0 a1_1 a1_2 a1_3 a1_4 a1_5) else (verify_machine_allowed.j3 kj23 x5_2 a1_0 (a1_0 == 5) s0_0 s0_1 s0_2 s0_3 s0_4 s0_5 s0_6 s0_7 s0_8 a1_0 a1_1 a1_2 a1_3 a1_4 a1_5)))) = some (r1, r2, r3, r4, r5, r6, r7, r8, r9, r10) := by rw [if_neg (show ¬ (false = true) by decide)] at H; exact H
                    clear H
                    have H := H1
                    clear H1
                    have HC30 := Aside0.mk H
                    clear H
                    go_upto_if 57 with (fail)
                    repeat (go_quiet (fail); go_upto_if 57 with (fail))
                    go_cut [57] (fun v57 wc => ∃ (kq : Nat) (x57_29 : Bool), v57 = .bool x57_29 ∧ Aside0 (verify_machine_allowed.j3 kq x5_2 a1_0 x57_29 s0_0 s0_1 s0_2 s0_3 s0_4 s0_5 s0_6 s0_7 s0_8 a1_0 a1_1 a1_2 a1_3 a1_4 a1_5 = some (r1, r2, r3, r4, r5, r6, r7, r8, r9, r10)) ∧ Aside0 (kq ≤ kj23) ∧ Aside0 (wc.heap[gb102]? = some (.cells #[.int .i64 a1_0, .int .i64 a1_1, .int .i64 a1_2, .int .i64 a1_3, .int .i16 a1_4, .int .i64 a1_5] 55 (0, 0))) ∧ Aside0 (IsS57 w0 wc g s0_0 s0_1 s0_2 s0_3 s0_4 s0_5 s0_6 s0_7 s0_8) ∧ Aside0 (KeepBut w wc g none) ∧ Aside0 (Below w0.heap.size w0 wc))
                    case first =>
                      have H := HC30.out
                      clear HC30
                      by_cases c31 : a1_0 = 4
                      · rw [if_pos c31] at H
                        have c31b0 : (a1_0 == 4) = true := beq_iff_eq.mpr c31
                        have c31b1 : (a1_0 != 4) = false := bne_eq_false_iff_eq.mpr c31
                        clear c31
                        (first | rw [c31b0] | (simp only [i64_w, i32_w]; rw [c31b0]) | skip)
                        have H' := Aside0.mk H
                        clear H
                        go_wp2
                        repeat (go_quiet (fail); try go_wp2)
                        go_meet
                        case rel => exact ⟨_, ((a1_0 == 4)), (by first | rfl | (simp; done) | (simp [*]; done)), H', ⟨by have := HJ2.out; have := HJ17.out; have := HJ23.out; first | omega | exact Nat.le_refl _⟩, ⟨by (with_reducible repeat (first | refine blk_drewN ?_ _ | refine blk_drew ?_ | refine blk_alloc ?_ _)); exact BK102.out⟩, ⟨by repeat (first | (with_reducible first | exact HI0.out | apply IsS57.alloc | apply IsS57.drewN | apply IsS57.drew | apply IsS57.set_0 | apply IsS57.set_1 | apply IsS57.set_2 | apply IsS57.set_3 | apply IsS57.set_4 | apply IsS57.set_5 | apply IsS57.set_6 | apply IsS57.set_7 | apply IsS57.set_8 | refine IsS57.far ?_ NB0_102.out _) | exact HI0.out)⟩, ⟨by repeat (first | (with_reducible first | exact HK.out | apply KeepBut.set_ | apply keep_drewN | apply keep_drew | apply keep_alloc | refine keep_far ?_ GW102.out _) | exact HK.out)⟩, ⟨by repeat (first | (with_reducible first | exact HB.out | apply below_alloc | apply pw_below_drewN | apply below_drew1 | refine below_set ?_ (IsS57.ge HI0.out) | refine below_set ?_ GE102.out) | exact HB.out)⟩⟩
                      · rw [if_neg c31] at H
                        have c31b0 : (a1_0 == 4) = false := beq_eq_false_iff_ne.mpr c31
                        have c31b1 : (a1_0 != 4) = true := bne_iff_ne.mpr c31
                        (first | rw [c31b0] | (simp only [i64_w, i32_w]; rw [c31b0]) | skip)
                        by_cases c32 : a1_0 = 12
                        · rw [if_pos c32] at H
                          have c32b0 : (a1_0 == 12) = true := beq_iff_eq.mpr c32
                          have c32b1 : (a1_0 != 12) = false := bne_eq_false_iff_eq.mpr c32
                          clear c32
                          have H' := Aside0.mk H
                          clear H
                          go_wp2
                          repeat (go_quiet (fail); try go_wp2)
                          go_meet
                          case rel => exact ⟨_, ((a1_0 == 12)), (by first | rfl | (simp; done) | (simp [*]; done)), H', ⟨by have := HJ2.out; have := HJ17.out; have := HJ23.out; first | omega | exact Nat.le_refl _⟩, ⟨by (with_reducible repeat (first | refine blk_drewN ?_ _ | refine blk_drew ?_ | refine blk_alloc ?_ _)); exact BK102.out⟩, ⟨by repeat (first | (with_reducible first | exact HI0.out | apply IsS57.alloc | apply IsS57.drewN | apply IsS57.drew | apply IsS57.set_0 | apply IsS57.set_1 | apply IsS57.set_2 | apply IsS57.set_3 | apply IsS57.set_4 | apply IsS57.set_5 | apply IsS57.set_6 | apply IsS57.set_7 | apply IsS57.set_8 | refine IsS57.far ?_ NB0_102.out _) | exact HI0.out)⟩, ⟨by repeat (first | (with_reducible first | exact HK.out | apply KeepBut.set_ | apply keep_drewN | apply keep_drew | apply keep_alloc | refine keep_far ?_ GW102.out _) | exact HK.out)⟩, ⟨by repeat (first | (with_reducible first | exact HB.out | apply below_alloc | apply pw_below_drewN | apply below_drew1 | refine below_set ?_ (IsS57.ge HI0.out) | refine below_set ?_ GE102.out) | exact HB.out)⟩⟩
                        · rw [if_neg c32] at H
                          have c32b0 : (a1_0 == 12) = false := beq_eq_false_iff_ne.mpr c32
                          have c32b1 : (a1_0 != 12) = true := bne_iff_ne.mpr c32
                          by_cases c33 : a1_0 = 11
                          · rw [if_pos c33] at H
                            have c33b0 : (a1_0 == 11) = true := beq_iff_eq.mpr c33
                            have c33b1 : (a1_0 != 11) = false := bne_eq_false_iff_eq.mpr c33
                            clear c33
                            have H' := Aside0.mk H
                            clear H
                            go_wp2
                            repeat (go_quiet (fail); try go_wp2)
                            go_meet
                            case rel => exact ⟨_, ((a1_0 == 11)), (by first | rfl | (simp; done) | (simp [*]; done)), H', ⟨by have := HJ2.out; have := HJ17.out; have := HJ23.out; first | omega | exact Nat.le_refl _⟩, ⟨by (with_reducible repeat (first | refine blk_drewN ?_ _ | refine blk_drew ?_ | refine blk_alloc ?_ _)); exact BK102.out⟩, ⟨by repeat (first | (with_reducible first | exact HI0.out | apply IsS57.alloc | apply IsS57.drewN | apply IsS57.drew | apply IsS57.set_0 | apply IsS57.set_1 | apply IsS57.set_2 | apply IsS57.set_3 | apply IsS57.set_4 | apply IsS57.set_5 | apply IsS57.set_6 | apply IsS57.set_7 | apply IsS57.set_8 | refine IsS57.far ?_ NB0_102.out _) | exact HI0.out)⟩, ⟨by repeat (first | (with_reducible first | exact HK.out | apply KeepBut.set_ | apply keep_drewN | apply keep_drew | apply keep_alloc | refine keep_far ?_ GW102.out _) | exact HK.out)⟩, ⟨by repeat (first | (with_reducible first | exact HB.out | apply below_alloc | apply pw_below_drewN | apply below_drew1 | refine below_set ?_ (IsS57.ge HI0.out) | refine below_set ?_ GE102.out) | exact HB.out)⟩⟩
                          · rw [if_neg c33] at H
                            have c33b0 : (a1_0 == 11) = false := beq_eq_false_iff_ne.mpr c33
                            have c33b1 : (a1_0 != 11) = true := bne_iff_ne.mpr c33
                            have H' := Aside0.mk H
                            clear H
                            go_wp2
                            repeat (go_quiet (fail); try go_wp2)
                            go_meet
                            case rel => exact ⟨_, ((a1_0 == 5)), (by first | rfl | (simp; done) | (simp [*]; done)), H', ⟨by have := HJ2.out; have := HJ17.out; have := HJ23.out; first | omega | exact Nat.le_refl _⟩, ⟨by (with_reducible repeat (first | refine blk_drewN ?_ _ | refine blk_drew ?_ | refine blk_alloc ?_ _)); exact BK102.out⟩, ⟨by repeat (first | (with_reducible first | exact HI0.out | apply IsS57.alloc | apply IsS57.drewN | apply IsS57.drew | apply IsS57.set_0 | apply IsS57.set_1 | apply IsS57.set_2 | apply IsS57.set_3 | apply IsS57.set_4 | apply IsS57.set_5 | apply IsS57.set_6 | apply IsS57.set_7 | apply IsS57.set_8 | refine IsS57.far ?_ NB0_102.out _) | exact HI0.out)⟩, ⟨by repeat (first | (with_reducible first | exact HK.out | apply KeepBut.set_ | apply keep_drewN | apply keep_drew | apply keep_alloc | refine keep_far ?_ GW102.out _) | exact HK.out)⟩, ⟨by repeat (first | (with_reducible first | exact HB.out | apply below_alloc | apply pw_below_drewN | apply below_drew1 | refine below_set ?_ (IsS57.ge HI0.out) | refine below_set ?_ GE102.out) | exact HB.out)⟩⟩
                    case rest =>
                      clear HC30
                      try clear c1
                      try clear c2
                      try clear p2
                      try clear c3
                      try clear c5
                      try clear c7
                      try clear c10
                      try clear c10b0
                      try clear c10b1
                      try clear c11
                      try clear c12
                      try clear c15
                      try clear c19
                      try clear c21
                      try clear c21b0
                      try clear c21b1
                      try clear c22
                      try clear c25
                      try clear c25b0
                      try clear c25b1
                      try clear c26
                      try clear c27
                      try clear c31
                      try clear c31b0
                      try clear c31b1
                      try clear c32
                      try clear c32b0
                      try clear c32b1
                      try clear c33
                      try clear c33b0
                      try clear c33b1
                      try clear hcz13_0
                      try clear hcz13_1
                      try clear hcz13_2
                      try clear hcz13_3
                      try clear hcz13_4
                      try clear hcz13_5
                      try clear hcz14_0
                      try clear hcz14_1
                      try clear hcz14_2
                      try clear hcz14_3
                      try clear hcz14_4
                      try clear hcz14_5
                      try clear hcz14_6
                      try clear hcz14_7
                      try clear hcz14_8
                      try clear hcz16_0
                      try clear hcz16_1
                      try clear hcz16_2
                      try clear hcz16_3
                      try clear hcz16_4
                      try clear hcz16_5
                      try clear hcz17_0
                      try clear hcz17_1
                      try clear hcz17_2
                      try clear hcz17_3
                      try clear hcz17_4
                      try clear hcz17_5
                      try clear hcz17_6
                      try clear hcz17_7
                      try clear hcz17_8
                      try clear hcz20_0
                      try clear hcz20_1
                      try clear hcz20_2
                      try clear hcz20_3
                      try clear hcz20_4
                      try clear hcz20_5
                      try clear hcz23_0
                      try clear hcz23_1
                      try clear hcz23_2
                      try clear hcz23_3
                      try clear hcz23_4
                      try clear hcz23_5
                      try clear hcz23_6
                      try clear hcz23_7
                      try clear hcz23_8
                      try clear hcz28_0
                      try clear hcz28_1
                      try clear hcz28_2
                      try clear hcz28_3
                      try clear hcz28_4
                      try clear hcz28_5
                      try clear hcz28_6
                      try clear hcz28_7
                      try clear hcz28_8
                      try clear hcz29_0
                      try clear hcz29_1
                      try clear hcz29_2
                      try clear hcz29_3
                      try clear hcz29_4
                      try clear hcz29_5
                      try clear hcz29_6
                      try clear hcz29_7
                      try clear hcz29_8
                      try clear hcz6_0
                      try clear hcz6_1
                      try clear hcz6_2
                      try clear hcz6_3
                      try clear hcz6_4
                      try clear hcz6_5
                      try clear hcz6_6
                      try clear hcz6_7
                      try clear hcz6_8
                      try clear hcz8_0
                      try clear hcz8_1
                      try clear hcz8_2
                      try clear hcz8_3
                      try clear hcz8_4
                      try clear hcz8_5
                      try clear hcz9_0
                      try clear hcz9_1
                      try clear hcz9_2
                      try clear hcz9_3
                      try clear hcz9_4
                      try clear hcz9_5
                      try clear hcz9_6
                      try clear hcz9_7
                      try clear hcz9_8
                      try clear hfz13_0
                      try clear hfz13_1
                      try clear hfz13_2
                      try clear hfz13_3
                      try clear hfz13_4
                      try clear hfz13_5
                      try clear hfz14_0
                      try clear hfz14_1
                      try clear hfz14_2
                      try clear hfz14_3
                      try clear hfz14_4
                      try clear hfz14_5
                      try clear hfz14_6
                      try clear hfz14_7
                      try clear hfz14_8
                      try clear hfz16_0
                      try clear hfz16_1
                      try clear hfz16_2
                      try clear hfz16_3
                      try clear hfz16_4
                      try clear hfz16_5
                      try clear hfz17_0
                      try clear hfz17_1
                      try clear hfz17_2
                      try clear hfz17_3
                      try clear hfz17_4
                      try clear hfz17_5
                      try clear hfz17_6
                      try clear hfz17_7
                      try clear hfz17_8
                      try clear hfz20_0
                      try clear hfz20_1
                      try clear hfz20_2
                      try clear hfz20_3
                      try clear hfz20_4
                      try clear hfz20_5
                      try clear hfz23_0
                      try clear hfz23_1
                      try clear hfz23_2
                      try clear hfz23_3
                      try clear hfz23_4
                      try clear hfz23_5
                      try clear hfz23_6
                      try clear hfz23_7
                      try clear hfz23_8
                      try clear hfz28_0
                      try clear hfz28_1
                      try clear hfz28_2
                      try clear hfz28_3
                      try clear hfz28_4
                      try clear hfz28_5
                      try clear hfz28_6
                      try clear hfz28_7
                      try clear hfz28_8
                      try clear hfz29_0
                      try clear hfz29_1
                      try clear hfz29_2
                      try clear hfz29_3
                      try clear hfz29_4
                      try clear hfz29_5
                      try clear hfz29_6
                      try clear hfz29_7
                      try clear hfz29_8
                      try clear hfz6_0
                      try clear hfz6_1
                      try clear hfz6_2
                      try clear hfz6_3
                      try clear hfz6_4
                      try clear hfz6_5
                      try clear hfz6_6
                      try clear hfz6_7
                      try clear hfz6_8
                      try clear hfz8_0
                      try clear hfz8_1
                      try clear hfz8_2
                      try clear hfz8_3
                      try clear hfz8_4
                      try clear hfz8_5
                      try clear hfz9_0
                      try clear hfz9_1
                      try clear hfz9_2
                      try clear hfz9_3
                      try clear hfz9_4
                      try clear hfz9_5
                      try clear hfz9_6
                      try clear hfz9_7
                      try clear hfz9_8
                      try clear p2
                      obtain ⟨kq, x57_29, rfl, HA, HJ29, BK102, HI0, HK, HB⟩ := hcut
                      cases kq with
                      | zero => exact absurd HA.out (by simp [verify_machine_allowed.j3])
                      | succ kj29 =>
                        have H := HA.out
                        clear HA
                        simp only [verify_machine_allowed.j3] at H
                        by_cases c34 : x57_29 = true
                        · subst c34
                          have H1 : (some (x5_2, s0_0, s0_1, s0_2, s0_3, s0_4, s0_5, s0_6, s0_7, s0_8)) = some (r1, r2, r3, r4, r5, r6, r7, r8, r9, r10) := by rw [if_pos rfl] at H; exact H
                          clear H
                          have H := H1
                          clear H1
                          simp only [Option.some.injEq, Prod.mk.injEq] at H
                          obtain ⟨rfl, rfl, rfl, rfl, rfl, rfl, rfl, rfl, rfl, rfl⟩ := H
                          go_wp2
                          repeat (go_quiet (fail); try go_wp2)
                          go_ret
                          exact ⟨by first | rfl | (simp [errW_none, errW_some] <;> rfl) | (simp [*, errW_none, errW_some] <;> rfl), by repeat (first | (with_reducible first | exact HI0.out | apply IsS57.alloc | apply IsS57.drewN | apply IsS57.drew | apply IsS57.set_0 | apply IsS57.set_1 | apply IsS57.set_2 | apply IsS57.set_3 | apply IsS57.set_4 | apply IsS57.set_5 | apply IsS57.set_6 | apply IsS57.set_7 | apply IsS57.set_8 | refine IsS57.far ?_ NB0_102.out _) | exact HI0.out), by repeat (first | (with_reducible first | exact HB.out | apply below_alloc | apply pw_below_drewN | apply below_drew1 | refine below_set ?_ (IsS57.ge HI0.out) | refine below_set ?_ GE102.out) | exact HB.out), by repeat (first | (with_reducible first | exact HK.out | apply KeepBut.set_ | apply keep_drewN | apply keep_drew | apply keep_alloc | refine keep_far ?_ GW102.out _) | exact HK.out)⟩
                        · replace c34 := Bool.eq_false_iff.mpr c34
                          subst c34
                          have H1 : (if a1_0 = 6 then (if x5_2 = true then (if s0_2 = 5 then (some ((s0_4 == a1_2), s0_0, s0_1, s0_2, s0_3, s0_4, s0_5, s0_6, s0_7, s0_8)) else (some (false, s0_0, s0_1, s0_2, s0_3, s0_4, s0_5, s0_6, s0_7, s0_8))) else (some (false, s0_0, s0_1, s0_2, s0_3, s0_4, s0_5, s0_6, s0_7, s0_8))) else (if a1_0 = 9 then (if s0_0 = true then (if s0_1 < 0 then (some (true, s0_0, s0_1, s0_2, s0_3, s0_4, s0_5, s0_6, s0_7, s0_8)) else (some (x5_2, s0_0, s0_1, s0_2, s0_3, s0_4, s0_5, s0_6, s0_7, s0_8))) else (some (false, s0_0, s0_1, s0_2, s0_3, s0_4, s0_5, s0_6, s0_7, s0_8))) else (some (true, s0_0, s0_1, s0_2, s0_3, s0_4, s0_5, s0_6, s0_7, s0_8)))) = some (r1, r2, r3, r4, r5, r6, r7, r8, r9, r10) := by rw [if_neg (show ¬ (false = true) by decide)] at H; exact H
                          clear H
                          have H := H1
                          clear H1
                          by_cases c35 : a1_0 = 6
                          · rw [if_pos c35] at H
                            have c35b0 : (a1_0 == 6) = true := beq_iff_eq.mpr c35
                            have c35b1 : (a1_0 != 6) = false := bne_eq_false_iff_eq.mpr c35
                            clear c35
                            by_cases c36 : x5_2 = true
                            · subst c36
                              have H1 : (if s0_2 = 5 then (some ((s0_4 == a1_2), s0_0, s0_1, s0_2, s0_3, s0_4, s0_5, s0_6, s0_7, s0_8)) else (some (false, s0_0, s0_1, s0_2, s0_3, s0_4, s0_5, s0_6, s0_7, s0_8))) = some (r1, r2, r3, r4, r5, r6, r7, r8, r9, r10) := by rw [if_pos rfl] at H; exact H
                              clear H
                              have H := H1
                              clear H1
                              by_cases c37 : s0_2 = 5
                              · rw [if_pos c37] at H
                                have c37b0 : (s0_2 == 5) = true := beq_iff_eq.mpr c37
                                have c37b1 : (s0_2 != 5) = false := bne_eq_false_iff_eq.mpr c37
                                clear c37
                                simp only [Option.some.injEq, Prod.mk.injEq] at H
                                obtain ⟨rfl, rfl, rfl, rfl, rfl, rfl, rfl, rfl, rfl, rfl⟩ := H
                                obtain ⟨HGz38, hgz38⟩ := HI0.out
                                have hcz38_0 := cellS57_0 HGz38
                                have hcz38_1 := cellS57_1 HGz38
                                have hcz38_2 := cellS57_2 HGz38
                                have hcz38_3 := cellS57_3 HGz38
                                have hcz38_4 := cellS57_4 HGz38
                                have hcz38_5 := cellS57_5 HGz38
                                have hcz38_6 := cellS57_6 HGz38
                                have hcz38_7 := cellS57_7 HGz38
                                have hcz38_8 := cellS57_8 HGz38
                                have hfz38_0 := blk_frozen HGz38 0
                                have hfz38_1 := blk_frozen HGz38 1
                                have hfz38_2 := blk_frozen HGz38 2
                                have hfz38_3 := blk_frozen HGz38 3
                                have hfz38_4 := blk_frozen HGz38 4
                                have hfz38_5 := blk_frozen HGz38 5
                                have hfz38_6 := blk_frozen HGz38 6
                                have hfz38_7 := blk_frozen HGz38 7
                                have hfz38_8 := blk_frozen HGz38 8
                                clear HGz38 hgz38
                                have hnb39 := NB102_0.out
                                have hnc39 := NB0_102.out
                                have hcz40_0 : wc.cell? ⟨gb102, 0, none⟩ = some (.int .i64 a1_0) := (blk_cell BK102.out 0).trans rfl
                                have hcz40_1 : wc.cell? ⟨gb102, 1, none⟩ = some (.int .i64 a1_1) := (blk_cell BK102.out 1).trans rfl
                                have hcz40_2 : wc.cell? ⟨gb102, 2, none⟩ = some (.int .i64 a1_2) := (blk_cell BK102.out 2).trans rfl
                                have hcz40_3 : wc.cell? ⟨gb102, 3, none⟩ = some (.int .i64 a1_3) := (blk_cell BK102.out 3).trans rfl
                                have hcz40_4 : wc.cell? ⟨gb102, 4, none⟩ = some (.int .i16 a1_4) := (blk_cell BK102.out 4).trans rfl
                                have hcz40_5 : wc.cell? ⟨gb102, 5, none⟩ = some (.int .i64 a1_5) := (blk_cell BK102.out 5).trans rfl
                                have hfz40_0 := blk_frozen BK102.out 0
                                have hfz40_1 := blk_frozen BK102.out 1
                                have hfz40_2 := blk_frozen BK102.out 2
                                have hfz40_3 := blk_frozen BK102.out 3
                                have hfz40_4 := blk_frozen BK102.out 4
                                have hfz40_5 := blk_frozen BK102.out 5
                                go_wp2
                                repeat (go_quiet (fail); try go_wp2)
                                go_ret
                                exact ⟨by first | rfl | (simp [errW_none, errW_some] <;> rfl) | (simp [*, errW_none, errW_some] <;> rfl), by repeat (first | (with_reducible first | exact HI0.out | apply IsS57.alloc | apply IsS57.drewN | apply IsS57.drew | apply IsS57.set_0 | apply IsS57.set_1 | apply IsS57.set_2 | apply IsS57.set_3 | apply IsS57.set_4 | apply IsS57.set_5 | apply IsS57.set_6 | apply IsS57.set_7 | apply IsS57.set_8 | refine IsS57.far ?_ NB0_102.out _) | exact HI0.out), by repeat (first | (with_reducible first | exact HB.out | apply below_alloc | apply pw_below_drewN | apply below_drew1 | refine below_set ?_ (IsS57.ge HI0.out) | refine below_set ?_ GE102.out) | exact HB.out), by repeat (first | (with_reducible first | exact HK.out | apply KeepBut.set_ | apply keep_drewN | apply keep_drew | apply keep_alloc | refine keep_far ?_ GW102.out _) | exact HK.out)⟩
                              · rw [if_neg c37] at H
                                have c37b0 : (s0_2 == 5) = false := beq_eq_false_iff_ne.mpr c37
                                have c37b1 : (s0_2 != 5) = true := bne_iff_ne.mpr c37
                                simp only [Option.some.injEq, Prod.mk.injEq] at H
                                obtain ⟨rfl, rfl, rfl, rfl, rfl, rfl, rfl, rfl, rfl, rfl⟩ := H
                                obtain ⟨HGz41, hgz41⟩ := HI0.out
                                have hcz41_0 := cellS57_0 HGz41
                                have hcz41_1 := cellS57_1 HGz41
                                have hcz41_2 := cellS57_2 HGz41
                                have hcz41_3 := cellS57_3 HGz41
                                have hcz41_4 := cellS57_4 HGz41
                                have hcz41_5 := cellS57_5 HGz41
                                have hcz41_6 := cellS57_6 HGz41
                                have hcz41_7 := cellS57_7 HGz41
                                have hcz41_8 := cellS57_8 HGz41
                                have hfz41_0 := blk_frozen HGz41 0
                                have hfz41_1 := blk_frozen HGz41 1
                                have hfz41_2 := blk_frozen HGz41 2
                                have hfz41_3 := blk_frozen HGz41 3
                                have hfz41_4 := blk_frozen HGz41 4
                                have hfz41_5 := blk_frozen HGz41 5
                                have hfz41_6 := blk_frozen HGz41 6
                                have hfz41_7 := blk_frozen HGz41 7
                                have hfz41_8 := blk_frozen HGz41 8
                                clear HGz41 hgz41
                                go_wp2
                                repeat (go_quiet (fail); try go_wp2)
                                go_ret
                                exact ⟨by first | rfl | (simp [errW_none, errW_some] <;> rfl) | (simp [*, errW_none, errW_some] <;> rfl), by repeat (first | (with_reducible first | exact HI0.out | apply IsS57.alloc | apply IsS57.drewN | apply IsS57.drew | apply IsS57.set_0 | apply IsS57.set_1 | apply IsS57.set_2 | apply IsS57.set_3 | apply IsS57.set_4 | apply IsS57.set_5 | apply IsS57.set_6 | apply IsS57.set_7 | apply IsS57.set_8 | refine IsS57.far ?_ NB0_102.out _) | exact HI0.out), by repeat (first | (with_reducible first | exact HB.out | apply below_alloc | apply pw_below_drewN | apply below_drew1 | refine below_set ?_ (IsS57.ge HI0.out) | refine below_set ?_ GE102.out) | exact HB.out), by repeat (first | (with_reducible first | exact HK.out | apply KeepBut.set_ | apply keep_drewN | apply keep_drew | apply keep_alloc | refine keep_far ?_ GW102.out _) | exact HK.out)⟩
                            · replace c36 := Bool.eq_false_iff.mpr c36
                              subst c36
                              have H1 : (some (false, s0_0, s0_1, s0_2, s0_3, s0_4, s0_5, s0_6, s0_7, s0_8)) = some (r1, r2, r3, r4, r5, r6, r7, r8, r9, r10) := by rw [if_neg (show ¬ (false = true) by decide)] at H; exact H
                              clear H
                              have H := H1
                              clear H1
                              simp only [Option.some.injEq, Prod.mk.injEq] at H
                              obtain ⟨rfl, rfl, rfl, rfl, rfl, rfl, rfl, rfl, rfl, rfl⟩ := H
                              go_wp2
                              repeat (go_quiet (fail); try go_wp2)
                              go_ret
                              exact ⟨by first | rfl | (simp [errW_none, errW_some] <;> rfl) | (simp [*, errW_none, errW_some] <;> rfl), by repeat (first | (with_reducible first | exact HI0.out | apply IsS57.alloc | apply IsS57.drewN | apply IsS57.drew | apply IsS57.set_0 | apply IsS57.set_1 | apply IsS57.set_2 | apply IsS57.set_3 | apply IsS57.set_4 | apply IsS57.set_5 | apply IsS57.set_6 | apply IsS57.set_7 | apply IsS57.set_8 | refine IsS57.far ?_ NB0_102.out _) | exact HI0.out), by repeat (first | (with_reducible first | exact HB.out | apply below_alloc | apply pw_below_drewN | apply below_drew1 | refine below_set ?_ (IsS57.ge HI0.out) | refine below_set ?_ GE102.out) | exact HB.out), by repeat (first | (with_reducible first | exact HK.out | apply KeepBut.set_ | apply keep_drewN | apply keep_drew | apply keep_alloc | refine keep_far ?_ GW102.out _) | exact HK.out)⟩
                          · rw [if_neg c35] at H
                            have c35b0 : (a1_0 == 6) = false := beq_eq_false_iff_ne.mpr c35
                            have c35b1 : (a1_0 != 6) = true := bne_iff_ne.mpr c35
                            by_cases c42 : a1_0 = 9
                            · rw [if_pos c42] at H
                              have c42b0 : (a1_0 == 9) = true := beq_iff_eq.mpr c42
                              have c42b1 : (a1_0 != 9) = false := bne_eq_false_iff_eq.mpr c42
                              clear c42
                              by_cases c43 : s0_0 = true
                              · subst c43
                                have H1 : (if s0_1 < 0 then (some (true, true, s0_1, s0_2, s0_3, s0_4, s0_5, s0_6, s0_7, s0_8)) else (some (x5_2, true, s0_1, s0_2, s0_3, s0_4, s0_5, s0_6, s0_7, s0_8))) = some (r1, r2, r3, r4, r5, r6, r7, r8, r9, r10) := by rw [if_pos rfl] at H; exact H
                                clear H
                                have H := H1
                                clear H1
                                by_cases c44 : s0_1 < 0
                                · rw [if_pos c44] at H
                                  have c44b0 : decide (s0_1 < 0) = true := decide_eq_true c44
                                  clear c44
                                  simp only [Option.some.injEq, Prod.mk.injEq] at H
                                  obtain ⟨rfl, rfl, rfl, rfl, rfl, rfl, rfl, rfl, rfl, rfl⟩ := H
                                  obtain ⟨HGz45, hgz45⟩ := HI0.out
                                  have hcz45_0 := cellS57_0 HGz45
                                  have hcz45_1 := cellS57_1 HGz45
                                  have hcz45_2 := cellS57_2 HGz45
                                  have hcz45_3 := cellS57_3 HGz45
                                  have hcz45_4 := cellS57_4 HGz45
                                  have hcz45_5 := cellS57_5 HGz45
                                  have hcz45_6 := cellS57_6 HGz45
                                  have hcz45_7 := cellS57_7 HGz45
                                  have hcz45_8 := cellS57_8 HGz45
                                  have hfz45_0 := blk_frozen HGz45 0
                                  have hfz45_1 := blk_frozen HGz45 1
                                  have hfz45_2 := blk_frozen HGz45 2
                                  have hfz45_3 := blk_frozen HGz45 3
                                  have hfz45_4 := blk_frozen HGz45 4
                                  have hfz45_5 := blk_frozen HGz45 5
                                  have hfz45_6 := blk_frozen HGz45 6
                                  have hfz45_7 := blk_frozen HGz45 7
                                  have hfz45_8 := blk_frozen HGz45 8
                                  clear HGz45 hgz45
                                  go_wp2
                                  repeat (go_quiet (fail); try go_wp2)
                                  go_ret
                                  exact ⟨by first | rfl | (simp [errW_none, errW_some] <;> rfl) | (simp [*, errW_none, errW_some] <;> rfl), by repeat (first | (with_reducible first | exact HI0.out | apply IsS57.alloc | apply IsS57.drewN | apply IsS57.drew | apply IsS57.set_0 | apply IsS57.set_1 | apply IsS57.set_2 | apply IsS57.set_3 | apply IsS57.set_4 | apply IsS57.set_5 | apply IsS57.set_6 | apply IsS57.set_7 | apply IsS57.set_8 | refine IsS57.far ?_ NB0_102.out _) | exact HI0.out), by repeat (first | (with_reducible first | exact HB.out | apply below_alloc | apply pw_below_drewN | apply below_drew1 | refine below_set ?_ (IsS57.ge HI0.out) | refine below_set ?_ GE102.out) | exact HB.out), by repeat (first | (with_reducible first | exact HK.out | apply KeepBut.set_ | apply keep_drewN | apply keep_drew | apply keep_alloc | refine keep_far ?_ GW102.out _) | exact HK.out)⟩
                                · rw [if_neg c44] at H
                                  have c44b0 : decide (s0_1 < 0) = false := decide_eq_false c44
                                  clear c44
                                  simp only [Option.some.injEq, Prod.mk.injEq] at H
                                  obtain ⟨rfl, rfl, rfl, rfl, rfl, rfl, rfl, rfl, rfl, rfl⟩ := H
                                  obtain ⟨HGz46, hgz46⟩ := HI0.out
                                  have hcz46_0 := cellS57_0 HGz46
                                  have hcz46_1 := cellS57_1 HGz46
                                  have hcz46_2 := cellS57_2 HGz46
                                  have hcz46_3 := cellS57_3 HGz46
                                  have hcz46_4 := cellS57_4 HGz46
                                  have hcz46_5 := cellS57_5 HGz46
                                  have hcz46_6 := cellS57_6 HGz46
                                  have hcz46_7 := cellS57_7 HGz46
                                  have hcz46_8 := cellS57_8 HGz46
                                  have hfz46_0 := blk_frozen HGz46 0
                                  have hfz46_1 := blk_frozen HGz46 1
                                  have hfz46_2 := blk_frozen HGz46 2
                                  have hfz46_3 := blk_frozen HGz46 3
                                  have hfz46_4 := blk_frozen HGz46 4
                                  have hfz46_5 := blk_frozen HGz46 5
                                  have hfz46_6 := blk_frozen HGz46 6
                                  have hfz46_7 := blk_frozen HGz46 7
                                  have hfz46_8 := blk_frozen HGz46 8
                                  clear HGz46 hgz46
                                  go_wp2
                                  repeat (go_quiet (fail); try go_wp2)
                                  go_ret
                                  exact ⟨by first | rfl | (simp [errW_none, errW_some] <;> rfl) | (simp [*, errW_none, errW_some] <;> rfl), by repeat (first | (with_reducible first | exact HI0.out | apply IsS57.alloc | apply IsS57.drewN | apply IsS57.drew | apply IsS57.set_0 | apply IsS57.set_1 | apply IsS57.set_2 | apply IsS57.set_3 | apply IsS57.set_4 | apply IsS57.set_5 | apply IsS57.set_6 | apply IsS57.set_7 | apply IsS57.set_8 | refine IsS57.far ?_ NB0_102.out _) | exact HI0.out), by repeat (first | (with_reducible first | exact HB.out | apply below_alloc | apply pw_below_drewN | apply below_drew1 | refine below_set ?_ (IsS57.ge HI0.out) | refine below_set ?_ GE102.out) | exact HB.out), by repeat (first | (with_reducible first | exact HK.out | apply KeepBut.set_ | apply keep_drewN | apply keep_drew | apply keep_alloc | refine keep_far ?_ GW102.out _) | exact HK.out)⟩
                              · replace c43 := Bool.eq_false_iff.mpr c43
                                subst c43
                                have H1 : (some (false, false, s0_1, s0_2, s0_3, s0_4, s0_5, s0_6, s0_7, s0_8)) = some (r1, r2, r3, r4, r5, r6, r7, r8, r9, r10) := by rw [if_neg (show ¬ (false = true) by decide)] at H; exact H
                                clear H
                                have H := H1
                                clear H1
                                simp only [Option.some.injEq, Prod.mk.injEq] at H
                                obtain ⟨rfl, rfl, rfl, rfl, rfl, rfl, rfl, rfl, rfl, rfl⟩ := H
                                obtain ⟨HGz47, hgz47⟩ := HI0.out
                                have hcz47_0 := cellS57_0 HGz47
                                have hcz47_1 := cellS57_1 HGz47
                                have hcz47_2 := cellS57_2 HGz47
                                have hcz47_3 := cellS57_3 HGz47
                                have hcz47_4 := cellS57_4 HGz47
                                have hcz47_5 := cellS57_5 HGz47
                                have hcz47_6 := cellS57_6 HGz47
                                have hcz47_7 := cellS57_7 HGz47
                                have hcz47_8 := cellS57_8 HGz47
                                have hfz47_0 := blk_frozen HGz47 0
                                have hfz47_1 := blk_frozen HGz47 1
                                have hfz47_2 := blk_frozen HGz47 2
                                have hfz47_3 := blk_frozen HGz47 3
                                have hfz47_4 := blk_frozen HGz47 4
                                have hfz47_5 := blk_frozen HGz47 5
                                have hfz47_6 := blk_frozen HGz47 6
                                have hfz47_7 := blk_frozen HGz47 7
                                have hfz47_8 := blk_frozen HGz47 8
                                clear HGz47 hgz47
                                go_wp2
                                repeat (go_quiet (fail); try go_wp2)
                                go_ret
                                exact ⟨by first | rfl | (simp [errW_none, errW_some] <;> rfl) | (simp [*, errW_none, errW_some] <;> rfl), by repeat (first | (with_reducible first | exact HI0.out | apply IsS57.alloc | apply IsS57.drewN | apply IsS57.drew | apply IsS57.set_0 | apply IsS57.set_1 | apply IsS57.set_2 | apply IsS57.set_3 | apply IsS57.set_4 | apply IsS57.set_5 | apply IsS57.set_6 | apply IsS57.set_7 | apply IsS57.set_8 | refine IsS57.far ?_ NB0_102.out _) | exact HI0.out), by repeat (first | (with_reducible first | exact HB.out | apply below_alloc | apply pw_below_drewN | apply below_drew1 | refine below_set ?_ (IsS57.ge HI0.out) | refine below_set ?_ GE102.out) | exact HB.out), by repeat (first | (with_reducible first | exact HK.out | apply KeepBut.set_ | apply keep_drewN | apply keep_drew | apply keep_alloc | refine keep_far ?_ GW102.out _) | exact HK.out)⟩
                            · rw [if_neg c42] at H
                              have c42b0 : (a1_0 == 9) = false := beq_eq_false_iff_ne.mpr c42
                              have c42b1 : (a1_0 != 9) = true := bne_iff_ne.mpr c42
                              simp only [Option.some.injEq, Prod.mk.injEq] at H
                              obtain ⟨rfl, rfl, rfl, rfl, rfl, rfl, rfl, rfl, rfl, rfl⟩ := H
                              go_wp2
                              repeat (go_quiet (fail); try go_wp2)
                              go_ret
                              exact ⟨by first | rfl | (simp [errW_none, errW_some] <;> rfl) | (simp [*, errW_none, errW_some] <;> rfl), by repeat (first | (with_reducible first | exact HI0.out | apply IsS57.alloc | apply IsS57.drewN | apply IsS57.drew | apply IsS57.set_0 | apply IsS57.set_1 | apply IsS57.set_2 | apply IsS57.set_3 | apply IsS57.set_4 | apply IsS57.set_5 | apply IsS57.set_6 | apply IsS57.set_7 | apply IsS57.set_8 | refine IsS57.far ?_ NB0_102.out _) | exact HI0.out), by repeat (first | (with_reducible first | exact HB.out | apply below_alloc | apply pw_below_drewN | apply below_drew1 | refine below_set ?_ (IsS57.ge HI0.out) | refine below_set ?_ GE102.out) | exact HB.out), by repeat (first | (with_reducible first | exact HK.out | apply KeepBut.set_ | apply keep_drewN | apply keep_drew | apply keep_alloc | refine keep_far ?_ GW102.out _) | exact HK.out)⟩

end Go.Proofs.YtakkifbcaedcoaaDoor.PX
