-- Written by a program of this session (wip/xprint.py, over the kit's print tool). Lean checks it.
import Derived.Test.YtakkifbcaedcoaaDoorPXx0
namespace Go.Proofs.YtakkifbcaedcoaaDoor.PX
open Go.RowKit Go.Proofs.YtakkifbcaedcoaaDoorW.PrintWords Go.Proofs.YtakkifbcaedcoaaDoorW.PrintLast Go.Proofs.YtakkifbcaedcoaaDoorW.PrintMore
attribute [local go_sem] max2_int min2_int max_two min_two max_three min_three max_four min_four   -- for this text's walks alone
set_option linter.unusedVariables false
set_option linter.unusedSimpArgs false

/-! ### trace_known: function 43 -/
def trace_known.f (a0 : Int) : Option (Bool) := if a0 ≥ 1 then (some (decide (a0 < 13))) else (some false)
set_option maxHeartbeats 8000000 in
set_option maxRecDepth 100000 in
theorem trace_known.calls (a0 : Int) (r : Bool) (w : World) (h : trace_known.f a0 = some r) :
    Calls Tryd.prog 43 #[.int .i64 a0] w fun e w' => e = .returned (.bool r) ∧ Drawn0 w w' := by
  have H : (if a0 ≥ 1 then (some (decide (a0 < 13))) else (some false)) = some r := h
  clear h
  by_cases c2 : a0 ≥ 1
  · rw [if_pos c2] at H
    have c2b0 : decide (1 ≤ a0) = true := decide_eq_true c2
    clear c2
    obtain rfl := Option.some.inj H
    go_enter Tryd.func43, Tryd.ntmps43
    go_wp2
    go_ret
    exact ⟨by first | rfl | (simp; done) | (simp [*]; done), by repeat (first | exact Drawn0.refl _ | apply Drawn0.step)⟩
  · rw [if_neg c2] at H
    have c2b0 : decide (1 ≤ a0) = false := decide_eq_false c2
    clear c2
    obtain rfl := Option.some.inj H
    go_enter Tryd.func43, Tryd.ntmps43
    go_wp2
    go_ret
    exact ⟨by first | rfl | (simp; done) | (simp [*]; done), by repeat (first | exact Drawn0.refl _ | apply Drawn0.step)⟩

/-- A state of type 55 at block g of W; what its slices lead to came in by w0. -/
def IsS55 (w0 W : World) (g : Nat) (f0 : Int) (f1 : Int) (f2 : Int) (f3 : Int) (f4 : Int) (f5 : Int) : Prop := W.heap[g]? = some (.cells #[.int .i64 f0, .int .i64 f1, .int .i64 f2, .int .i64 f3, .int .i16 f4, .int .i64 f5] 55 (0, 0)) ∧ w0.heap.size ≤ g
theorem IsS55.grown {w0 W : World} {g : Nat} {f0 : Int} {f1 : Int} {f2 : Int} {f3 : Int} {f4 : Int} {f5 : Int} {W1 : World} {row : Option Nat} (h : IsS55 w0 W g f0 f1 f2 f3 f4 f5) (hw : W.grownBy W1 row) (hne : some g ≠ row) : IsS55 w0 W1 g f0 f1 f2 f3 f4 f5 := by
  obtain ⟨hb, hg⟩ := h
  exact ⟨blk_grown hb hw hne, hg⟩
theorem IsS55.own_neN {w0 W : World} {g : Nat} {f0 : Int} {f1 : Int} {f2 : Int} {f3 : Int} {f4 : Int} {f5 : Int} {α : Type} {d : Kd α} {e : Nat} {base : Nat} {ok : Nat → Prop} {v : Value} {xs : List α} (h : IsS55 w0 W g f0 f1 f2 f3 f4 f5) (ho : Kd.N d e W base ok v xs) (ht : e ≠ 55) : some g ≠ v.ownBlock := by
  obtain ⟨hb, hg⟩ := h
  exact Kd.N_ne ho hb ht
theorem IsS55.fresh {w0 W : World} {g : Nat} {f0 : Int} {f1 : Int} {f2 : Int} {f3 : Int} {f4 : Int} {f5 : Int} (h : IsS55 w0 W g f0 f1 f2 f3 f4 f5) : ∀ k, W.heap.size ≤ k → k ≠ g := by
  obtain ⟨hb, hg⟩ := h
  exact Kd.freshB hb
theorem IsS55.kept {w0 W : World} {g : Nat} {f0 : Int} {f1 : Int} {f2 : Int} {f3 : Int} {f4 : Int} {f5 : Int} {W1 : World} {S : Nat → Prop} (h : IsS55 w0 W g f0 f1 f2 f3 f4 f5) (hk : Kept W W1 S) (hne : ¬ S g) : IsS55 w0 W1 g f0 f1 f2 f3 f4 f5 := by
  obtain ⟨hb, hg⟩ := h
  exact ⟨blk_kept hb hk hne, hg⟩
theorem IsS55.below {w0 W : World} {g : Nat} {f0 : Int} {f1 : Int} {f2 : Int} {f3 : Int} {f4 : Int} {f5 : Int} {W1 : World} (h : IsS55 w0 W g f0 f1 f2 f3 f4 f5) (hw : Below W.heap.size W W1) : IsS55 w0 W1 g f0 f1 f2 f3 f4 f5 := h.grown (grown_of_below hw none) (by simp)
theorem IsS55.alloc {w0 W : World} {g : Nat} {f0 : Int} {f1 : Int} {f2 : Int} {f3 : Int} {f4 : Int} {f5 : Int} (h : IsS55 w0 W g f0 f1 f2 f3 f4 f5) (o : Obj) : IsS55 w0 (W.alloc o) g f0 f1 f2 f3 f4 f5 := h.below (below_alloc (Below.refl _ _) o)
theorem IsS55.drewN {w0 W : World} {g : Nat} {f0 : Int} {f1 : Int} {f2 : Int} {f3 : Int} {f4 : Int} {f5 : Int} (h : IsS55 w0 W g f0 f1 f2 f3 f4 f5) (m : Nat) : IsS55 w0 (W.drewN m) g f0 f1 f2 f3 f4 f5 := h
theorem IsS55.drew {w0 W : World} {g : Nat} {f0 : Int} {f1 : Int} {f2 : Int} {f3 : Int} {f4 : Int} {f5 : Int} (h : IsS55 w0 W g f0 f1 f2 f3 f4 f5) : IsS55 w0 W.drew g f0 f1 f2 f3 f4 f5 := h
theorem IsS55.at_ {w0 W : World} {g : Nat} {f0 : Int} {f1 : Int} {f2 : Int} {f3 : Int} {f4 : Int} {f5 : Int} {w' : World} {m : Nat} (hq : W.drewN m = w') (h : IsS55 w0 W g f0 f1 f2 f3 f4 f5) : IsS55 w0 w' g f0 f1 f2 f3 f4 f5 := by subst hq; exact IsS55.drewN h m
theorem IsS55.apart {w0 W : World} {g : Nat} {f0 : Int} {f1 : Int} {f2 : Int} {f3 : Int} {f4 : Int} {f5 : Int} {α : Type} {d : Kd α} {e : Nat} {base : Nat} {ok : Nat → Prop} {v : Value} {xs : List α} (h : IsS55 w0 W g f0 f1 f2 f3 f4 f5) (ho : d.R e W base ok v xs) (ht : ∀ q, q ∈ e :: d.E → q ≠ 55) : d.R e W base (fun k => ok k ∧ k ≠ g) v xs := by
  obtain ⟨hb, hg⟩ := h
  exact Kd.R_types ho hb ht
theorem IsS55.own_ne {w0 W : World} {g : Nat} {f0 : Int} {f1 : Int} {f2 : Int} {f3 : Int} {f4 : Int} {f5 : Int} {α : Type} {d : Kd α} {e : Nat} {base : Nat} {ok : Nat → Prop} {v : Value} {xs : List α} (h : IsS55 w0 W g f0 f1 f2 f3 f4 f5) (ho : d.R e W base ok v xs) (ht : e ≠ 55) : some g ≠ v.ownBlock := by
  obtain ⟨hb, hg⟩ := h
  exact Kd.R_ne ho hb ht
theorem IsS55.apartQ {w0 W : World} {g : Nat} {f0 : Int} {f1 : Int} {f2 : Int} {f3 : Int} {f4 : Int} {f5 : Int} {α : Type} {d : Kd α} {e : Nat} {base : Nat} {ok : Nat → Prop} {v : Value} {xs : List α} (h : IsS55 w0 W g f0 f1 f2 f3 f4 f5) (ho : d.Q e W base ok v xs) (ht : ∀ q, q ∈ e :: d.E → q ≠ 55) : d.Q e W base (fun k => ok k ∧ k ≠ g) v xs := by
  obtain ⟨hb, hg⟩ := h
  exact Kd.Q_types ho hb ht
theorem IsS55.own_neQ {w0 W : World} {g : Nat} {f0 : Int} {f1 : Int} {f2 : Int} {f3 : Int} {f4 : Int} {f5 : Int} {α : Type} {d : Kd α} {e : Nat} {base : Nat} {ok : Nat → Prop} {v : Value} {xs : List α} (h : IsS55 w0 W g f0 f1 f2 f3 f4 f5) (ho : d.Q e W base ok v xs) (ht : e ≠ 55) : some g ≠ v.ownBlock := by
  obtain ⟨hb, hg⟩ := h
  exact Kd.Q_ne ho hb ht
theorem IsS55.apartS {w0 W : World} {g : Nat} {f0 : Int} {f1 : Int} {f2 : Int} {f3 : Int} {f4 : Int} {f5 : Int} {α : Type} {d : Kd α} {e : Nat} {base : Nat} {ok : Nat → Prop} {v : Value} {xs : List α} (h : IsS55 w0 W g f0 f1 f2 f3 f4 f5) (ho : d.S e W base ok v xs) (ht : ∀ q, q ∈ e :: d.E → q ≠ 55) : d.S e W base (fun k => ok k ∧ k ≠ g) v xs := by
  obtain ⟨hb, hg⟩ := h
  exact Kd.S_types ho hb ht
theorem IsS55.own_neS {w0 W : World} {g : Nat} {f0 : Int} {f1 : Int} {f2 : Int} {f3 : Int} {f4 : Int} {f5 : Int} {α : Type} {d : Kd α} {e : Nat} {base : Nat} {ok : Nat → Prop} {v : Value} {xs : List α} (h : IsS55 w0 W g f0 f1 f2 f3 f4 f5) (ho : d.S e W base ok v xs) (ht : e ≠ 55) : some g ≠ v.ownBlock := by
  obtain ⟨hb, hg⟩ := h
  exact Kd.S_ne ho hb ht
theorem IsS55.lt {w0 W : World} {g : Nat} {f0 : Int} {f1 : Int} {f2 : Int} {f3 : Int} {f4 : Int} {f5 : Int} (h : IsS55 w0 W g f0 f1 f2 f3 f4 f5) : g < W.heap.size := by
  obtain ⟨hb, hg⟩ := h
  exact blk_lt hb
theorem IsS55.ge {w0 W : World} {g : Nat} {f0 : Int} {f1 : Int} {f2 : Int} {f3 : Int} {f4 : Int} {f5 : Int} (h : IsS55 w0 W g f0 f1 f2 f3 f4 f5) : w0.heap.size ≤ g := by
  obtain ⟨hb, hg⟩ := h
  exact hg
theorem IsS55.ne_blk {w0 W : World} {g : Nat} {f0 : Int} {f1 : Int} {f2 : Int} {f3 : Int} {f4 : Int} {f5 : Int} {a : Nat} {cs : Array Value} {t : TypeId} {fr : Nat × Nat} (h : IsS55 w0 W g f0 f1 f2 f3 f4 f5) (hb2 : W.heap[a]? = some (.cells cs t fr)) (ht : t ≠ 55) : g ≠ a := by
  obtain ⟨hb, hg⟩ := h
  rintro rfl
  rw [hb] at hb2
  injection hb2 with hb2
  injection hb2 with _ ht2
  exact ht ht2.symm
theorem IsS55.far {w0 W : World} {g : Nat} {f0 : Int} {f1 : Int} {f2 : Int} {f3 : Int} {f4 : Int} {f5 : Int} {p : Addr} (h : IsS55 w0 W g f0 f1 f2 f3 f4 f5) (hne : g ≠ p.block) (u : Value) : IsS55 w0 (W.setCell p u) g f0 f1 f2 f3 f4 f5 := by
  obtain ⟨hb, hg⟩ := h
  exact ⟨blk_far hb hne u, hg⟩
theorem cellS55_0 {W : World} {g : Nat} {f0 : Int} {f1 : Int} {f2 : Int} {f3 : Int} {f4 : Int} {f5 : Int} (h : W.heap[g]? = some (.cells #[.int .i64 f0, .int .i64 f1, .int .i64 f2, .int .i64 f3, .int .i16 f4, .int .i64 f5] 55 (0, 0))) : W.cell? ⟨g, 0, none⟩ = some (.int .i64 f0) := (blk_cell h 0).trans rfl
theorem IsS55.set_0 {w0 W : World} {g : Nat} {f0 : Int} {f1 : Int} {f2 : Int} {f3 : Int} {f4 : Int} {f5 : Int} (h : IsS55 w0 W g f0 f1 f2 f3 f4 f5) (x : Int) : IsS55 w0 (W.setCell ⟨g, 0, none⟩ (.int .i64 x)) g x f1 f2 f3 f4 f5 := by
  obtain ⟨hb, hg⟩ := h
  exact ⟨by simpa using blk_set hb 0 (.int .i64 x), hg⟩
theorem cellS55_1 {W : World} {g : Nat} {f0 : Int} {f1 : Int} {f2 : Int} {f3 : Int} {f4 : Int} {f5 : Int} (h : W.heap[g]? = some (.cells #[.int .i64 f0, .int .i64 f1, .int .i64 f2, .int .i64 f3, .int .i16 f4, .int .i64 f5] 55 (0, 0))) : W.cell? ⟨g, 1, none⟩ = some (.int .i64 f1) := (blk_cell h 1).trans rfl
theorem IsS55.set_1 {w0 W : World} {g : Nat} {f0 : Int} {f1 : Int} {f2 : Int} {f3 : Int} {f4 : Int} {f5 : Int} (h : IsS55 w0 W g f0 f1 f2 f3 f4 f5) (x : Int) : IsS55 w0 (W.setCell ⟨g, 1, none⟩ (.int .i64 x)) g f0 x f2 f3 f4 f5 := by
  obtain ⟨hb, hg⟩ := h
  exact ⟨by simpa using blk_set hb 1 (.int .i64 x), hg⟩
theorem cellS55_2 {W : World} {g : Nat} {f0 : Int} {f1 : Int} {f2 : Int} {f3 : Int} {f4 : Int} {f5 : Int} (h : W.heap[g]? = some (.cells #[.int .i64 f0, .int .i64 f1, .int .i64 f2, .int .i64 f3, .int .i16 f4, .int .i64 f5] 55 (0, 0))) : W.cell? ⟨g, 2, none⟩ = some (.int .i64 f2) := (blk_cell h 2).trans rfl
theorem IsS55.set_2 {w0 W : World} {g : Nat} {f0 : Int} {f1 : Int} {f2 : Int} {f3 : Int} {f4 : Int} {f5 : Int} (h : IsS55 w0 W g f0 f1 f2 f3 f4 f5) (x : Int) : IsS55 w0 (W.setCell ⟨g, 2, none⟩ (.int .i64 x)) g f0 f1 x f3 f4 f5 := by
  obtain ⟨hb, hg⟩ := h
  exact ⟨by simpa using blk_set hb 2 (.int .i64 x), hg⟩
theorem cellS55_3 {W : World} {g : Nat} {f0 : Int} {f1 : Int} {f2 : Int} {f3 : Int} {f4 : Int} {f5 : Int} (h : W.heap[g]? = some (.cells #[.int .i64 f0, .int .i64 f1, .int .i64 f2, .int .i64 f3, .int .i16 f4, .int .i64 f5] 55 (0, 0))) : W.cell? ⟨g, 3, none⟩ = some (.int .i64 f3) := (blk_cell h 3).trans rfl
theorem IsS55.set_3 {w0 W : World} {g : Nat} {f0 : Int} {f1 : Int} {f2 : Int} {f3 : Int} {f4 : Int} {f5 : Int} (h : IsS55 w0 W g f0 f1 f2 f3 f4 f5) (x : Int) : IsS55 w0 (W.setCell ⟨g, 3, none⟩ (.int .i64 x)) g f0 f1 f2 x f4 f5 := by
  obtain ⟨hb, hg⟩ := h
  exact ⟨by simpa using blk_set hb 3 (.int .i64 x), hg⟩
theorem cellS55_4 {W : World} {g : Nat} {f0 : Int} {f1 : Int} {f2 : Int} {f3 : Int} {f4 : Int} {f5 : Int} (h : W.heap[g]? = some (.cells #[.int .i64 f0, .int .i64 f1, .int .i64 f2, .int .i64 f3, .int .i16 f4, .int .i64 f5] 55 (0, 0))) : W.cell? ⟨g, 4, none⟩ = some (.int .i16 f4) := (blk_cell h 4).trans rfl
theorem IsS55.set_4 {w0 W : World} {g : Nat} {f0 : Int} {f1 : Int} {f2 : Int} {f3 : Int} {f4 : Int} {f5 : Int} (h : IsS55 w0 W g f0 f1 f2 f3 f4 f5) (x : Int) : IsS55 w0 (W.setCell ⟨g, 4, none⟩ (.int .i16 x)) g f0 f1 f2 f3 x f5 := by
  obtain ⟨hb, hg⟩ := h
  exact ⟨by simpa using blk_set hb 4 (.int .i16 x), hg⟩
theorem cellS55_5 {W : World} {g : Nat} {f0 : Int} {f1 : Int} {f2 : Int} {f3 : Int} {f4 : Int} {f5 : Int} (h : W.heap[g]? = some (.cells #[.int .i64 f0, .int .i64 f1, .int .i64 f2, .int .i64 f3, .int .i16 f4, .int .i64 f5] 55 (0, 0))) : W.cell? ⟨g, 5, none⟩ = some (.int .i64 f5) := (blk_cell h 5).trans rfl
theorem IsS55.set_5 {w0 W : World} {g : Nat} {f0 : Int} {f1 : Int} {f2 : Int} {f3 : Int} {f4 : Int} {f5 : Int} (h : IsS55 w0 W g f0 f1 f2 f3 f4 f5) (x : Int) : IsS55 w0 (W.setCell ⟨g, 5, none⟩ (.int .i64 x)) g f0 f1 f2 f3 f4 x := by
  obtain ⟨hb, hg⟩ := h
  exact ⟨by simpa using blk_set hb 5 (.int .i64 x), hg⟩
theorem IsS55.new (w0 W : World) (f0 : Int) (f1 : Int) (f2 : Int) (f3 : Int) (f4 : Int) (f5 : Int) (hB : Below w0.heap.size w0 W) : IsS55 w0 (W.alloc (.cells #[.int .i64 f0, .int .i64 f1, .int .i64 f2, .int .i64 f3, .int .i16 f4, .int .i64 f5] 55)) W.heap.size f0 f1 f2 f3 f4 f5 := ⟨by simpa using heap_alloc_new W _, hB.size⟩

/-! ### trace_set: function 44 -/
def trace_set.f (s0_0 : Int) (s0_1 : Int) (s0_2 : Int) (s0_3 : Int) (s0_4 : Int) (s0_5 : Int) (a1 : Int) (a2 : Int) : Option (Bool × Int × Int × Int × Int × Int × Int) := if a1 = 0 then (if a2 ≥ 0 then (some (decide (a2 ≤ 7), s0_0, s0_1, a2, s0_3, s0_4, s0_5)) else (some (false, s0_0, s0_1, a2, s0_3, s0_4, s0_5))) else (if a1 = 1 then (if a2 ≥ 0 then (some (decide (a2 ≤ 7), s0_0, s0_1, s0_2, s0_3, s0_4, a2)) else (some (false, s0_0, s0_1, s0_2, s0_3, s0_4, a2))) else (if a1 = 4 then (if a2 ≥ (-32768) then (some (decide (a2 ≤ 32767), s0_0, s0_1, s0_2, s0_3, IntKind.i16.wrap (a2), s0_5)) else (some (false, s0_0, s0_1, s0_2, s0_3, IntKind.i16.wrap (a2), s0_5))) else (if a1 = 3 then (if a2 ≥ 0 then (some (decide (a2 ≤ 119), s0_0, s0_1, s0_2, a2, s0_4, s0_5)) else (some (false, s0_0, s0_1, s0_2, a2, s0_4, s0_5))) else (if a1 = 2 then (if a2 ≥ 0 then (some (decide (a2 ≤ 1099511627776), s0_0, s0_1, s0_2, a2, s0_4, s0_5)) else (some (false, s0_0, s0_1, s0_2, a2, s0_4, s0_5))) else (if a2 ≥ 0 then (some (decide (a2 ≤ 1099511627776), s0_0, s0_1, s0_2, s0_3, s0_4, s0_5)) else (some (false, s0_0, s0_1, s0_2, s0_3, s0_4, s0_5)))))))
set_option maxHeartbeats 8000000 in
set_option maxRecDepth 100000 in
theorem trace_set.calls (g : Nat) (s0_0 : Int) (s0_1 : Int) (s0_2 : Int) (s0_3 : Int) (s0_4 : Int) (s0_5 : Int) (a1 : Int) (a2 : Int) (r1 : Bool) (r2 : Int) (r3 : Int) (r4 : Int) (r5 : Int) (r6 : Int) (r7 : Int) (w0 w : World) (hI : IsS55 w0 w g s0_0 s0_1 s0_2 s0_3 s0_4 s0_5) (hB : Below w0.heap.size w0 w) (h : trace_set.f s0_0 s0_1 s0_2 s0_3 s0_4 s0_5 a1 a2 = some (r1, r2, r3, r4, r5, r6, r7)) :
    Calls Tryd.prog 44 #[.pointer (some ⟨g, 0, none⟩), .int .i64 a1, .int .i64 a2] w fun e w' => e = .returned (.bool r1) ∧ IsS55 w0 w' g r2 r3 r4 r5 r6 r7 ∧ Below w0.heap.size w0 w' ∧ KeepBut w w' g none := by
  have HI0 := Aside0.mk hI
  have HK := Aside0.mk (KeepBut.refl w g none)
  have HL := Aside0.mk hB.size
  clear hI
  have HW0 := Aside0.mk hB.size
  have HB := Aside0.mk hB
  clear hB
  have H : (if a1 = 0 then (if a2 ≥ 0 then (some (decide (a2 ≤ 7), s0_0, s0_1, a2, s0_3, s0_4, s0_5)) else (some (false, s0_0, s0_1, a2, s0_3, s0_4, s0_5))) else (if a1 = 1 then (if a2 ≥ 0 then (some (decide (a2 ≤ 7), s0_0, s0_1, s0_2, s0_3, s0_4, a2)) else (some (false, s0_0, s0_1, s0_2, s0_3, s0_4, a2))) else (if a1 = 4 then (if a2 ≥ (-32768) then (some (decide (a2 ≤ 32767), s0_0, s0_1, s0_2, s0_3, IntKind.i16.wrap (a2), s0_5)) else (some (false, s0_0, s0_1, s0_2, s0_3, IntKind.i16.wrap (a2), s0_5))) else (if a1 = 3 then (if a2 ≥ 0 then (some (decide (a2 ≤ 119), s0_0, s0_1, s0_2, a2, s0_4, s0_5)) else (some (false, s0_0, s0_1, s0_2, a2, s0_4, s0_5))) else (if a1 = 2 then (if a2 ≥ 0 then (some (decide (a2 ≤ 1099511627776), s0_0, s0_1, s0_2, a2, s0_4, s0_5)) else (some (false, s0_0, s0_1, s0_2, a2, s0_4, s0_5))) else (if a2 ≥ 0 then (some (decide (a2 ≤ 1099511627776), s0_0, s0_1, s0_2, s0_3, s0_4, s0_5)) else (some (false, s0_0, s0_1, s0_2, s0_3, s0_4, s0_5)))))))) = some (r1, r2, r3, r4, r5, r6, r7) := h
  clear h
  by_cases c4 : a1 = 0
  · rw [if_pos c4] at H
    have c4b0 : (a1 == 0) = true := beq_iff_eq.mpr c4
    have c4b1 : (a1 != 0) = false := bne_eq_false_iff_eq.mpr c4
    clear c4
    by_cases c5 : a2 ≥ 0
    · rw [if_pos c5] at H
      have c5b0 : decide (0 ≤ a2) = true := decide_eq_true c5
      clear c5
      simp only [Option.some.injEq, Prod.mk.injEq] at H
      obtain ⟨rfl, rfl, rfl, rfl, rfl, rfl, rfl⟩ := H
      obtain ⟨HGz6, hgz6⟩ := HI0.out
      have hcz6_0 := cellS55_0 HGz6
      have hcz6_1 := cellS55_1 HGz6
      have hcz6_2 := cellS55_2 HGz6
      have hcz6_3 := cellS55_3 HGz6
      have hcz6_4 := cellS55_4 HGz6
      have hcz6_5 := cellS55_5 HGz6
      have hfz6_0 := blk_frozen HGz6 0
      have hfz6_1 := blk_frozen HGz6 1
      have hfz6_2 := blk_frozen HGz6 2
      have hfz6_3 := blk_frozen HGz6 3
      have hfz6_4 := blk_frozen HGz6 4
      have hfz6_5 := blk_frozen HGz6 5
      clear HGz6 hgz6
      go_enter Tryd.func44, Tryd.ntmps44
      go_wp2
      go_ret
      exact ⟨by first | rfl | (simp [errW_none, errW_some] <;> rfl) | (simp [*, errW_none, errW_some] <;> rfl), by repeat (first | (with_reducible first | exact HI0.out | apply IsS55.alloc | apply IsS55.drewN | apply IsS55.drew | apply IsS55.set_0 | apply IsS55.set_1 | apply IsS55.set_2 | apply IsS55.set_3 | apply IsS55.set_4 | apply IsS55.set_5) | exact HI0.out), by repeat (first | (with_reducible first | exact HB.out | apply below_alloc | apply pw_below_drewN | apply below_drew1 | refine below_set ?_ (IsS55.ge HI0.out)) | exact HB.out), by repeat (first | (with_reducible first | exact HK.out | apply KeepBut.set_ | apply keep_drewN | apply keep_drew | apply keep_alloc) | exact HK.out)⟩
    · rw [if_neg c5] at H
      have c5b0 : decide (0 ≤ a2) = false := decide_eq_false c5
      clear c5
      simp only [Option.some.injEq, Prod.mk.injEq] at H
      obtain ⟨rfl, rfl, rfl, rfl, rfl, rfl, rfl⟩ := H
      obtain ⟨HGz7, hgz7⟩ := HI0.out
      have hcz7_0 := cellS55_0 HGz7
      have hcz7_1 := cellS55_1 HGz7
      have hcz7_2 := cellS55_2 HGz7
      have hcz7_3 := cellS55_3 HGz7
      have hcz7_4 := cellS55_4 HGz7
      have hcz7_5 := cellS55_5 HGz7
      have hfz7_0 := blk_frozen HGz7 0
      have hfz7_1 := blk_frozen HGz7 1
      have hfz7_2 := blk_frozen HGz7 2
      have hfz7_3 := blk_frozen HGz7 3
      have hfz7_4 := blk_frozen HGz7 4
      have hfz7_5 := blk_frozen HGz7 5
      clear HGz7 hgz7
      go_enter Tryd.func44, Tryd.ntmps44
      go_wp2
      go_ret
      exact ⟨by first | rfl | (simp [errW_none, errW_some] <;> rfl) | (simp [*, errW_none, errW_some] <;> rfl), by repeat (first | (with_reducible first | exact HI0.out | apply IsS55.alloc | apply IsS55.drewN | apply IsS55.drew | apply IsS55.set_0 | apply IsS55.set_1 | apply IsS55.set_2 | apply IsS55.set_3 | apply IsS55.set_4 | apply IsS55.set_5) | exact HI0.out), by repeat (first | (with_reducible first | exact HB.out | apply below_alloc | apply pw_below_drewN | apply below_drew1 | refine below_set ?_ (IsS55.ge HI0.out)) | exact HB.out), by repeat (first | (with_reducible first | exact HK.out | apply KeepBut.set_ | apply keep_drewN | apply keep_drew | apply keep_alloc) | exact HK.out)⟩
  · rw [if_neg c4] at H
    have c4b0 : (a1 == 0) = false := beq_eq_false_iff_ne.mpr c4
    have c4b1 : (a1 != 0) = true := bne_iff_ne.mpr c4
    by_cases c8 : a1 = 1
    · rw [if_pos c8] at H
      have c8b0 : (a1 == 1) = true := beq_iff_eq.mpr c8
      have c8b1 : (a1 != 1) = false := bne_eq_false_iff_eq.mpr c8
      clear c8
      by_cases c9 : a2 ≥ 0
      · rw [if_pos c9] at H
        have c9b0 : decide (0 ≤ a2) = true := decide_eq_true c9
        clear c9
        simp only [Option.some.injEq, Prod.mk.injEq] at H
        obtain ⟨rfl, rfl, rfl, rfl, rfl, rfl, rfl⟩ := H
        obtain ⟨HGz10, hgz10⟩ := HI0.out
        have hcz10_0 := cellS55_0 HGz10
        have hcz10_1 := cellS55_1 HGz10
        have hcz10_2 := cellS55_2 HGz10
        have hcz10_3 := cellS55_3 HGz10
        have hcz10_4 := cellS55_4 HGz10
        have hcz10_5 := cellS55_5 HGz10
        have hfz10_0 := blk_frozen HGz10 0
        have hfz10_1 := blk_frozen HGz10 1
        have hfz10_2 := blk_frozen HGz10 2
        have hfz10_3 := blk_frozen HGz10 3
        have hfz10_4 := blk_frozen HGz10 4
        have hfz10_5 := blk_frozen HGz10 5
        clear HGz10 hgz10
        go_enter Tryd.func44, Tryd.ntmps44
        go_wp2
        go_ret
        exact ⟨by first | rfl | (simp [errW_none, errW_some] <;> rfl) | (simp [*, errW_none, errW_some] <;> rfl), by repeat (first | (with_reducible first | exact HI0.out | apply IsS55.alloc | apply IsS55.drewN | apply IsS55.drew | apply IsS55.set_0 | apply IsS55.set_1 | apply IsS55.set_2 | apply IsS55.set_3 | apply IsS55.set_4 | apply IsS55.set_5) | exact HI0.out), by repeat (first | (with_reducible first | exact HB.out | apply below_alloc | apply pw_below_drewN | apply below_drew1 | refine below_set ?_ (IsS55.ge HI0.out)) | exact HB.out), by repeat (first | (with_reducible first | exact HK.out | apply KeepBut.set_ | apply keep_drewN | apply keep_drew | apply keep_alloc) | exact HK.out)⟩
      · rw [if_neg c9] at H
        have c9b0 : decide (0 ≤ a2) = false := decide_eq_false c9
        clear c9
        simp only [Option.some.injEq, Prod.mk.injEq] at H
        obtain ⟨rfl, rfl, rfl, rfl, rfl, rfl, rfl⟩ := H
        obtain ⟨HGz11, hgz11⟩ := HI0.out
        have hcz11_0 := cellS55_0 HGz11
        have hcz11_1 := cellS55_1 HGz11
        have hcz11_2 := cellS55_2 HGz11
        have hcz11_3 := cellS55_3 HGz11
        have hcz11_4 := cellS55_4 HGz11
        have hcz11_5 := cellS55_5 HGz11
        have hfz11_0 := blk_frozen HGz11 0
        have hfz11_1 := blk_frozen HGz11 1
        have hfz11_2 := blk_frozen HGz11 2
        have hfz11_3 := blk_frozen HGz11 3
        have hfz11_4 := blk_frozen HGz11 4
        have hfz11_5 := blk_frozen HGz11 5
        clear HGz11 hgz11
        go_enter Tryd.func44, Tryd.ntmps44
        go_wp2
        go_ret
        exact ⟨by first | rfl | (simp [errW_none, errW_some] <;> rfl) | (simp [*, errW_none, errW_some] <;> rfl), by repeat (first | (with_reducible first | exact HI0.out | apply IsS55.alloc | apply IsS55.drewN | apply IsS55.drew | apply IsS55.set_0 | apply IsS55.set_1 | apply IsS55.set_2 | apply IsS55.set_3 | apply IsS55.set_4 | apply IsS55.set_5) | exact HI0.out), by repeat (first | (with_reducible first | exact HB.out | apply below_alloc | apply pw_below_drewN | apply below_drew1 | refine below_set ?_ (IsS55.ge HI0.out)) | exact HB.out), by repeat (first | (with_reducible first | exact HK.out | apply KeepBut.set_ | apply keep_drewN | apply keep_drew | apply keep_alloc) | exact HK.out)⟩
    · rw [if_neg c8] at H
      have c8b0 : (a1 == 1) = false := beq_eq_false_iff_ne.mpr c8
      have c8b1 : (a1 != 1) = true := bne_iff_ne.mpr c8
      by_cases c12 : a1 = 4
      · rw [if_pos c12] at H
        have c12b0 : (a1 == 4) = true := beq_iff_eq.mpr c12
        have c12b1 : (a1 != 4) = false := bne_eq_false_iff_eq.mpr c12
        clear c12
        by_cases c13 : a2 ≥ (-32768)
        · rw [if_pos c13] at H
          have c13b0 : decide ((-32768) ≤ a2) = true := decide_eq_true c13
          clear c13
          simp only [Option.some.injEq, Prod.mk.injEq] at H
          obtain ⟨rfl, rfl, rfl, rfl, rfl, rfl, rfl⟩ := H
          obtain ⟨HGz14, hgz14⟩ := HI0.out
          have hcz14_0 := cellS55_0 HGz14
          have hcz14_1 := cellS55_1 HGz14
          have hcz14_2 := cellS55_2 HGz14
          have hcz14_3 := cellS55_3 HGz14
          have hcz14_4 := cellS55_4 HGz14
          have hcz14_5 := cellS55_5 HGz14
          have hfz14_0 := blk_frozen HGz14 0
          have hfz14_1 := blk_frozen HGz14 1
          have hfz14_2 := blk_frozen HGz14 2
          have hfz14_3 := blk_frozen HGz14 3
          have hfz14_4 := blk_frozen HGz14 4
          have hfz14_5 := blk_frozen HGz14 5
          clear HGz14 hgz14
          go_enter Tryd.func44, Tryd.ntmps44
          go_wp2
          go_ret
          exact ⟨by first | rfl | (simp [errW_none, errW_some] <;> rfl) | (simp [*, errW_none, errW_some] <;> rfl), by repeat (first | (with_reducible first | exact HI0.out | apply IsS55.alloc | apply IsS55.drewN | apply IsS55.drew | apply IsS55.set_0 | apply IsS55.set_1 | apply IsS55.set_2 | apply IsS55.set_3 | apply IsS55.set_4 | apply IsS55.set_5) | exact HI0.out), by repeat (first | (with_reducible first | exact HB.out | apply below_alloc | apply pw_below_drewN | apply below_drew1 | refine below_set ?_ (IsS55.ge HI0.out)) | exact HB.out), by repeat (first | (with_reducible first | exact HK.out | apply KeepBut.set_ | apply keep_drewN | apply keep_drew | apply keep_alloc) | exact HK.out)⟩
        · rw [if_neg c13] at H
          have c13b0 : decide ((-32768) ≤ a2) = false := decide_eq_false c13
          clear c13
          simp only [Option.some.injEq, Prod.mk.injEq] at H
          obtain ⟨rfl, rfl, rfl, rfl, rfl, rfl, rfl⟩ := H
          obtain ⟨HGz15, hgz15⟩ := HI0.out
          have hcz15_0 := cellS55_0 HGz15
          have hcz15_1 := cellS55_1 HGz15
          have hcz15_2 := cellS55_2 HGz15
          have hcz15_3 := cellS55_3 HGz15
          have hcz15_4 := cellS55_4 HGz15
          have hcz15_5 := cellS55_5 HGz15
          have hfz15_0 := blk_frozen HGz15 0
          have hfz15_1 := blk_frozen HGz15 1
          have hfz15_2 := blk_frozen HGz15 2
          have hfz15_3 := blk_frozen HGz15 3
          have hfz15_4 := blk_frozen HGz15 4
          have hfz15_5 := blk_frozen HGz15 5
          clear HGz15 hgz15
          go_enter Tryd.func44, Tryd.ntmps44
          go_wp2
          go_ret
          exact ⟨by first | rfl | (simp [errW_none, errW_some] <;> rfl) | (simp [*, errW_none, errW_some] <;> rfl), by repeat (first | (with_reducible first | exact HI0.out | apply IsS55.alloc | apply IsS55.drewN | apply IsS55.drew | apply IsS55.set_0 | apply IsS55.set_1 | apply IsS55.set_2 | apply IsS55.set_3 | apply IsS55.set_4 | apply IsS55.set_5) | exact HI0.out), by repeat (first | (with_reducible first | exact HB.out | apply below_alloc | apply pw_below_drewN | apply below_drew1 | refine below_set ?_ (IsS55.ge HI0.out)) | exact HB.out), by repeat (first | (with_reducible first | exact HK.out | apply KeepBut.set_ | apply keep_drewN | apply keep_drew | apply keep_alloc) | exact HK.out)⟩
      · rw [if_neg c12] at H
        have c12b0 : (a1 == 4) = false := beq_eq_false_iff_ne.mpr c12
        have c12b1 : (a1 != 4) = true := bne_iff_ne.mpr c12
        by_cases c16 : a1 = 3
        · rw [if_pos c16] at H
          have c16b0 : (a1 == 3) = true := beq_iff_eq.mpr c16
          have c16b1 : (a1 != 3) = false := bne_eq_false_iff_eq.mpr c16
          clear c16
          by_cases c17 : a2 ≥ 0
          · rw [if_pos c17] at H
            have c17b0 : decide (0 ≤ a2) = true := decide_eq_true c17
            clear c17
            simp only [Option.some.injEq, Prod.mk.injEq] at H
            obtain ⟨rfl, rfl, rfl, rfl, rfl, rfl, rfl⟩ := H
            obtain ⟨HGz18, hgz18⟩ := HI0.out
            have hcz18_0 := cellS55_0 HGz18
            have hcz18_1 := cellS55_1 HGz18
            have hcz18_2 := cellS55_2 HGz18
            have hcz18_3 := cellS55_3 HGz18
            have hcz18_4 := cellS55_4 HGz18
            have hcz18_5 := cellS55_5 HGz18
            have hfz18_0 := blk_frozen HGz18 0
            have hfz18_1 := blk_frozen HGz18 1
            have hfz18_2 := blk_frozen HGz18 2
            have hfz18_3 := blk_frozen HGz18 3
            have hfz18_4 := blk_frozen HGz18 4
            have hfz18_5 := blk_frozen HGz18 5
            clear HGz18 hgz18
            go_enter Tryd.func44, Tryd.ntmps44
            go_wp2
            go_ret
            exact ⟨by first | rfl | (simp [errW_none, errW_some] <;> rfl) | (simp [*, errW_none, errW_some] <;> rfl), by repeat (first | (with_reducible first | exact HI0.out | apply IsS55.alloc | apply IsS55.drewN | apply IsS55.drew | apply IsS55.set_0 | apply IsS55.set_1 | apply IsS55.set_2 | apply IsS55.set_3 | apply IsS55.set_4 | apply IsS55.set_5) | exact HI0.out), by repeat (first | (with_reducible first | exact HB.out | apply below_alloc | apply pw_below_drewN | apply below_drew1 | refine below_set ?_ (IsS55.ge HI0.out)) | exact HB.out), by repeat (first | (with_reducible first | exact HK.out | apply KeepBut.set_ | apply keep_drewN | apply keep_drew | apply keep_alloc) | exact HK.out)⟩
          · rw [if_neg c17] at H
            have c17b0 : decide (0 ≤ a2) = false := decide_eq_false c17
            clear c17
            simp only [Option.some.injEq, Prod.mk.injEq] at H
            obtain ⟨rfl, rfl, rfl, rfl, rfl, rfl, rfl⟩ := H
            obtain ⟨HGz19, hgz19⟩ := HI0.out
            have hcz19_0 := cellS55_0 HGz19
            have hcz19_1 := cellS55_1 HGz19
            have hcz19_2 := cellS55_2 HGz19
            have hcz19_3 := cellS55_3 HGz19
            have hcz19_4 := cellS55_4 HGz19
            have hcz19_5 := cellS55_5 HGz19
            have hfz19_0 := blk_frozen HGz19 0
            have hfz19_1 := blk_frozen HGz19 1
            have hfz19_2 := blk_frozen HGz19 2
            have hfz19_3 := blk_frozen HGz19 3
            have hfz19_4 := blk_frozen HGz19 4
            have hfz19_5 := blk_frozen HGz19 5
            clear HGz19 hgz19
            go_enter Tryd.func44, Tryd.ntmps44
            go_wp2
            go_ret
            exact ⟨by first | rfl | (simp [errW_none, errW_some] <;> rfl) | (simp [*, errW_none, errW_some] <;> rfl), by repeat (first | (with_reducible first | exact HI0.out | apply IsS55.alloc | apply IsS55.drewN | apply IsS55.drew | apply IsS55.set_0 | apply IsS55.set_1 | apply IsS55.set_2 | apply IsS55.set_3 | apply IsS55.set_4 | apply IsS55.set_5) | exact HI0.out), by repeat (first | (with_reducible first | exact HB.out | apply below_alloc | apply pw_below_drewN | apply below_drew1 | refine below_set ?_ (IsS55.ge HI0.out)) | exact HB.out), by repeat (first | (with_reducible first | exact HK.out | apply KeepBut.set_ | apply keep_drewN | apply keep_drew | apply keep_alloc) | exact HK.out)⟩
        · rw [if_neg c16] at H
          have c16b0 : (a1 == 3) = false := beq_eq_false_iff_ne.mpr c16
          have c16b1 : (a1 != 3) = true := bne_iff_ne.mpr c16
          by_cases c20 : a1 = 2
          · rw [if_pos c20] at H
            have c20b0 : (a1 == 2) = true := beq_iff_eq.mpr c20
            have c20b1 : (a1 != 2) = false := bne_eq_false_iff_eq.mpr c20
            clear c20
            by_cases c21 : a2 ≥ 0
            · rw [if_pos c21] at H
              have c21b0 : decide (0 ≤ a2) = true := decide_eq_true c21
              clear c21
              simp only [Option.some.injEq, Prod.mk.injEq] at H
              obtain ⟨rfl, rfl, rfl, rfl, rfl, rfl, rfl⟩ := H
              obtain ⟨HGz22, hgz22⟩ := HI0.out
              have hcz22_0 := cellS55_0 HGz22
              have hcz22_1 := cellS55_1 HGz22
              have hcz22_2 := cellS55_2 HGz22
              have hcz22_3 := cellS55_3 HGz22
              have hcz22_4 := cellS55_4 HGz22
              have hcz22_5 := cellS55_5 HGz22
              have hfz22_0 := blk_frozen HGz22 0
              have hfz22_1 := blk_frozen HGz22 1
              have hfz22_2 := blk_frozen HGz22 2
              have hfz22_3 := blk_frozen HGz22 3
              have hfz22_4 := blk_frozen HGz22 4
              have hfz22_5 := blk_frozen HGz22 5
              clear HGz22 hgz22
              go_enter Tryd.func44, Tryd.ntmps44
              go_wp2
              go_ret
              exact ⟨by first | rfl | (simp [errW_none, errW_some] <;> rfl) | (simp [*, errW_none, errW_some] <;> rfl), by repeat (first | (with_reducible first | exact HI0.out | apply IsS55.alloc | apply IsS55.drewN | apply IsS55.drew | apply IsS55.set_0 | apply IsS55.set_1 | apply IsS55.set_2 | apply IsS55.set_3 | apply IsS55.set_4 | apply IsS55.set_5) | exact HI0.out), by repeat (first | (with_reducible first | exact HB.out | apply below_alloc | apply pw_below_drewN | apply below_drew1 | refine below_set ?_ (IsS55.ge HI0.out)) | exact HB.out), by repeat (first | (with_reducible first | exact HK.out | apply KeepBut.set_ | apply keep_drewN | apply keep_drew | apply keep_alloc) | exact HK.out)⟩
            · rw [if_neg c21] at H
              have c21b0 : decide (0 ≤ a2) = false := decide_eq_false c21
              clear c21
              simp only [Option.some.injEq, Prod.mk.injEq] at H
              obtain ⟨rfl, rfl, rfl, rfl, rfl, rfl, rfl⟩ := H
              obtain ⟨HGz23, hgz23⟩ := HI0.out
              have hcz23_0 := cellS55_0 HGz23
              have hcz23_1 := cellS55_1 HGz23
              have hcz23_2 := cellS55_2 HGz23
              have hcz23_3 := cellS55_3 HGz23
              have hcz23_4 := cellS55_4 HGz23
              have hcz23_5 := cellS55_5 HGz23
              have hfz23_0 := blk_frozen HGz23 0
              have hfz23_1 := blk_frozen HGz23 1
              have hfz23_2 := blk_frozen HGz23 2
              have hfz23_3 := blk_frozen HGz23 3
              have hfz23_4 := blk_frozen HGz23 4
              have hfz23_5 := blk_frozen HGz23 5
              clear HGz23 hgz23
              go_enter Tryd.func44, Tryd.ntmps44
              go_wp2
              go_ret
              exact ⟨by first | rfl | (simp [errW_none, errW_some] <;> rfl) | (simp [*, errW_none, errW_some] <;> rfl), by repeat (first | (with_reducible first | exact HI0.out | apply IsS55.alloc | apply IsS55.drewN | apply IsS55.drew | apply IsS55.set_0 | apply IsS55.set_1 | apply IsS55.set_2 | apply IsS55.set_3 | apply IsS55.set_4 | apply IsS55.set_5) | exact HI0.out), by repeat (first | (with_reducible first | exact HB.out | apply below_alloc | apply pw_below_drewN | apply below_drew1 | refine below_set ?_ (IsS55.ge HI0.out)) | exact HB.out), by repeat (first | (with_reducible first | exact HK.out | apply KeepBut.set_ | apply keep_drewN | apply keep_drew | apply keep_alloc) | exact HK.out)⟩
          · rw [if_neg c20] at H
            have c20b0 : (a1 == 2) = false := beq_eq_false_iff_ne.mpr c20
            have c20b1 : (a1 != 2) = true := bne_iff_ne.mpr c20
            by_cases c24 : a2 ≥ 0
            · rw [if_pos c24] at H
              have c24b0 : decide (0 ≤ a2) = true := decide_eq_true c24
              clear c24
              simp only [Option.some.injEq, Prod.mk.injEq] at H
              obtain ⟨rfl, rfl, rfl, rfl, rfl, rfl, rfl⟩ := H
              go_enter Tryd.func44, Tryd.ntmps44
              go_wp2
              go_ret
              exact ⟨by first | rfl | (simp [errW_none, errW_some] <;> rfl) | (simp [*, errW_none, errW_some] <;> rfl), by repeat (first | (with_reducible first | exact HI0.out | apply IsS55.alloc | apply IsS55.drewN | apply IsS55.drew | apply IsS55.set_0 | apply IsS55.set_1 | apply IsS55.set_2 | apply IsS55.set_3 | apply IsS55.set_4 | apply IsS55.set_5) | exact HI0.out), by repeat (first | (with_reducible first | exact HB.out | apply below_alloc | apply pw_below_drewN | apply below_drew1 | refine below_set ?_ (IsS55.ge HI0.out)) | exact HB.out), by repeat (first | (with_reducible first | exact HK.out | apply KeepBut.set_ | apply keep_drewN | apply keep_drew | apply keep_alloc) | exact HK.out)⟩
            · rw [if_neg c24] at H
              have c24b0 : decide (0 ≤ a2) = false := decide_eq_false c24
              clear c24
              simp only [Option.some.injEq, Prod.mk.injEq] at H
              obtain ⟨rfl, rfl, rfl, rfl, rfl, rfl, rfl⟩ := H
              go_enter Tryd.func44, Tryd.ntmps44
              go_wp2
              go_ret
              exact ⟨by first | rfl | (simp [errW_none, errW_some] <;> rfl) | (simp [*, errW_none, errW_some] <;> rfl), by repeat (first | (with_reducible first | exact HI0.out | apply IsS55.alloc | apply IsS55.drewN | apply IsS55.drew | apply IsS55.set_0 | apply IsS55.set_1 | apply IsS55.set_2 | apply IsS55.set_3 | apply IsS55.set_4 | apply IsS55.set_5) | exact HI0.out), by repeat (first | (with_reducible first | exact HB.out | apply below_alloc | apply pw_below_drewN | apply below_drew1 | refine below_set ?_ (IsS55.ge HI0.out)) | exact HB.out), by repeat (first | (with_reducible first | exact HK.out | apply KeepBut.set_ | apply keep_drewN | apply keep_drew | apply keep_alloc) | exact HK.out)⟩

/-! ### trace_get: function 45 -/
def trace_get.f (a0_0 : Int) (a0_1 : Int) (a0_2 : Int) (a0_3 : Int) (a0_4 : Int) (a0_5 : Int) (a1 : Int) : Option (Int) := if a1 = 0 then (some a0_2) else (if a1 = 1 then (some a0_5) else (if a1 = 4 then (some (wrap64 (a0_4))) else (some a0_3)))
set_option maxHeartbeats 8000000 in
set_option maxRecDepth 100000 in
theorem trace_get.calls (a0_0 : Int) (a0_1 : Int) (a0_2 : Int) (a0_3 : Int) (a0_4 : Int) (a0_5 : Int) (a1 : Int) (r : Int) (w : World) (h : trace_get.f a0_0 a0_1 a0_2 a0_3 a0_4 a0_5 a1 = some r) :
    Calls Tryd.prog 45 #[.agg #[.int .i64 a0_0, .int .i64 a0_1, .int .i64 a0_2, .int .i64 a0_3, .int .i16 a0_4, .int .i64 a0_5], .int .i64 a1] w fun e w' => e = .returned (.int .i64 r) ∧ Below w.heap.size w w' := by
  have hu55 := Tryd.underlying55
  have HB := Aside0.mk (Below.refl w.heap.size w)
  have H : (if a1 = 0 then (some a0_2) else (if a1 = 1 then (some a0_5) else (if a1 = 4 then (some (wrap64 (a0_4))) else (some a0_3)))) = some r := h
  clear h
  by_cases c3 : a1 = 0
  · rw [if_pos c3] at H
    have c3b0 : (a1 == 0) = true := beq_iff_eq.mpr c3
    have c3b1 : (a1 != 0) = false := bne_eq_false_iff_eq.mpr c3
    clear c3
    obtain rfl := Option.some.inj H
    go_enter Tryd.func45, Tryd.ntmps45
    go_wp2_with (first | ((with_reducible refine gate_dst (N := 2) rfl ?_); refine box_event ?hg (N := 2) ?hd (cs := #[.int .i64 a0_0, .int .i64 a0_1, .int .i64 a0_2, .int .i64 a0_3, .int .i16 a0_4, .int .i64 a0_5]) (t := 55) ?hr ?_; (case hd => rfl); (case hg => rfl); (case hr => first | (go_simp; done) | (go_simp; rfl)); intro gb101 hg w4 hbox hb; have n0_ := Aside0.mk (below_step (by repeat (first | (with_reducible first | exact HB.out | apply below_alloc | apply pw_below_drewN | apply below_drew1) | exact HB.out)) hb); have n1_ := Aside0.mk (hbox); have n2_ := Aside0.mk ((by rw [hg]; exact (below_size (by repeat (first | (with_reducible first | exact HB.out | apply below_alloc | apply pw_below_drewN | apply below_drew1) | exact HB.out))) : w.heap.size ≤ gb101)); have n3_ := Aside0.mk ((by rw [hg]; exact (below_size (by repeat (first | (with_reducible first | exact HB.out | apply below_alloc | apply pw_below_drewN | apply below_drew1) | exact HB.out))) : w.heap.size ≤ gb101)); clear HB; have HB := n0_; have BK101 := n1_; have GW101 := n2_; have GE101 := n3_; clear n0_ n1_ n2_ n3_; clear hb hbox hg; have hcz5_0 : w4.cell? ⟨gb101, 0, none⟩ = some (.int .i64 a0_0) := (blk_cell BK101.out 0).trans rfl; have hcz5_1 : w4.cell? ⟨gb101, 1, none⟩ = some (.int .i64 a0_1) := (blk_cell BK101.out 1).trans rfl; have hcz5_2 : w4.cell? ⟨gb101, 2, none⟩ = some (.int .i64 a0_2) := (blk_cell BK101.out 2).trans rfl; have hcz5_3 : w4.cell? ⟨gb101, 3, none⟩ = some (.int .i64 a0_3) := (blk_cell BK101.out 3).trans rfl; have hcz5_4 : w4.cell? ⟨gb101, 4, none⟩ = some (.int .i16 a0_4) := (blk_cell BK101.out 4).trans rfl; have hcz5_5 : w4.cell? ⟨gb101, 5, none⟩ = some (.int .i64 a0_5) := (blk_cell BK101.out 5).trans rfl; have hfz5_0 := blk_frozen BK101.out 0; have hfz5_1 := blk_frozen BK101.out 1; have hfz5_2 := blk_frozen BK101.out 2; have hfz5_3 := blk_frozen BK101.out 3; have hfz5_4 := blk_frozen BK101.out 4; have hfz5_5 := blk_frozen BK101.out 5))
    go_ret
    exact ⟨by first | rfl | (simp [errW_none, errW_some] <;> rfl) | (simp [*, errW_none, errW_some] <;> rfl), by repeat (first | (with_reducible first | exact HB.out | apply below_alloc | apply pw_below_drewN | apply below_drew1 | refine below_set ?_ GE101.out) | exact HB.out)⟩
  · rw [if_neg c3] at H
    have c3b0 : (a1 == 0) = false := beq_eq_false_iff_ne.mpr c3
    have c3b1 : (a1 != 0) = true := bne_iff_ne.mpr c3
    by_cases c6 : a1 = 1
    · rw [if_pos c6] at H
      have c6b0 : (a1 == 1) = true := beq_iff_eq.mpr c6
      have c6b1 : (a1 != 1) = false := bne_eq_false_iff_eq.mpr c6
      clear c6
      obtain rfl := Option.some.inj H
      go_enter Tryd.func45, Tryd.ntmps45
      go_wp2_with (first | ((with_reducible refine gate_dst (N := 2) rfl ?_); refine box_event ?hg (N := 2) ?hd (cs := #[.int .i64 a0_0, .int .i64 a0_1, .int .i64 a0_2, .int .i64 a0_3, .int .i16 a0_4, .int .i64 a0_5]) (t := 55) ?hr ?_; (case hd => rfl); (case hg => rfl); (case hr => first | (go_simp; done) | (go_simp; rfl)); intro gb101 hg w7 hbox hb; have n0_ := Aside0.mk (below_step (by repeat (first | (with_reducible first | exact HB.out | apply below_alloc | apply pw_below_drewN | apply below_drew1) | exact HB.out)) hb); have n1_ := Aside0.mk (hbox); have n2_ := Aside0.mk ((by rw [hg]; exact (below_size (by repeat (first | (with_reducible first | exact HB.out | apply below_alloc | apply pw_below_drewN | apply below_drew1) | exact HB.out))) : w.heap.size ≤ gb101)); have n3_ := Aside0.mk ((by rw [hg]; exact (below_size (by repeat (first | (with_reducible first | exact HB.out | apply below_alloc | apply pw_below_drewN | apply below_drew1) | exact HB.out))) : w.heap.size ≤ gb101)); clear HB; have HB := n0_; have BK101 := n1_; have GW101 := n2_; have GE101 := n3_; clear n0_ n1_ n2_ n3_; clear hb hbox hg; have hcz8_0 : w7.cell? ⟨gb101, 0, none⟩ = some (.int .i64 a0_0) := (blk_cell BK101.out 0).trans rfl; have hcz8_1 : w7.cell? ⟨gb101, 1, none⟩ = some (.int .i64 a0_1) := (blk_cell BK101.out 1).trans rfl; have hcz8_2 : w7.cell? ⟨gb101, 2, none⟩ = some (.int .i64 a0_2) := (blk_cell BK101.out 2).trans rfl; have hcz8_3 : w7.cell? ⟨gb101, 3, none⟩ = some (.int .i64 a0_3) := (blk_cell BK101.out 3).trans rfl; have hcz8_4 : w7.cell? ⟨gb101, 4, none⟩ = some (.int .i16 a0_4) := (blk_cell BK101.out 4).trans rfl; have hcz8_5 : w7.cell? ⟨gb101, 5, none⟩ = some (.int .i64 a0_5) := (blk_cell BK101.out 5).trans rfl; have hfz8_0 := blk_frozen BK101.out 0; have hfz8_1 := blk_frozen BK101.out 1; have hfz8_2 := blk_frozen BK101.out 2; have hfz8_3 := blk_frozen BK101.out 3; have hfz8_4 := blk_frozen BK101.out 4; have hfz8_5 := blk_frozen BK101.out 5))
      go_ret
      exact ⟨by first | rfl | (simp [errW_none, errW_some] <;> rfl) | (simp [*, errW_none, errW_some] <;> rfl), by repeat (first | (with_reducible first | exact HB.out | apply below_alloc | apply pw_below_drewN | apply below_drew1 | refine below_set ?_ GE101.out) | exact HB.out)⟩
    · rw [if_neg c6] at H
      have c6b0 : (a1 == 1) = false := beq_eq_false_iff_ne.mpr c6
      have c6b1 : (a1 != 1) = true := bne_iff_ne.mpr c6
      by_cases c9 : a1 = 4
      · rw [if_pos c9] at H
        have c9b0 : (a1 == 4) = true := beq_iff_eq.mpr c9
        have c9b1 : (a1 != 4) = false := bne_eq_false_iff_eq.mpr c9
        clear c9
        obtain rfl := Option.some.inj H
        go_enter Tryd.func45, Tryd.ntmps45
        go_wp2_with (first | ((with_reducible refine gate_dst (N := 2) rfl ?_); refine box_event ?hg (N := 2) ?hd (cs := #[.int .i64 a0_0, .int .i64 a0_1, .int .i64 a0_2, .int .i64 a0_3, .int .i16 a0_4, .int .i64 a0_5]) (t := 55) ?hr ?_; (case hd => rfl); (case hg => rfl); (case hr => first | (go_simp; done) | (go_simp; rfl)); intro gb101 hg w10 hbox hb; have n0_ := Aside0.mk (below_step (by repeat (first | (with_reducible first | exact HB.out | apply below_alloc | apply pw_below_drewN | apply below_drew1) | exact HB.out)) hb); have n1_ := Aside0.mk (hbox); have n2_ := Aside0.mk ((by rw [hg]; exact (below_size (by repeat (first | (with_reducible first | exact HB.out | apply below_alloc | apply pw_below_drewN | apply below_drew1) | exact HB.out))) : w.heap.size ≤ gb101)); have n3_ := Aside0.mk ((by rw [hg]; exact (below_size (by repeat (first | (with_reducible first | exact HB.out | apply below_alloc | apply pw_below_drewN | apply below_drew1) | exact HB.out))) : w.heap.size ≤ gb101)); clear HB; have HB := n0_; have BK101 := n1_; have GW101 := n2_; have GE101 := n3_; clear n0_ n1_ n2_ n3_; clear hb hbox hg; have hcz11_0 : w10.cell? ⟨gb101, 0, none⟩ = some (.int .i64 a0_0) := (blk_cell BK101.out 0).trans rfl; have hcz11_1 : w10.cell? ⟨gb101, 1, none⟩ = some (.int .i64 a0_1) := (blk_cell BK101.out 1).trans rfl; have hcz11_2 : w10.cell? ⟨gb101, 2, none⟩ = some (.int .i64 a0_2) := (blk_cell BK101.out 2).trans rfl; have hcz11_3 : w10.cell? ⟨gb101, 3, none⟩ = some (.int .i64 a0_3) := (blk_cell BK101.out 3).trans rfl; have hcz11_4 : w10.cell? ⟨gb101, 4, none⟩ = some (.int .i16 a0_4) := (blk_cell BK101.out 4).trans rfl; have hcz11_5 : w10.cell? ⟨gb101, 5, none⟩ = some (.int .i64 a0_5) := (blk_cell BK101.out 5).trans rfl; have hfz11_0 := blk_frozen BK101.out 0; have hfz11_1 := blk_frozen BK101.out 1; have hfz11_2 := blk_frozen BK101.out 2; have hfz11_3 := blk_frozen BK101.out 3; have hfz11_4 := blk_frozen BK101.out 4; have hfz11_5 := blk_frozen BK101.out 5))
        go_ret
        exact ⟨by first | rfl | (simp [errW_none, errW_some] <;> rfl) | (simp [*, errW_none, errW_some] <;> rfl), by repeat (first | (with_reducible first | exact HB.out | apply below_alloc | apply pw_below_drewN | apply below_drew1 | refine below_set ?_ GE101.out) | exact HB.out)⟩
      · rw [if_neg c9] at H
        have c9b0 : (a1 == 4) = false := beq_eq_false_iff_ne.mpr c9
        have c9b1 : (a1 != 4) = true := bne_iff_ne.mpr c9
        obtain rfl := Option.some.inj H
        go_enter Tryd.func45, Tryd.ntmps45
        go_wp2_with (first | ((with_reducible refine gate_dst (N := 2) rfl ?_); refine box_event ?hg (N := 2) ?hd (cs := #[.int .i64 a0_0, .int .i64 a0_1, .int .i64 a0_2, .int .i64 a0_3, .int .i16 a0_4, .int .i64 a0_5]) (t := 55) ?hr ?_; (case hd => rfl); (case hg => rfl); (case hr => first | (go_simp; done) | (go_simp; rfl)); intro gb101 hg w12 hbox hb; have n0_ := Aside0.mk (below_step (by repeat (first | (with_reducible first | exact HB.out | apply below_alloc | apply pw_below_drewN | apply below_drew1) | exact HB.out)) hb); have n1_ := Aside0.mk (hbox); have n2_ := Aside0.mk ((by rw [hg]; exact (below_size (by repeat (first | (with_reducible first | exact HB.out | apply below_alloc | apply pw_below_drewN | apply below_drew1) | exact HB.out))) : w.heap.size ≤ gb101)); have n3_ := Aside0.mk ((by rw [hg]; exact (below_size (by repeat (first | (with_reducible first | exact HB.out | apply below_alloc | apply pw_below_drewN | apply below_drew1) | exact HB.out))) : w.heap.size ≤ gb101)); clear HB; have HB := n0_; have BK101 := n1_; have GW101 := n2_; have GE101 := n3_; clear n0_ n1_ n2_ n3_; clear hb hbox hg; have hcz13_0 : w12.cell? ⟨gb101, 0, none⟩ = some (.int .i64 a0_0) := (blk_cell BK101.out 0).trans rfl; have hcz13_1 : w12.cell? ⟨gb101, 1, none⟩ = some (.int .i64 a0_1) := (blk_cell BK101.out 1).trans rfl; have hcz13_2 : w12.cell? ⟨gb101, 2, none⟩ = some (.int .i64 a0_2) := (blk_cell BK101.out 2).trans rfl; have hcz13_3 : w12.cell? ⟨gb101, 3, none⟩ = some (.int .i64 a0_3) := (blk_cell BK101.out 3).trans rfl; have hcz13_4 : w12.cell? ⟨gb101, 4, none⟩ = some (.int .i16 a0_4) := (blk_cell BK101.out 4).trans rfl; have hcz13_5 : w12.cell? ⟨gb101, 5, none⟩ = some (.int .i64 a0_5) := (blk_cell BK101.out 5).trans rfl; have hfz13_0 := blk_frozen BK101.out 0; have hfz13_1 := blk_frozen BK101.out 1; have hfz13_2 := blk_frozen BK101.out 2; have hfz13_3 := blk_frozen BK101.out 3; have hfz13_4 := blk_frozen BK101.out 4; have hfz13_5 := blk_frozen BK101.out 5))
        go_ret
        exact ⟨by first | rfl | (simp [errW_none, errW_some] <;> rfl) | (simp [*, errW_none, errW_some] <;> rfl), by repeat (first | (with_reducible first | exact HB.out | apply below_alloc | apply pw_below_drewN | apply below_drew1 | refine below_set ?_ GE101.out) | exact HB.out)⟩

end Go.Proofs.YtakkifbcaedcoaaDoor.PX
