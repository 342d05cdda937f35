/- Parts of the proof, merged in build order: MDiag, ShelfS, Ev, MSort, MList, MAllD, MLawL, Dl1, MLawL2. -/
import Derived.Test.YtahgghbhpmpgfaaDoorO1
import Derived.Shelf.SlSortCmp.NoneTotal
import Derived.Test.YtahgghbhpmpgfaaDoorProg
import Derived.Ground.SlsfProg
import Derived.Test.YtahgghbhpmpgfaaDoorO0
import Derived.Lib.SliceRun
/- Functions of lists of diagnostics, as the print tool prints them (pick14f.py); the comparison keeps that the world only grew. -/
namespace Go.Proofs.YtahgghbhpmpgfaaDoor.PX
open Go.RowKit Go.Sort Go.Proofs.YtahgghbhpmpgfaaDoorW.PrintWords Go.Proofs.YtahgghbhpmpgfaaDoorW.PrintLast Go.Proofs.YtahgghbhpmpgfaaDoorW.PrintMore
attribute [local go_sem] max2_int min2_int max_two min_two max_three min_three max_four min_four   -- for this text's walks alone
set_option linter.unusedVariables false
set_option linter.unusedSimpArgs false


theorem eqA39 (d : Nat) (w : World) (x0 y0 : Int) (x1 y1 : ByteArray) :
    (Op.equalIn (d + 2) 39 (.agg #[.int .i64 x0, .string x1]) (.agg #[.int .i64 y0, .string y1])).run Tryd.prog w = .ok (x0 == y0 && (x1.toList == y1.toList)) w := by
  refine eqA_of Tryd.underlying39 (by kernel_rfl) ?_
  refine eqf_cons (by rfl) (by go_simp; rfl) (by go_simp; rfl) (by go_simp) ?_
  exact eqf_last (by rfl) (by go_simp; rfl) (by go_simp; rfl) (by go_simp)



theorem u8_tri (a b : UInt8) : a < b ∨ a = b ∨ b < a := by
  rcases Nat.lt_trichotomy a.toNat b.toNat with h | h | h
  · exact .inl (UInt8.lt_iff_toNat_lt.2 h)
  · exact .inr (.inl (UInt8.toNat_inj.1 h))
  · exact .inr (.inr (UInt8.lt_iff_toNat_lt.2 h))
theorem less_flip : ∀ x y : List UInt8, (!(Op.bytesLess x y || x == y)) = Op.bytesLess y x
  | [], [] => by simp [Op.bytesLess]
  | [], b :: y => by simp [Op.bytesLess]
  | a :: x, [] => by simp [Op.bytesLess]
  | a :: x, b :: y => by
    have ih := less_flip x y
    rw [Op.bytesLess, Op.bytesLess, ← ih]
    rcases u8_tri a b with h | h | h
    · have h1 : decide (a < b) = true := decide_eq_true h
      have h2 : ¬ b < a := by rw [UInt8.lt_iff_toNat_lt] at h ⊢; omega
      have h3 : (b == a) = false := by rw [beq_eq_false_iff_ne]; rintro rfl; exact h2 h
      simp [h1, h2, h3]
    · subst h
      have h2 : ¬ a < a := by rw [UInt8.lt_iff_toNat_lt]; omega
      simp [h2]
    · have h1 : decide (b < a) = true := decide_eq_true h
      have h2 : ¬ a < b := by rw [UInt8.lt_iff_toNat_lt] at h ⊢; omega
      have h3 : (a == b) = false := by rw [beq_eq_false_iff_ne]; rintro rfl; exact h2 h
      simp [h1, h2, h3]
theorem gtr_str (t : TypeId) (a b : ByteArray) : binOp .gtr t (.string a) (.string b) = pure (.bool (Op.bytesLess b.toList a.toList)) := by
  rw [← less_flip]
  simp [binOp, Op.stringOp]
attribute [local go_sem] gtr_str

/-- The world drew and laid blocks behind; nothing else turned. -/
def Gr (w w' : World) : Prop := ∃ q os, w' = grow (w.drewN q) os
theorem Gr.refl (w : World) : Gr w w := ⟨0, #[], by rw [grow_empty]; rfl⟩
theorem drewN_grow (w : World) (os : Array Obj) (q : Nat) : (grow w os).drewN q = grow (w.drewN q) os := rfl
theorem drewN_add (w : World) (a b : Nat) : (w.drewN a).drewN b = w.drewN (a + b) := by
  unfold World.drewN
  simp [Nat.add_assoc]
theorem Gr.trans {a b c : World} (h : Gr a b) (k : Gr b c) : Gr a c := by
  obtain ⟨q, os, rfl⟩ := h
  obtain ⟨q2, os2, rfl⟩ := k
  exact ⟨q + q2, os ++ os2, by rw [drewN_grow, grow_grow, drewN_add]⟩
theorem Gr.drewN {a b : World} (h : Gr a b) {m : Nat} : Gr a (b.drewN m) := h.trans ⟨m, #[], by rw [grow_empty]⟩
theorem Gr.drew {a b : World} (h : Gr a b) : Gr a b.drew := h.trans ⟨1, #[], by rw [grow_empty]; rfl⟩
theorem Gr.alloc (w : World) (o : Obj) : Gr w (w.alloc o) := ⟨0, #[o], by rw [alloc_eq_grow]; rfl⟩
section
variable {P : Program} {ops : Array Oper} {o : Oper} {a : Act} {Q : Exit → Act → World → Prop} {rest : List Oper} {Kc : Act → World → Prop}
theorem box_eventG {W : World} (hgd : o.guard = none) {N : Tmp} (_hd : o.dst = some N) {cs : Array Value} {t : TypeId}
    (hrun : (execOp a.eval o).run P W = .ok (.value (.pointer (some ⟨W.heap.size, 0, none⟩))) (W.alloc (.cells cs t (0, 0))))
    (h : ∀ g, g = W.heap.size → ∀ w1, w1.heap[g]? = some (.cells cs t (0, 0)) → Below W.heap.size W w1 → Gr W w1 → wpList P ops Q rest (a.put o.dst (.pointer (some ⟨g, 0, none⟩))) w1) : wpList P ops Q (o :: rest) a W :=
  Kd.event_run hgd hrun (h _ rfl _ (blk_new W _) (below_alloc (Below.refl _ _) _) (Gr.alloc _ _))
theorem R_lit_stepG {α : Type} (d : Kd α) {w0 W : World} (base e : Nat) (hw : Region.wanted o (yielded ops a.tmps) = true) {N : Tmp} (_hd : o.dst = some N) {xs : List α} {inner : List Value} {ok okp : Nat → Prop}
    (hrun : (execOp a.eval o).run P W = .ok (.value (.slice (some ⟨W.heap.size, 0, none⟩) xs.length xs.length)) (W.alloc (.cells inner.toArray e)))
    (hrep : Reps (d.M W base okp) d.sz xs inner) (hok : ∀ k, okp k → ok k) (hfresh : ok W.heap.size) (HB : Below base w0 W) (hbase : base ≤ W.heap.size) (hm : xs.length ≤ 9223372036854775807)
    (h : ∀ v1 w1, d.R e w1 base ok v1 xs → Below base w0 w1 → W.grownBy w1 none → (∃ b, v1.ownBlock = some b ∧ W.heap.size ≤ b) → Gr W w1 → Kc (a.put o.dst v1) w1) : if Region.wanted o (yielded ops a.tmps) = true then Oper.wp P o a W Kc Q else Kc (a.put o.dst undef) W := by
  refine event_step hw hrun (h _ _ ⟨fun k hk => ?_, inner, ?_, ?_⟩ (HB.alloc hbase _) (World.grownBy_alloc W _ none) ⟨W.heap.size, by simp [Value.ownBlock], Nat.le_refl _⟩ (Gr.alloc _ _))
  · have : W.heap.size = k := by simpa [Value.ownBlock] using hk
    subst this
    exact hfresh
  · have h2 := World.ownsRow_lit (base := base) (e := e) (size := d.sz) W inner.toArray xs.length hbase (by simpa [maxLen] using hm) (by simpa using hrep.1)
    simpa using h2
  · refine hrep.imp_ (fun p c hp => d.M_mono (fun k hk => ⟨hok k hk.1, fun he => ?_⟩) (Kd.M_below (d.M_bound hp) (below_alloc (Below.refl _ _) _)))
    have h3 : k = W.heap.size := by simpa [Value.ownBlock] using he
    have := hk.2.2.1
    omega
end


/-- A state of type 37 at block g of W; what its slices lead to came in by w0. -/
def IsS37 (w0 W : World) (g : Nat) (f0 : List (S39)) : Prop := ∃ A0 c0, W.heap[g]? = some (.cells #[.slice A0 f0.length c0] 37 (0, 0)) ∧ w0.heap.size ≤ g ∧ Kd.C k39 w0 A0 f0.length f0
theorem IsS37.grown {w0 W : World} {g : Nat} {f0 : List (S39)} {W1 : World} {row : Option Nat} (h : IsS37 w0 W g f0) (hw : W.grownBy W1 row) (hne : some g ≠ row) : IsS37 w0 W1 g f0 := by
  obtain ⟨A0, c0, hb, hg, hr0⟩ := h
  exact ⟨A0, c0, blk_grown hb hw hne, hg, hr0⟩
theorem IsS37.fresh {w0 W : World} {g : Nat} {f0 : List (S39)} (h : IsS37 w0 W g f0) : ∀ k, W.heap.size ≤ k → k ≠ g := by
  obtain ⟨A0, c0, hb, hg, hr0⟩ := h
  exact Kd.freshB hb
theorem IsS37.kept {w0 W : World} {g : Nat} {f0 : List (S39)} {W1 : World} {S : Nat → Prop} (h : IsS37 w0 W g f0) (hk : Kept W W1 S) (hne : ¬ S g) : IsS37 w0 W1 g f0 := by
  obtain ⟨A0, c0, hb, hg, hr0⟩ := h
  exact ⟨A0, c0, blk_kept hb hk hne, hg, hr0⟩
theorem IsS37.below {w0 W : World} {g : Nat} {f0 : List (S39)} {W1 : World} (h : IsS37 w0 W g f0) (hw : Below W.heap.size W W1) : IsS37 w0 W1 g f0 := h.grown (grown_of_below hw none) (by simp)
theorem IsS37.alloc {w0 W : World} {g : Nat} {f0 : List (S39)} (h : IsS37 w0 W g f0) (o : Obj) : IsS37 w0 (W.alloc o) g f0 := h.below (below_alloc (Below.refl _ _) o)
theorem IsS37.drewN {w0 W : World} {g : Nat} {f0 : List (S39)} (h : IsS37 w0 W g f0) (m : Nat) : IsS37 w0 (W.drewN m) g f0 := h
theorem IsS37.drew {w0 W : World} {g : Nat} {f0 : List (S39)} (h : IsS37 w0 W g f0) : IsS37 w0 W.drew g f0 := h
theorem IsS37.at_ {w0 W : World} {g : Nat} {f0 : List (S39)} {w' : World} {m : Nat} (hq : W.drewN m = w') (h : IsS37 w0 W g f0) : IsS37 w0 w' g f0 := by subst hq; exact IsS37.drewN h m
theorem IsS37.apart {w0 W : World} {g : Nat} {f0 : List (S39)} {α : Type} {d : Kd α} {e : Nat} {base : Nat} {ok : Nat → Prop} {v : Value} {xs : List α} (h : IsS37 w0 W g f0) (ho : d.R e W base ok v xs) (ht : ∀ q, q ∈ e :: d.E → q ≠ 37) : d.R e W base (fun k => ok k ∧ k ≠ g) v xs := by
  obtain ⟨A0, c0, hb, hg, hr0⟩ := h
  exact Kd.R_types ho hb ht
theorem IsS37.own_ne {w0 W : World} {g : Nat} {f0 : List (S39)} {α : Type} {d : Kd α} {e : Nat} {base : Nat} {ok : Nat → Prop} {v : Value} {xs : List α} (h : IsS37 w0 W g f0) (ho : d.R e W base ok v xs) (ht : e ≠ 37) : some g ≠ v.ownBlock := by
  obtain ⟨A0, c0, hb, hg, hr0⟩ := h
  exact Kd.R_ne ho hb ht
theorem IsS37.lt {w0 W : World} {g : Nat} {f0 : List (S39)} (h : IsS37 w0 W g f0) : g < W.heap.size := by
  obtain ⟨A0, c0, hb, hg, hr0⟩ := h
  exact blk_lt hb
theorem IsS37.far {w0 W : World} {g : Nat} {f0 : List (S39)} {p : Addr} (h : IsS37 w0 W g f0) (hne : g ≠ p.block) (u : Value) : IsS37 w0 (W.setCell p u) g f0 := by
  obtain ⟨A0, c0, hb, hg, hr0⟩ := h
  exact ⟨A0, c0, blk_far hb hne u, hg, hr0⟩
theorem IsS37.new (w0 W : World) (A0 : Option Addr) (c0 : Nat) (f0 : List (S39)) (hB : Below w0.heap.size w0 W) (hr0 : Kd.C k39 w0 A0 f0.length f0) : IsS37 w0 (W.alloc (.cells #[.slice A0 f0.length c0] 37)) W.heap.size f0 := ⟨A0, c0, by simpa using heap_alloc_new W _, hB.size, hr0⟩



attribute [local go_sem high] eqA39
/-! ### api_Diagnostic_54: function 54 -/
def api_Diagnostic_54.l0 : Nat → List (S39) → Int → Int → Int → ByteArray → Option (Int)
  | 0, _, _, _, _, _ => none
  | k + 1, x0, x7, x8, x139000, x139001 => if x8 < x7 then (if 0 ≤ x8 then (if x8 < (x0.length : Int) then (if (x139000 == ((rd_T39 x0 x8).f0) && (x139001.toList == (((rd_T39 x0 x8).f1).toList))) = true then (some x8) else (api_Diagnostic_54.l0 k x0 x7 (wrap64 (x8 + 1)) x139000 x139001)) else (none)) else (none)) else (some (-1))
def api_Diagnostic_54.f (k : Nat) (l0 : List (S39)) (a1_0 : Int) (a1_1 : ByteArray) : Option (Int) := api_Diagnostic_54.l0 k l0 (l0.length : Int) 0 a1_0 a1_1
set_option maxHeartbeats 8000000 in
set_option maxRecDepth 100000 in
theorem api_Diagnostic_54.calls (k : Nat) (A0 : Option Addr) (c0 : Nat) (l0 : List (S39)) (a1_0 : Int) (a1_1 : ByteArray) (r : Int) (w : World) (hr0 : Kd.C k39 w A0 l0.length l0) (hc0 : l0.length ≤ c0) (h : api_Diagnostic_54.f k l0 a1_0 a1_1 = some r) :
    Calls Tryd.prog 54 #[.slice A0 l0.length c0, .agg #[.int .i64 a1_0, .string a1_1]] w fun e w' => e = .returned (.int .i64 r) ∧ Below w.heap.size w w' := by
  have hu39 := Tryd.underlying39
  have HR0 := Aside0.mk hr0
  have HC0 := Aside0.mk hc0
  clear hr0 hc0
  have HB := Aside0.mk (Below.refl w.heap.size w)
  have H : (api_Diagnostic_54.l0 k l0 (l0.length : Int) 0 a1_0 a1_1) = some r := h
  clear h
  have H' := Aside0.mk H
  clear H
  go_enter Tryd.func54, Tryd.ntmps54
  go_wp2_with (first | ((with_reducible refine gate_dst (N := 3) rfl ?_); refine box_event ?hg (N := 3) ?hd (cs := #[.int .i64 a1_0, .string a1_1]) (t := 39) ?hr ?_; (case hd => rfl); (case hg => rfl); (case hr => first | (go_simp; done) | (go_simp; rfl)); intro gb138 hg w3 hbox hb; have n0_ := Aside0.mk (below_step (by repeat (first | (with_reducible first | exact HB.out | apply below_alloc | apply pw_below_drewN | apply below_drew1) | exact HB.out)) hb); have n1_ := Aside0.mk (hbox); have n2_ := Aside0.mk ((by rw [hg]; exact (below_size (by repeat (first | (with_reducible first | exact HB.out | apply below_alloc | apply pw_below_drewN | apply below_drew1) | exact HB.out))) : w.heap.size ≤ gb138)); have n3_ := Aside0.mk ((by rw [hg]; exact (below_size (by repeat (first | (with_reducible first | exact HB.out | apply below_alloc | apply pw_below_drewN | apply below_drew1) | exact HB.out))) : w.heap.size ≤ gb138)); clear HB; have HB := n0_; have BK138 := n1_; have GW138 := n2_; have GE138 := n3_; clear n0_ n1_ n2_ n3_; clear hb hbox hg))
  repeat (go_quiet (first | ((with_reducible refine gate_dst (N := 3) rfl ?_); refine box_event ?hg (N := 3) ?hd (cs := #[.int .i64 a1_0, .string a1_1]) (t := 39) ?hr ?_; (case hd => rfl); (case hg => rfl); (case hr => first | (go_simp; done) | (go_simp; rfl)); intro gb138 hg w3 hbox hb; have n0_ := Aside0.mk (below_step (by repeat (first | (with_reducible first | exact HB.out | apply below_alloc | apply pw_below_drewN | apply below_drew1) | exact HB.out)) hb); have n1_ := Aside0.mk (hbox); have n2_ := Aside0.mk ((by rw [hg]; exact (below_size (by repeat (first | (with_reducible first | exact HB.out | apply below_alloc | apply pw_below_drewN | apply below_drew1) | exact HB.out))) : w.heap.size ≤ gb138)); have n3_ := Aside0.mk ((by rw [hg]; exact (below_size (by repeat (first | (with_reducible first | exact HB.out | apply below_alloc | apply pw_below_drewN | apply below_drew1) | exact HB.out))) : w.heap.size ≤ gb138)); clear HB; have HB := n0_; have BK138 := n1_; have GW138 := n2_; have GE138 := n3_; clear n0_ n1_ n2_ n3_; clear hb hbox hg)); try go_wp2_with (first | ((with_reducible refine gate_dst (N := 3) rfl ?_); refine box_event ?hg (N := 3) ?hd (cs := #[.int .i64 a1_0, .string a1_1]) (t := 39) ?hr ?_; (case hd => rfl); (case hg => rfl); (case hr => first | (go_simp; done) | (go_simp; rfl)); intro gb138 hg w3 hbox hb; have n0_ := Aside0.mk (below_step (by repeat (first | (with_reducible first | exact HB.out | apply below_alloc | apply pw_below_drewN | apply below_drew1) | exact HB.out)) hb); have n1_ := Aside0.mk (hbox); have n2_ := Aside0.mk ((by rw [hg]; exact (below_size (by repeat (first | (with_reducible first | exact HB.out | apply below_alloc | apply pw_below_drewN | apply below_drew1) | exact HB.out))) : w.heap.size ≤ gb138)); have n3_ := Aside0.mk ((by rw [hg]; exact (below_size (by repeat (first | (with_reducible first | exact HB.out | apply below_alloc | apply pw_below_drewN | apply below_drew1) | exact HB.out))) : w.heap.size ≤ gb138)); clear HB; have HB := n0_; have BK138 := n1_; have GW138 := n2_; have GE138 := n3_; clear n0_ n1_ n2_ n3_; clear hb hbox hg)))
  go_loopg [8] k (fun kq v8 w' => ∃ (x8_1 : Int), v8 = .int .i64 x8_1 ∧ Aside0 (api_Diagnostic_54.l0 kq l0 (l0.length : Int) x8_1 a1_0 a1_1 = some r) ∧ Aside0 (kq ≤ k) ∧ Aside0 (w'.heap[gb138]? = some (.cells #[.int .i64 a1_0, .string a1_1] 39 (0, 0))) ∧ Aside0 (Below w.heap.size w w'))
  case atStart => exact ⟨(0), (by first | rfl | (simp; done) | (simp [*]; done)), H', ⟨Nat.le_refl _⟩, ⟨by (with_reducible repeat (first | refine blk_drewN ?_ _ | refine blk_drew ?_ | refine blk_alloc ?_ _)); exact BK138.out⟩, ⟨by repeat (first | (with_reducible first | exact HB.out | apply below_alloc | apply pw_below_drewN | apply below_drew1 | refine below_set ?_ GE138.out) | exact HB.out)⟩⟩
  case round =>
    clear H'
    try clear p2
    obtain ⟨x8_1, rfl, HA, HK1, BK138, HB⟩ := hrel
    cases gk with
    | zero => exact absurd HA.out (by simp [api_Diagnostic_54.l0])
    | succ k1 =>
      have H := HA.out
      clear HA
      simp only [api_Diagnostic_54.l0] at H
      by_cases c4 : x8_1 < (l0.length : Int)
      · rw [if_pos c4] at H
        have c4b0 : decide (x8_1 < (l0.length : Int)) = true := decide_eq_true c4
        clear c4
        by_cases c5 : 0 ≤ x8_1
        · rw [if_pos c5] at H
          have c5b0 : decide (0 ≤ x8_1) = true := decide_eq_true c5
          clear c5
          by_cases c6 : x8_1 < (l0.length : Int)
          · rw [if_pos c6] at H
            have c6b0 : decide (x8_1 < (l0.length : Int)) = true := decide_eq_true c6
            clear c6
            by_cases c7 : (a1_0 == ((rd_T39 l0 x8_1).f0) && (a1_1.toList == (((rd_T39 l0 x8_1).f1).toList))) = true
            · rw [if_pos c7] at H
              have c7b0 : (a1_0 == ((rd_T39 l0 x8_1).f0) && (a1_1.toList == (((rd_T39 l0 x8_1).f1).toList))) = true := c7
              (try (have c7b1 : decide (a1_0 = ((rd_T39 l0 x8_1).f0) && (a1_1.toList == (((rd_T39 l0 x8_1).f1).toList))) = true := by simpa using c7))
              (try (have c7b2 : (a1_0 == ((rd_T39 l0 x8_1).f0) && (a1_1.toList == (((rd_T39 l0 x8_1).f1).toList))) = true := by simpa using c7))
              clear c7
              obtain rfl := Option.some.inj H
              have hcz8_0 : wr.cell? ⟨gb138, 0, none⟩ = some (.int .i64 a1_0) := (blk_cell BK138.out 0).trans rfl
              have hcz8_1 : wr.cell? ⟨gb138, 1, none⟩ = some (.string a1_1) := (blk_cell BK138.out 1).trans rfl
              have hfz8_0 := blk_frozen BK138.out 0
              have hfz8_1 := blk_frozen BK138.out 1
              have p139 : 0 ≤ (x8_1 : Int) := of_decide_eq_true (by first | (with_reducible assumption) | assumption)
              have q139 : x8_1 < (l0.length : Int) := of_decide_eq_true (by first | (with_reducible assumption) | assumption)
              obtain ⟨ad139, e139, hx139_0, hx139_1⟩ := at_T39 HR0.out x8_1 p139 q139
              cases e139
              replace hx139_0 := (HB.out.cell (World.block_lt_of_cell? w _ hx139_0)).trans hx139_0
              replace hx139_1 := (HB.out.cell (World.block_lt_of_cell? w _ hx139_1)).trans hx139_1
              replace p139 := eq_true p139
              replace q139 := eq_true q139
              go_wp2
              repeat (go_quiet (fail); try go_wp2)
              go_ret
              exact ⟨by first | rfl | (simp [errW_none, errW_some] <;> rfl) | (simp [*, errW_none, errW_some] <;> rfl), by repeat (first | (with_reducible first | exact HB.out | apply below_alloc | apply pw_below_drewN | apply below_drew1 | refine below_set ?_ GE138.out) | exact HB.out)⟩
            · rw [if_neg c7] at H
              have c7b0 : (a1_0 == ((rd_T39 l0 x8_1).f0) && (a1_1.toList == (((rd_T39 l0 x8_1).f1).toList))) = false := by simpa using c7
              (try (have c7b1 : decide (a1_0 = ((rd_T39 l0 x8_1).f0) && (a1_1.toList == (((rd_T39 l0 x8_1).f1).toList))) = false := by simpa using c7))
              (try (have c7b2 : (a1_0 == ((rd_T39 l0 x8_1).f0) && (a1_1.toList == (((rd_T39 l0 x8_1).f1).toList))) = false := by simpa using c7))
              (try (have c7b3 : ¬ (a1_0 = ((rd_T39 l0 x8_1).f0) && (a1_1.toList == (((rd_T39 l0 x8_1).f1).toList))) := by simpa using c7))
              clear c7
              have H' := Aside0.mk H
              clear H
              have hcz9_0 : wr.cell? ⟨gb138, 0, none⟩ = some (.int .i64 a1_0) := (blk_cell BK138.out 0).trans rfl
              have hcz9_1 : wr.cell? ⟨gb138, 1, none⟩ = some (.string a1_1) := (blk_cell BK138.out 1).trans rfl
              have hfz9_0 := blk_frozen BK138.out 0
              have hfz9_1 := blk_frozen BK138.out 1
              have p139 : 0 ≤ (x8_1 : Int) := of_decide_eq_true (by first | (with_reducible assumption) | assumption)
              have q139 : x8_1 < (l0.length : Int) := of_decide_eq_true (by first | (with_reducible assumption) | assumption)
              obtain ⟨ad139, e139, hx139_0, hx139_1⟩ := at_T39 HR0.out x8_1 p139 q139
              cases e139
              replace hx139_0 := (HB.out.cell (World.block_lt_of_cell? w _ hx139_0)).trans hx139_0
              replace hx139_1 := (HB.out.cell (World.block_lt_of_cell? w _ hx139_1)).trans hx139_1
              replace p139 := eq_true p139
              replace q139 := eq_true q139
              go_wp2
              repeat (go_quiet (fail); try go_wp2)
              go_roundg k1
              case measure => have := HK1.out; omega
              case rel => exact ⟨(wrap64 (x8_1 + 1)), (by first | rfl | (simp; done) | (simp [*]; done)), H', ⟨by have := HK1.out; omega⟩, ⟨by (with_reducible repeat (first | refine blk_drewN ?_ _ | refine blk_drew ?_ | refine blk_alloc ?_ _)); exact BK138.out⟩, ⟨by repeat (first | (with_reducible first | exact HB.out | apply below_alloc | apply pw_below_drewN | apply below_drew1 | refine below_set ?_ GE138.out) | exact HB.out)⟩⟩
          · rw [if_neg c6] at H
            exact absurd H (by simp)
        · rw [if_neg c5] at H
          exact absurd H (by simp)
      · rw [if_neg c4] at H
        have c4b0 : decide (x8_1 < (l0.length : Int)) = false := decide_eq_false c4
        clear c4
        obtain rfl := Option.some.inj H
        go_wp2
        repeat (go_quiet (fail); try go_wp2)
        go_ret
        exact ⟨by first | rfl | (simp [errW_none, errW_some] <;> rfl) | (simp [*, errW_none, errW_some] <;> rfl), by repeat (first | (with_reducible first | exact HB.out | apply below_alloc | apply pw_below_drewN | apply below_drew1 | refine below_set ?_ GE138.out) | exact HB.out)⟩

/-! ### api_Diagnostic_38: function 38 -/
def api_Diagnostic_38.f (k : Nat) (l0 : List (S39)) (a1_0 : Int) (a1_1 : ByteArray) : Option (Bool) := (api_Diagnostic_54.f k l0 a1_0 a1_1).bind fun t141 => (some (decide (t141 ≥ 0)))
set_option maxHeartbeats 8000000 in
set_option maxRecDepth 100000 in
theorem api_Diagnostic_38.calls (k : Nat) (A0 : Option Addr) (c0 : Nat) (l0 : List (S39)) (a1_0 : Int) (a1_1 : ByteArray) (r : Bool) (w : World) (hr0 : Kd.C k39 w A0 l0.length l0) (hc0 : l0.length ≤ c0) (h : api_Diagnostic_38.f k l0 a1_0 a1_1 = some r) :
    Calls Tryd.prog 38 #[.slice A0 l0.length c0, .agg #[.int .i64 a1_0, .string a1_1]] w fun e w' => e = .returned (.bool r) ∧ Below w.heap.size w w' := by
  have hu39 := Tryd.underlying39
  have HR0 := Aside0.mk hr0
  have HC0 := Aside0.mk hc0
  clear hr0 hc0
  have HB := Aside0.mk (Below.refl w.heap.size w)
  have H : ((api_Diagnostic_54.f k l0 a1_0 a1_1).bind fun t141 => (some (decide (t141 ≥ 0)))) = some r := h
  clear h
  replace H := Option.bind_eq_some_iff.mp H
  obtain ⟨t141, A30, H⟩ := H
  replace H : (some (decide (t141 ≥ 0))) = some r := H
  have A3 := Aside0.mk A30
  clear A30
  obtain rfl := Option.some.inj H
  go_enter Tryd.func38, Tryd.ntmps38
  go_wp2_with (first | ((with_reducible refine gate_dst (N := 3) rfl ?_); refine box_event ?hg (N := 3) ?hd (cs := #[.int .i64 a1_0, .string a1_1]) (t := 39) ?hr ?_; (case hd => rfl); (case hg => rfl); (case hr => first | (go_simp; done) | (go_simp; rfl)); intro gb140 hg w4 hbox hb; have n0_ := Aside0.mk (below_step (by repeat (first | (with_reducible first | exact HB.out | apply below_alloc | apply pw_below_drewN | apply below_drew1) | exact HB.out)) hb); have n1_ := Aside0.mk (hbox); have n2_ := Aside0.mk ((by rw [hg]; exact (below_size (by repeat (first | (with_reducible first | exact HB.out | apply below_alloc | apply pw_below_drewN | apply below_drew1) | exact HB.out))) : w.heap.size ≤ gb140)); have n3_ := Aside0.mk ((by rw [hg]; exact (below_size (by repeat (first | (with_reducible first | exact HB.out | apply below_alloc | apply pw_below_drewN | apply below_drew1) | exact HB.out))) : w.heap.size ≤ gb140)); clear HB; have HB := n0_; have BK140 := n1_; have GW140 := n2_; have GE140 := n3_; clear n0_ n1_ n2_ n3_; clear hb hbox hg; have hcz5_0 : w4.cell? ⟨gb140, 0, none⟩ = some (.int .i64 a1_0) := (blk_cell BK140.out 0).trans rfl; have hcz5_1 : w4.cell? ⟨gb140, 1, none⟩ = some (.string a1_1) := (blk_cell BK140.out 1).trans rfl; have hfz5_0 := blk_frozen BK140.out 0; have hfz5_1 := blk_frozen BK140.out 1) | ((with_reducible refine gate_callee (f := 54) rfl ?_); refine goesL_ (some 7) rfl rfl Tryd.func54 (by kernel_rfl) rfl #[.slice A0 l0.length c0, .agg #[.int .i64 a1_0, .string a1_1]] rfl (by (try simp only [List.map_toArray, List.map_cons, List.map_nil]); first | done | rfl | (simp only [List.length_drop, List.length_take]; rfl)) ?_; (with_reducible refine (api_Diagnostic_54.calls k _ _ l0 a1_0 a1_1 t141 _ ?side1 ?side2 A3.out).mono ?_); (case side1 => repeat (first | exact (Kd.C_below HR0.out HB.out) | (with_reducible refine Kd.C_alloc ?_ _) | (with_reducible refine Kd.C_drewN ?_ _) | (with_reducible refine Kd.C_drew ?_))); (case side2 => exact HC0.out); rintro e w6 ⟨rfl, hb⟩; refine ⟨_, rfl, ?_⟩; have n0_ := Aside0.mk (blk_below (g := gb140) (o := .cells #[.int .i64 a1_0, .string a1_1] 39 (0, 0)) (by (with_reducible repeat (first | refine blk_drewN ?_ _ | refine blk_drew ?_ | refine blk_alloc ?_ _)); exact BK140.out) hb); have n1_ := Aside0.mk (below_step (by repeat (first | (with_reducible first | exact HB.out | apply below_alloc | apply pw_below_drewN | apply below_drew1 | refine below_set ?_ GE140.out) | exact HB.out)) hb); clear BK140; clear HB; have BK140 := n0_; have HB := n1_; clear n0_ n1_; (try clear hb); (try clear hb2); (try clear hk); (try clear hi)))
  go_ret
  exact ⟨by first | rfl | (simp [errW_none, errW_some] <;> rfl) | (simp [*, errW_none, errW_some] <;> rfl), by repeat (first | (with_reducible first | exact HB.out | apply below_alloc | apply pw_below_drewN | apply below_drew1 | refine below_set ?_ GE140.out) | exact HB.out)⟩



/-! ### trickleref14_Same: function 24 -/
def trickleref14_Same.l0 : Nat → List (S39) → List (S39) → Int → Int → Option (Bool)
  | 0, _, _, _, _ => none
  | k + 1, x0, x1, x12, x13 => if x13 < x12 then (if 0 ≤ x13 then (if x13 < (x0.length : Int) then (if x13 < (x1.length : Int) then (if (!(((rd_T39 x0 x13).f0) == ((rd_T39 x1 x13).f0)) || (!((((rd_T39 x0 x13).f1).toList) == (((rd_T39 x1 x13).f1).toList)))) = true then (some false) else (trickleref14_Same.l0 k x0 x1 x12 (wrap64 (x13 + 1)))) else (none)) else (none)) else (none)) else (some true)
def trickleref14_Same.f (k : Nat) (l0 : List (S39)) (l1 : List (S39)) : Option (Bool) := if (l0.length : Int) = (l1.length : Int) then (trickleref14_Same.l0 k l0 l1 (l0.length : Int) 0) else (some false)
set_option maxHeartbeats 8000000 in
set_option maxRecDepth 100000 in
theorem trickleref14_Same.calls (k : Nat) (A0 : Option Addr) (c0 : Nat) (l0 : List (S39)) (A1 : Option Addr) (c1 : Nat) (l1 : List (S39)) (r : Bool) (w : World) (hr0 : Kd.C k39 w A0 l0.length l0) (hc0 : l0.length ≤ c0) (hr1 : Kd.C k39 w A1 l1.length l1) (hc1 : l1.length ≤ c1) (h : trickleref14_Same.f k l0 l1 = some r) :
    Calls Tryd.prog 24 #[.slice A0 l0.length c0, .slice A1 l1.length c1] w fun e w' => e = .returned (.bool r) ∧ Drawn0 w w' := by
  have hu39 := Tryd.underlying39
  have HR0 := Aside0.mk hr0
  have HC0 := Aside0.mk hc0
  clear hr0 hc0
  have HR1 := Aside0.mk hr1
  have HC1 := Aside0.mk hc1
  clear hr1 hc1
  have H : (if (l0.length : Int) = (l1.length : Int) then (trickleref14_Same.l0 k l0 l1 (l0.length : Int) 0) else (some false)) = some r := h
  clear h
  by_cases c3 : (l0.length : Int) = (l1.length : Int)
  · rw [if_pos c3] at H
    have c3b0 : ((l0.length : Int) == (l1.length : Int)) = true := beq_iff_eq.mpr c3
    have c3b1 : ((l0.length : Int) != (l1.length : Int)) = false := bne_eq_false_iff_eq.mpr c3
    have c3b2 : (l0.length == l1.length) = true := by first | simpa using c3 | (simp at c3 ⊢; omega)
    clear c3
    have H' := Aside0.mk H
    clear H
    go_enter Tryd.func24, Tryd.ntmps24
    go_wp2
    repeat (go_quiet (fail); try go_wp2)
    go_loopg [13] k (fun kq v13 w' => ∃ (x13_1 : Int), v13 = .int .i64 x13_1 ∧ Aside0 (trickleref14_Same.l0 kq l0 l1 (l0.length : Int) x13_1 = some r) ∧ Aside0 (kq ≤ k) ∧ Drawn0 w w')
    case atStart => exact ⟨(0), (by first | rfl | (simp; done) | (simp [*]; done)), H', ⟨Nat.le_refl _⟩, by repeat (first | exact Drawn0.refl _ | apply Drawn0.step)⟩
    case round =>
      clear H'
      try clear c1
      try clear c2
      try clear p2
      try clear c3
      try clear c3b0
      try clear c3b1
      try clear c3b2
      obtain ⟨x13_1, rfl, HA, HK1, ⟨m1, rfl⟩⟩ := hrel
      cases gk with
      | zero => exact absurd HA.out (by simp [trickleref14_Same.l0])
      | succ k1 =>
        have H := HA.out
        clear HA
        simp only [trickleref14_Same.l0] at H
        by_cases c4 : x13_1 < (l0.length : Int)
        · rw [if_pos c4] at H
          have c4b0 : decide (x13_1 < (l0.length : Int)) = true := decide_eq_true c4
          clear c4
          by_cases c5 : 0 ≤ x13_1
          · rw [if_pos c5] at H
            have c5b0 : decide (0 ≤ x13_1) = true := decide_eq_true c5
            clear c5
            by_cases c6 : x13_1 < (l0.length : Int)
            · rw [if_pos c6] at H
              have c6b0 : decide (x13_1 < (l0.length : Int)) = true := decide_eq_true c6
              clear c6
              by_cases c7 : x13_1 < (l1.length : Int)
              · rw [if_pos c7] at H
                have c7b0 : decide (x13_1 < (l1.length : Int)) = true := decide_eq_true c7
                clear c7
                by_cases c8 : (!(((rd_T39 l0 x13_1).f0) == ((rd_T39 l1 x13_1).f0)) || (!((((rd_T39 l0 x13_1).f1).toList) == (((rd_T39 l1 x13_1).f1).toList)))) = true
                · rw [if_pos c8] at H
                  have c8b0 : (!(((rd_T39 l0 x13_1).f0) == ((rd_T39 l1 x13_1).f0)) || (!((((rd_T39 l0 x13_1).f1).toList) == (((rd_T39 l1 x13_1).f1).toList)))) = true := c8
                  clear c8
                  obtain rfl := Option.some.inj H
                  have p144 : 0 ≤ (x13_1 : Int) := of_decide_eq_true (by first | (with_reducible assumption) | assumption)
                  have q144 : x13_1 < (l0.length : Int) := of_decide_eq_true (by first | (with_reducible assumption) | assumption)
                  obtain ⟨ad144, e144, hx144_0, hx144_1⟩ := at_T39 HR0.out x13_1 p144 q144
                  cases e144
                  replace p144 := eq_true p144
                  replace q144 := eq_true q144
                  have p145 : 0 ≤ (x13_1 : Int) := of_decide_eq_true (by first | (with_reducible assumption) | assumption)
                  have q145 : x13_1 < (l1.length : Int) := of_decide_eq_true (by first | (with_reducible assumption) | assumption)
                  obtain ⟨ad145, e145, hx145_0, hx145_1⟩ := at_T39 HR1.out x13_1 p145 q145
                  cases e145
                  replace p145 := eq_true p145
                  replace q145 := eq_true q145
                  go_wp2
                  repeat (go_quiet (fail); try go_wp2)
                  go_ret
                  exact ⟨by first | rfl | (simp; done) | (simp [*]; done), by repeat (first | exact Drawn0.refl _ | apply Drawn0.step)⟩
                · rw [if_neg c8] at H
                  have c8b0 : (!(((rd_T39 l0 x13_1).f0) == ((rd_T39 l1 x13_1).f0)) || (!((((rd_T39 l0 x13_1).f1).toList) == (((rd_T39 l1 x13_1).f1).toList)))) = false := by simpa using c8
                  clear c8
                  have H' := Aside0.mk H
                  clear H
                  have p144 : 0 ≤ (x13_1 : Int) := of_decide_eq_true (by first | (with_reducible assumption) | assumption)
                  have q144 : x13_1 < (l0.length : Int) := of_decide_eq_true (by first | (with_reducible assumption) | assumption)
                  obtain ⟨ad144, e144, hx144_0, hx144_1⟩ := at_T39 HR0.out x13_1 p144 q144
                  cases e144
                  replace p144 := eq_true p144
                  replace q144 := eq_true q144
                  have p145 : 0 ≤ (x13_1 : Int) := of_decide_eq_true (by first | (with_reducible assumption) | assumption)
                  have q145 : x13_1 < (l1.length : Int) := of_decide_eq_true (by first | (with_reducible assumption) | assumption)
                  obtain ⟨ad145, e145, hx145_0, hx145_1⟩ := at_T39 HR1.out x13_1 p145 q145
                  cases e145
                  replace p145 := eq_true p145
                  replace q145 := eq_true q145
                  go_wp2
                  repeat (go_quiet (fail); try go_wp2)
                  go_roundg k1
                  case measure => have := HK1.out; omega
                  case rel => exact ⟨(wrap64 (x13_1 + 1)), (by first | rfl | (simp; done) | (simp [*]; done)), H', ⟨by have := HK1.out; omega⟩, by repeat (first | exact Drawn0.refl _ | apply Drawn0.step)⟩
              · rw [if_neg c7] at H
                exact absurd H (by simp)
            · rw [if_neg c6] at H
              exact absurd H (by simp)
          · rw [if_neg c5] at H
            exact absurd H (by simp)
        · rw [if_neg c4] at H
          have c4b0 : decide (x13_1 < (l0.length : Int)) = false := decide_eq_false c4
          clear c4
          obtain rfl := Option.some.inj H
          go_wp2
          repeat (go_quiet (fail); try go_wp2)
          go_ret
          exact ⟨by first | rfl | (simp; done) | (simp [*]; done), by repeat (first | exact Drawn0.refl _ | apply Drawn0.step)⟩
  · rw [if_neg c3] at H
    have c3b0 : ((l0.length : Int) == (l1.length : Int)) = false := beq_eq_false_iff_ne.mpr c3
    have c3b1 : ((l0.length : Int) != (l1.length : Int)) = true := bne_iff_ne.mpr c3
    have c3b2 : (l0.length == l1.length) = false := by first | simpa using c3 | (simp at c3 ⊢; omega)
    obtain rfl := Option.some.inj H
    go_enter Tryd.func24, Tryd.ntmps24
    go_wp2
    repeat (go_quiet (fail); try go_wp2)
    go_ret
    exact ⟨by first | rfl | (simp; done) | (simp [*]; done), by repeat (first | exact Drawn0.refl _ | apply Drawn0.step)⟩









/-! ### trickleref14_before: function 45 -/
def trickleref14_before.f (a0_0 : Int) (a0_1 : ByteArray) (a1_0 : Int) (a1_1 : ByteArray) : Option (Bool) := if a0_0 < a1_0 then (some true) else (if a0_0 = a1_0 then (some (Op.bytesLess a0_1.toList a1_1.toList)) else (some false))
/-! ### trickleref14_Add: function 26 -/
def trickleref14_Add.l0 : Nat → List (S39) → List (S39) → Bool → List (S39) → Int → Int → Int → ByteArray → Option ((List (S39)))
  | 0, _, _, _, _, _, _, _, _ => none
  | k + 1, x0, x5, x6, x9, x10, x11, x151000, x151001 => if x11 < x10 then (if 0 ≤ x11 then (if x11 < (x9.length : Int) then (if (((rd_T39 x9 x11).f0) == x151000 && ((((rd_T39 x9 x11).f1).toList) == x151001.toList)) = true then (some x0) else (if x6 = true then (if x5.length < 5864062014805 then (trickleref14_Add.l0 k x0 (x5 ++ [(⟨(rd_T39 x9 x11).f0, (rd_T39 x9 x11).f1⟩ : S39)]) x6 x9 x10 (wrap64 (x11 + 1)) x151000 x151001) else (none)) else ((trickleref14_before.f x151000 x151001 ((rd_T39 x9 x11).f0) ((rd_T39 x9 x11).f1)).bind fun t153 => (if t153 = true then (if x5.length < 5864062014805 then ((some (x5 ++ [(⟨x151000, x151001⟩ : S39)] : List (S39))).bind fun y157 => (if y157.length < 5864062014805 then (trickleref14_Add.l0 k x0 (y157 ++ [(⟨(rd_T39 x9 x11).f0, (rd_T39 x9 x11).f1⟩ : S39)]) true x9 x10 (wrap64 (x11 + 1)) x151000 x151001) else (none))) else (none)) else (if x5.length < 5864062014805 then (trickleref14_Add.l0 k x0 (x5 ++ [(⟨(rd_T39 x9 x11).f0, (rd_T39 x9 x11).f1⟩ : S39)]) x6 x9 x10 (wrap64 (x11 + 1)) x151000 x151001) else (none)))))) else (none)) else (none)) else (if x6 = true then (some x5) else (if x5.length < 5864062014805 then (some (x5 ++ [(⟨x151000, x151001⟩ : S39)])) else (none)))
def trickleref14_Add.f (k : Nat) (l0 : List (S39)) (a1_0 : Int) (a1_1 : ByteArray) : Option ((List (S39))) := trickleref14_Add.l0 k l0 ([] : List (S39)) false l0 (l0.length : Int) 0 a1_0 a1_1
/-! ### diag_List_Err: function 27 -/
/-! ### cmp_Or_int: function 42 -/
def cmp_Or_int.l0 : Nat → Int → List Int → Int → Int → Option (Int)
  | 0, _, _, _, _ => none
  | k + 1, x3, x6, x7, x8 => if x8 < x7 then (if 0 ≤ x8 then (if x8 < (x6.length : Int) then (if (rd x6 x8) = x3 then (cmp_Or_int.l0 k x3 x6 x7 (wrap64 (x8 + 1))) else (some (rd x6 x8))) else (none)) else (none)) else (some x3)
def cmp_Or_int.f (k : Nat) (l0 : List Int) : Option (Int) := cmp_Or_int.l0 k 0 l0 (l0.length : Int) 0
set_option maxHeartbeats 8000000 in
set_option maxRecDepth 100000 in
theorem cmp_Or_int.calls (k : Nat) (A0 : Option Addr) (c0 : Nat) (l0 : List Int) (r : Int) (w : World) (hr0 : Kd.C (Kd.int .i64) w A0 l0.length l0) (hc0 : l0.length ≤ c0) (h : cmp_Or_int.f k l0 = some r) :
    Calls Tryd.prog 42 #[.slice A0 l0.length c0] w fun e w' => e = .returned (.int .i64 r) ∧ Drawn0 w w' := by
  have HR0 := Aside0.mk hr0
  have HC0 := Aside0.mk hc0
  clear hr0 hc0
  have H : (cmp_Or_int.l0 k 0 l0 (l0.length : Int) 0) = some r := h
  clear h
  have H' := Aside0.mk H
  clear H
  go_enter Tryd.func42, Tryd.ntmps42
  go_wp2
  go_loopg [8] k (fun kq v8 w' => ∃ (x8_1 : Int), v8 = .int .i64 x8_1 ∧ Aside0 (cmp_Or_int.l0 kq 0 l0 (l0.length : Int) x8_1 = some r) ∧ Aside0 (kq ≤ k) ∧ Drawn0 w w')
  case atStart => exact ⟨(0), (by first | rfl | (simp; done) | (simp [*]; done)), H', ⟨Nat.le_refl _⟩, by repeat (first | exact Drawn0.refl _ | apply Drawn0.step)⟩
  case round =>
    clear H'
    obtain ⟨x8_1, rfl, HA, HK1, ⟨m1, rfl⟩⟩ := hrel
    cases gk with
    | zero => exact absurd HA.out (by simp [cmp_Or_int.l0])
    | succ k1 =>
      have H := HA.out
      clear HA
      simp only [cmp_Or_int.l0] at H
      by_cases c2 : x8_1 < (l0.length : Int)
      · rw [if_pos c2] at H
        have c2b0 : decide (x8_1 < (l0.length : Int)) = true := decide_eq_true c2
        clear c2
        by_cases c3 : 0 ≤ x8_1
        · rw [if_pos c3] at H
          have c3b0 : decide (0 ≤ x8_1) = true := decide_eq_true c3
          clear c3
          by_cases c4 : x8_1 < (l0.length : Int)
          · rw [if_pos c4] at H
            have c4b0 : decide (x8_1 < (l0.length : Int)) = true := decide_eq_true c4
            clear c4
            by_cases c5 : (rd l0 x8_1) = 0
            · rw [if_pos c5] at H
              have c5b0 : ((rd l0 x8_1) == 0) = true := beq_iff_eq.mpr c5
              have c5b1 : ((rd l0 x8_1) != 0) = false := bne_eq_false_iff_eq.mpr c5
              clear c5
              have H' := Aside0.mk H
              clear H
              have p169 : 0 ≤ (x8_1 : Int) := of_decide_eq_true (by first | (with_reducible assumption) | assumption)
              have q169 : x8_1 < (l0.length : Int) := of_decide_eq_true (by first | (with_reducible assumption) | assumption)
              obtain ⟨ad169, e169, hx169_0⟩ := Kd.at_int HR0.out x8_1 p169 q169
              cases e169
              replace p169 := eq_true p169
              replace q169 := eq_true q169
              go_wp2
              go_roundg k1
              case measure => have := HK1.out; omega
              case rel => exact ⟨(wrap64 (x8_1 + 1)), (by first | rfl | (simp; done) | (simp [*]; done)), H', ⟨by have := HK1.out; omega⟩, by repeat (first | exact Drawn0.refl _ | apply Drawn0.step)⟩
            · rw [if_neg c5] at H
              have c5b0 : ((rd l0 x8_1) == 0) = false := beq_eq_false_iff_ne.mpr c5
              have c5b1 : ((rd l0 x8_1) != 0) = true := bne_iff_ne.mpr c5
              obtain rfl := Option.some.inj H
              have p169 : 0 ≤ (x8_1 : Int) := of_decide_eq_true (by first | (with_reducible assumption) | assumption)
              have q169 : x8_1 < (l0.length : Int) := of_decide_eq_true (by first | (with_reducible assumption) | assumption)
              obtain ⟨ad169, e169, hx169_0⟩ := Kd.at_int HR0.out x8_1 p169 q169
              cases e169
              replace p169 := eq_true p169
              replace q169 := eq_true q169
              go_wp2
              go_ret
              exact ⟨by first | rfl | (simp; done) | (simp [*]; done), by repeat (first | exact Drawn0.refl _ | apply Drawn0.step)⟩
          · rw [if_neg c4] at H
            exact absurd H (by simp)
        · rw [if_neg c3] at H
          exact absurd H (by simp)
      · rw [if_neg c2] at H
        have c2b0 : decide (x8_1 < (l0.length : Int)) = false := decide_eq_false c2
        clear c2
        obtain rfl := Option.some.inj H
        go_wp2
        go_ret
        exact ⟨by first | rfl | (simp; done) | (simp [*]; done), by repeat (first | exact Drawn0.refl _ | apply Drawn0.step)⟩

/-! ### cmp_isNaN_int: function 57 -/
def cmp_isNaN_int.f (a0 : Int) : Option (Bool) := some (a0 != a0)
set_option maxHeartbeats 8000000 in
set_option maxRecDepth 100000 in
theorem cmp_isNaN_int.calls (a0 : Int) (r : Bool) (w : World) (h : cmp_isNaN_int.f a0 = some r) :
    Calls Tryd.prog 57 #[.int .i64 a0] w fun e w' => e = .returned (.bool r) ∧ Drawn0 w w' := by
  have H : (some (a0 != a0)) = some r := h
  clear h
  obtain rfl := Option.some.inj H
  go_enter Tryd.func57, Tryd.ntmps57
  go_wp2
  go_ret
  exact ⟨by first | rfl | (simp; done) | (simp [*]; done), by repeat (first | exact Drawn0.refl _ | apply Drawn0.step)⟩

/-! ### cmp_Compare_int: function 43 -/
def cmp_Compare_int.f (a0 : Int) (a1 : Int) : Option (Int) := (cmp_isNaN_int.f a0).bind fun t170 => ((cmp_isNaN_int.f a1).bind fun t171 => (if t170 = true then (if t171 = true then (some 0) else (some (-1))) else (if t171 = true then (some 1) else (if a0 < a1 then (some (-1)) else (if a0 > a1 then (some 1) else (some 0))))))
set_option maxHeartbeats 8000000 in
set_option maxRecDepth 100000 in
theorem cmp_Compare_int.calls (a0 : Int) (a1 : Int) (r : Int) (w : World) (h : cmp_Compare_int.f a0 a1 = some r) :
    Calls Tryd.prog 43 #[.int .i64 a0, .int .i64 a1] w fun e w' => e = .returned (.int .i64 r) ∧ Drawn0 w w' := by
  have H : ((cmp_isNaN_int.f a0).bind fun t170 => ((cmp_isNaN_int.f a1).bind fun t171 => (if t170 = true then (if t171 = true then (some 0) else (some (-1))) else (if t171 = true then (some 1) else (if a0 < a1 then (some (-1)) else (if a0 > a1 then (some 1) else (some 0))))))) = some r := h
  clear h
  replace H := Option.bind_eq_some_iff.mp H
  obtain ⟨t170, A30, H⟩ := H
  replace H : ((cmp_isNaN_int.f a1).bind fun t171 => (if t170 = true then (if t171 = true then (some 0) else (some (-1))) else (if t171 = true then (some 1) else (if a0 < a1 then (some (-1)) else (if a0 > a1 then (some 1) else (some 0)))))) = some r := H
  have A3 := Aside0.mk A30
  clear A30
  replace H := Option.bind_eq_some_iff.mp H
  obtain ⟨t171, A40, H⟩ := H
  replace H : (if t170 = true then (if t171 = true then (some 0) else (some (-1))) else (if t171 = true then (some 1) else (if a0 < a1 then (some (-1)) else (if a0 > a1 then (some 1) else (some 0))))) = some r := H
  have A4 := Aside0.mk A40
  clear A40
  by_cases c5 : t170 = true
  · subst c5
    have H1 : (if t171 = true then (some 0) else (some (-1))) = some r := by rw [if_pos rfl] at H; exact H
    clear H
    have H := H1
    clear H1
    by_cases c6 : t171 = true
    · subst c6
      have H1 : (some 0) = some r := by rw [if_pos rfl] at H; exact H
      clear H
      have H := H1
      clear H1
      obtain rfl := Option.some.inj H
      go_enter Tryd.func43, Tryd.ntmps43
      go_wp2_with (first | ((with_reducible refine gate_callee (f := 57) rfl ?_); refine goesL_ (some 8) rfl rfl Tryd.func57 (by kernel_rfl) rfl #[.int .i64 a0] rfl (by (try simp only [List.map_toArray, List.map_cons, List.map_nil]); first | done | rfl | (simp only [List.length_drop, List.length_take]; rfl)) ?_; (with_reducible refine (cmp_isNaN_int.calls a0 true _ A3.out).mono ?_); rintro e w' ⟨rfl, ⟨nd, rfl⟩⟩; refine ⟨_, rfl, ?_⟩) | ((with_reducible refine gate_callee (f := 57) rfl ?_); refine goesL_ (some 10) rfl rfl Tryd.func57 (by kernel_rfl) rfl #[.int .i64 a1] rfl (by (try simp only [List.map_toArray, List.map_cons, List.map_nil]); first | done | rfl | (simp only [List.length_drop, List.length_take]; rfl)) ?_; (with_reducible refine (cmp_isNaN_int.calls a1 true _ A4.out).mono ?_); rintro e w' ⟨rfl, ⟨nd, rfl⟩⟩; refine ⟨_, rfl, ?_⟩))
      go_ret
      exact ⟨by first | rfl | (simp; done) | (simp [*]; done), by repeat (first | exact Drawn0.refl _ | apply Drawn0.step)⟩
    · replace c6 := Bool.eq_false_iff.mpr c6
      subst c6
      have H1 : (some (-1)) = some r := by rw [if_neg (show ¬ (false = true) by decide)] at H; exact H
      clear H
      have H := H1
      clear H1
      obtain rfl := Option.some.inj H
      go_enter Tryd.func43, Tryd.ntmps43
      go_wp2_with (first | ((with_reducible refine gate_callee (f := 57) rfl ?_); refine goesL_ (some 8) rfl rfl Tryd.func57 (by kernel_rfl) rfl #[.int .i64 a0] rfl (by (try simp only [List.map_toArray, List.map_cons, List.map_nil]); first | done | rfl | (simp only [List.length_drop, List.length_take]; rfl)) ?_; (with_reducible refine (cmp_isNaN_int.calls a0 true _ A3.out).mono ?_); rintro e w' ⟨rfl, ⟨nd, rfl⟩⟩; refine ⟨_, rfl, ?_⟩) | ((with_reducible refine gate_callee (f := 57) rfl ?_); refine goesL_ (some 10) rfl rfl Tryd.func57 (by kernel_rfl) rfl #[.int .i64 a1] rfl (by (try simp only [List.map_toArray, List.map_cons, List.map_nil]); first | done | rfl | (simp only [List.length_drop, List.length_take]; rfl)) ?_; (with_reducible refine (cmp_isNaN_int.calls a1 false _ A4.out).mono ?_); rintro e w' ⟨rfl, ⟨nd, rfl⟩⟩; refine ⟨_, rfl, ?_⟩))
      go_ret
      exact ⟨by first | rfl | (simp; done) | (simp [*]; done), by repeat (first | exact Drawn0.refl _ | apply Drawn0.step)⟩
  · replace c5 := Bool.eq_false_iff.mpr c5
    subst c5
    have H1 : (if t171 = true then (some 1) else (if a0 < a1 then (some (-1)) else (if a0 > a1 then (some 1) else (some 0)))) = some r := by rw [if_neg (show ¬ (false = true) by decide)] at H; exact H
    clear H
    have H := H1
    clear H1
    by_cases c7 : t171 = true
    · subst c7
      have H1 : (some 1) = some r := by rw [if_pos rfl] at H; exact H
      clear H
      have H := H1
      clear H1
      obtain rfl := Option.some.inj H
      go_enter Tryd.func43, Tryd.ntmps43
      go_wp2_with (first | ((with_reducible refine gate_callee (f := 57) rfl ?_); refine goesL_ (some 8) rfl rfl Tryd.func57 (by kernel_rfl) rfl #[.int .i64 a0] rfl (by (try simp only [List.map_toArray, List.map_cons, List.map_nil]); first | done | rfl | (simp only [List.length_drop, List.length_take]; rfl)) ?_; (with_reducible refine (cmp_isNaN_int.calls a0 false _ A3.out).mono ?_); rintro e w' ⟨rfl, ⟨nd, rfl⟩⟩; refine ⟨_, rfl, ?_⟩) | ((with_reducible refine gate_callee (f := 57) rfl ?_); refine goesL_ (some 10) rfl rfl Tryd.func57 (by kernel_rfl) rfl #[.int .i64 a1] rfl (by (try simp only [List.map_toArray, List.map_cons, List.map_nil]); first | done | rfl | (simp only [List.length_drop, List.length_take]; rfl)) ?_; (with_reducible refine (cmp_isNaN_int.calls a1 true _ A4.out).mono ?_); rintro e w' ⟨rfl, ⟨nd, rfl⟩⟩; refine ⟨_, rfl, ?_⟩))
      go_ret
      exact ⟨by first | rfl | (simp; done) | (simp [*]; done), by repeat (first | exact Drawn0.refl _ | apply Drawn0.step)⟩
    · replace c7 := Bool.eq_false_iff.mpr c7
      subst c7
      have H1 : (if a0 < a1 then (some (-1)) else (if a0 > a1 then (some 1) else (some 0))) = some r := by rw [if_neg (show ¬ (false = true) by decide)] at H; exact H
      clear H
      have H := H1
      clear H1
      by_cases c8 : a0 < a1
      · rw [if_pos c8] at H
        have c8b0 : decide (a0 < a1) = true := decide_eq_true c8
        clear c8
        obtain rfl := Option.some.inj H
        go_enter Tryd.func43, Tryd.ntmps43
        go_wp2_with (first | ((with_reducible refine gate_callee (f := 57) rfl ?_); refine goesL_ (some 8) rfl rfl Tryd.func57 (by kernel_rfl) rfl #[.int .i64 a0] rfl (by (try simp only [List.map_toArray, List.map_cons, List.map_nil]); first | done | rfl | (simp only [List.length_drop, List.length_take]; rfl)) ?_; (with_reducible refine (cmp_isNaN_int.calls a0 false _ A3.out).mono ?_); rintro e w' ⟨rfl, ⟨nd, rfl⟩⟩; refine ⟨_, rfl, ?_⟩) | ((with_reducible refine gate_callee (f := 57) rfl ?_); refine goesL_ (some 10) rfl rfl Tryd.func57 (by kernel_rfl) rfl #[.int .i64 a1] rfl (by (try simp only [List.map_toArray, List.map_cons, List.map_nil]); first | done | rfl | (simp only [List.length_drop, List.length_take]; rfl)) ?_; (with_reducible refine (cmp_isNaN_int.calls a1 false _ A4.out).mono ?_); rintro e w' ⟨rfl, ⟨nd, rfl⟩⟩; refine ⟨_, rfl, ?_⟩))
        go_ret
        exact ⟨by first | rfl | (simp; done) | (simp [*]; done), by repeat (first | exact Drawn0.refl _ | apply Drawn0.step)⟩
      · rw [if_neg c8] at H
        have c8b0 : decide (a0 < a1) = false := decide_eq_false c8
        clear c8
        by_cases c9 : a0 > a1
        · rw [if_pos c9] at H
          have c9b0 : decide (a1 < a0) = true := decide_eq_true c9
          clear c9
          obtain rfl := Option.some.inj H
          go_enter Tryd.func43, Tryd.ntmps43
          go_wp2_with (first | ((with_reducible refine gate_callee (f := 57) rfl ?_); refine goesL_ (some 8) rfl rfl Tryd.func57 (by kernel_rfl) rfl #[.int .i64 a0] rfl (by (try simp only [List.map_toArray, List.map_cons, List.map_nil]); first | done | rfl | (simp only [List.length_drop, List.length_take]; rfl)) ?_; (with_reducible refine (cmp_isNaN_int.calls a0 false _ A3.out).mono ?_); rintro e w' ⟨rfl, ⟨nd, rfl⟩⟩; refine ⟨_, rfl, ?_⟩) | ((with_reducible refine gate_callee (f := 57) rfl ?_); refine goesL_ (some 10) rfl rfl Tryd.func57 (by kernel_rfl) rfl #[.int .i64 a1] rfl (by (try simp only [List.map_toArray, List.map_cons, List.map_nil]); first | done | rfl | (simp only [List.length_drop, List.length_take]; rfl)) ?_; (with_reducible refine (cmp_isNaN_int.calls a1 false _ A4.out).mono ?_); rintro e w' ⟨rfl, ⟨nd, rfl⟩⟩; refine ⟨_, rfl, ?_⟩))
          go_ret
          exact ⟨by first | rfl | (simp; done) | (simp [*]; done), by repeat (first | exact Drawn0.refl _ | apply Drawn0.step)⟩
        · rw [if_neg c9] at H
          have c9b0 : decide (a1 < a0) = false := decide_eq_false c9
          clear c9
          obtain rfl := Option.some.inj H
          go_enter Tryd.func43, Tryd.ntmps43
          go_wp2_with (first | ((with_reducible refine gate_callee (f := 57) rfl ?_); refine goesL_ (some 8) rfl rfl Tryd.func57 (by kernel_rfl) rfl #[.int .i64 a0] rfl (by (try simp only [List.map_toArray, List.map_cons, List.map_nil]); first | done | rfl | (simp only [List.length_drop, List.length_take]; rfl)) ?_; (with_reducible refine (cmp_isNaN_int.calls a0 false _ A3.out).mono ?_); rintro e w' ⟨rfl, ⟨nd, rfl⟩⟩; refine ⟨_, rfl, ?_⟩) | ((with_reducible refine gate_callee (f := 57) rfl ?_); refine goesL_ (some 10) rfl rfl Tryd.func57 (by kernel_rfl) rfl #[.int .i64 a1] rfl (by (try simp only [List.map_toArray, List.map_cons, List.map_nil]); first | done | rfl | (simp only [List.length_drop, List.length_take]; rfl)) ?_; (with_reducible refine (cmp_isNaN_int.calls a1 false _ A4.out).mono ?_); rintro e w' ⟨rfl, ⟨nd, rfl⟩⟩; refine ⟨_, rfl, ?_⟩))
          go_ret
          exact ⟨by first | rfl | (simp; done) | (simp [*]; done), by repeat (first | exact Drawn0.refl _ | apply Drawn0.step)⟩

/-! ### cmp_isNaN_string: function 58 -/
def cmp_isNaN_string.f (a0 : ByteArray) : Option (Bool) := some (a0.toList != a0.toList)
set_option maxHeartbeats 8000000 in
set_option maxRecDepth 100000 in
theorem cmp_isNaN_string.calls (a0 : ByteArray) (r : Bool) (w : World) (h : cmp_isNaN_string.f a0 = some r) :
    Calls Tryd.prog 58 #[.string a0] w fun e w' => e = .returned (.bool r) ∧ Drawn0 w w' := by
  have H : (some (a0.toList != a0.toList)) = some r := h
  clear h
  obtain rfl := Option.some.inj H
  go_enter Tryd.func58, Tryd.ntmps58
  go_wp2
  go_ret
  exact ⟨by first | rfl | (simp; done) | (simp [*]; done), by repeat (first | exact Drawn0.refl _ | apply Drawn0.step)⟩

/-! ### cmp_Compare_string: function 44 -/
def cmp_Compare_string.f (a0 : ByteArray) (a1 : ByteArray) : Option (Int) := (cmp_isNaN_string.f a0).bind fun t172 => ((cmp_isNaN_string.f a1).bind fun t173 => (if t172 = true then (if t173 = true then (some 0) else (some (-1))) else (if t173 = true then (some 1) else (if (Op.bytesLess a0.toList a1.toList) = true then (some (-1)) else (if (Op.bytesLess a1.toList a0.toList) = true then (some 1) else (some 0))))))
set_option maxHeartbeats 8000000 in
set_option maxRecDepth 100000 in
theorem cmp_Compare_string.calls (a0 : ByteArray) (a1 : ByteArray) (r : Int) (w : World) (h : cmp_Compare_string.f a0 a1 = some r) :
    Calls Tryd.prog 44 #[.string a0, .string a1] w fun e w' => e = .returned (.int .i64 r) ∧ Drawn0 w w' := by
  have H : ((cmp_isNaN_string.f a0).bind fun t172 => ((cmp_isNaN_string.f a1).bind fun t173 => (if t172 = true then (if t173 = true then (some 0) else (some (-1))) else (if t173 = true then (some 1) else (if (Op.bytesLess a0.toList a1.toList) = true then (some (-1)) else (if (Op.bytesLess a1.toList a0.toList) = true then (some 1) else (some 0))))))) = some r := h
  clear h
  replace H := Option.bind_eq_some_iff.mp H
  obtain ⟨t172, A30, H⟩ := H
  replace H : ((cmp_isNaN_string.f a1).bind fun t173 => (if t172 = true then (if t173 = true then (some 0) else (some (-1))) else (if t173 = true then (some 1) else (if (Op.bytesLess a0.toList a1.toList) = true then (some (-1)) else (if (Op.bytesLess a1.toList a0.toList) = true then (some 1) else (some 0)))))) = some r := H
  have A3 := Aside0.mk A30
  clear A30
  replace H := Option.bind_eq_some_iff.mp H
  obtain ⟨t173, A40, H⟩ := H
  replace H : (if t172 = true then (if t173 = true then (some 0) else (some (-1))) else (if t173 = true then (some 1) else (if (Op.bytesLess a0.toList a1.toList) = true then (some (-1)) else (if (Op.bytesLess a1.toList a0.toList) = true then (some 1) else (some 0))))) = some r := H
  have A4 := Aside0.mk A40
  clear A40
  by_cases c5 : t172 = true
  · subst c5
    have H1 : (if t173 = true then (some 0) else (some (-1))) = some r := by rw [if_pos rfl] at H; exact H
    clear H
    have H := H1
    clear H1
    by_cases c6 : t173 = true
    · subst c6
      have H1 : (some 0) = some r := by rw [if_pos rfl] at H; exact H
      clear H
      have H := H1
      clear H1
      obtain rfl := Option.some.inj H
      go_enter Tryd.func44, Tryd.ntmps44
      go_wp2_with (first | ((with_reducible refine gate_callee (f := 58) rfl ?_); refine goesL_ (some 8) rfl rfl Tryd.func58 (by kernel_rfl) rfl #[.string a0] rfl (by (try simp only [List.map_toArray, List.map_cons, List.map_nil]); first | done | rfl | (simp only [List.length_drop, List.length_take]; rfl)) ?_; (with_reducible refine (cmp_isNaN_string.calls a0 true _ A3.out).mono ?_); rintro e w' ⟨rfl, ⟨nd, rfl⟩⟩; refine ⟨_, rfl, ?_⟩) | ((with_reducible refine gate_callee (f := 58) rfl ?_); refine goesL_ (some 10) rfl rfl Tryd.func58 (by kernel_rfl) rfl #[.string a1] rfl (by (try simp only [List.map_toArray, List.map_cons, List.map_nil]); first | done | rfl | (simp only [List.length_drop, List.length_take]; rfl)) ?_; (with_reducible refine (cmp_isNaN_string.calls a1 true _ A4.out).mono ?_); rintro e w' ⟨rfl, ⟨nd, rfl⟩⟩; refine ⟨_, rfl, ?_⟩))
      go_ret
      exact ⟨by first | rfl | (simp; done) | (simp [*]; done), by repeat (first | exact Drawn0.refl _ | apply Drawn0.step)⟩
    · replace c6 := Bool.eq_false_iff.mpr c6
      subst c6
      have H1 : (some (-1)) = some r := by rw [if_neg (show ¬ (false = true) by decide)] at H; exact H
      clear H
      have H := H1
      clear H1
      obtain rfl := Option.some.inj H
      go_enter Tryd.func44, Tryd.ntmps44
      go_wp2_with (first | ((with_reducible refine gate_callee (f := 58) rfl ?_); refine goesL_ (some 8) rfl rfl Tryd.func58 (by kernel_rfl) rfl #[.string a0] rfl (by (try simp only [List.map_toArray, List.map_cons, List.map_nil]); first | done | rfl | (simp only [List.length_drop, List.length_take]; rfl)) ?_; (with_reducible refine (cmp_isNaN_string.calls a0 true _ A3.out).mono ?_); rintro e w' ⟨rfl, ⟨nd, rfl⟩⟩; refine ⟨_, rfl, ?_⟩) | ((with_reducible refine gate_callee (f := 58) rfl ?_); refine goesL_ (some 10) rfl rfl Tryd.func58 (by kernel_rfl) rfl #[.string a1] rfl (by (try simp only [List.map_toArray, List.map_cons, List.map_nil]); first | done | rfl | (simp only [List.length_drop, List.length_take]; rfl)) ?_; (with_reducible refine (cmp_isNaN_string.calls a1 false _ A4.out).mono ?_); rintro e w' ⟨rfl, ⟨nd, rfl⟩⟩; refine ⟨_, rfl, ?_⟩))
      go_ret
      exact ⟨by first | rfl | (simp; done) | (simp [*]; done), by repeat (first | exact Drawn0.refl _ | apply Drawn0.step)⟩
  · replace c5 := Bool.eq_false_iff.mpr c5
    subst c5
    have H1 : (if t173 = true then (some 1) else (if (Op.bytesLess a0.toList a1.toList) = true then (some (-1)) else (if (Op.bytesLess a1.toList a0.toList) = true then (some 1) else (some 0)))) = some r := by rw [if_neg (show ¬ (false = true) by decide)] at H; exact H
    clear H
    have H := H1
    clear H1
    by_cases c7 : t173 = true
    · subst c7
      have H1 : (some 1) = some r := by rw [if_pos rfl] at H; exact H
      clear H
      have H := H1
      clear H1
      obtain rfl := Option.some.inj H
      go_enter Tryd.func44, Tryd.ntmps44
      go_wp2_with (first | ((with_reducible refine gate_callee (f := 58) rfl ?_); refine goesL_ (some 8) rfl rfl Tryd.func58 (by kernel_rfl) rfl #[.string a0] rfl (by (try simp only [List.map_toArray, List.map_cons, List.map_nil]); first | done | rfl | (simp only [List.length_drop, List.length_take]; rfl)) ?_; (with_reducible refine (cmp_isNaN_string.calls a0 false _ A3.out).mono ?_); rintro e w' ⟨rfl, ⟨nd, rfl⟩⟩; refine ⟨_, rfl, ?_⟩) | ((with_reducible refine gate_callee (f := 58) rfl ?_); refine goesL_ (some 10) rfl rfl Tryd.func58 (by kernel_rfl) rfl #[.string a1] rfl (by (try simp only [List.map_toArray, List.map_cons, List.map_nil]); first | done | rfl | (simp only [List.length_drop, List.length_take]; rfl)) ?_; (with_reducible refine (cmp_isNaN_string.calls a1 true _ A4.out).mono ?_); rintro e w' ⟨rfl, ⟨nd, rfl⟩⟩; refine ⟨_, rfl, ?_⟩))
      go_ret
      exact ⟨by first | rfl | (simp; done) | (simp [*]; done), by repeat (first | exact Drawn0.refl _ | apply Drawn0.step)⟩
    · replace c7 := Bool.eq_false_iff.mpr c7
      subst c7
      have H1 : (if (Op.bytesLess a0.toList a1.toList) = true then (some (-1)) else (if (Op.bytesLess a1.toList a0.toList) = true then (some 1) else (some 0))) = some r := by rw [if_neg (show ¬ (false = true) by decide)] at H; exact H
      clear H
      have H := H1
      clear H1
      by_cases c8 : (Op.bytesLess a0.toList a1.toList) = true
      · rw [if_pos c8] at H
        have c8b0 : (Op.bytesLess a0.toList a1.toList) = true := c8
        clear c8
        obtain rfl := Option.some.inj H
        go_enter Tryd.func44, Tryd.ntmps44
        go_wp2_with (first | ((with_reducible refine gate_callee (f := 58) rfl ?_); refine goesL_ (some 8) rfl rfl Tryd.func58 (by kernel_rfl) rfl #[.string a0] rfl (by (try simp only [List.map_toArray, List.map_cons, List.map_nil]); first | done | rfl | (simp only [List.length_drop, List.length_take]; rfl)) ?_; (with_reducible refine (cmp_isNaN_string.calls a0 false _ A3.out).mono ?_); rintro e w' ⟨rfl, ⟨nd, rfl⟩⟩; refine ⟨_, rfl, ?_⟩) | ((with_reducible refine gate_callee (f := 58) rfl ?_); refine goesL_ (some 10) rfl rfl Tryd.func58 (by kernel_rfl) rfl #[.string a1] rfl (by (try simp only [List.map_toArray, List.map_cons, List.map_nil]); first | done | rfl | (simp only [List.length_drop, List.length_take]; rfl)) ?_; (with_reducible refine (cmp_isNaN_string.calls a1 false _ A4.out).mono ?_); rintro e w' ⟨rfl, ⟨nd, rfl⟩⟩; refine ⟨_, rfl, ?_⟩))
        go_ret
        exact ⟨by first | rfl | (simp; done) | (simp [*]; done), by repeat (first | exact Drawn0.refl _ | apply Drawn0.step)⟩
      · rw [if_neg c8] at H
        have c8b0 : (Op.bytesLess a0.toList a1.toList) = false := by simpa using c8
        clear c8
        by_cases c9 : (Op.bytesLess a1.toList a0.toList) = true
        · rw [if_pos c9] at H
          have c9b0 : (Op.bytesLess a1.toList a0.toList) = true := c9
          clear c9
          obtain rfl := Option.some.inj H
          go_enter Tryd.func44, Tryd.ntmps44
          go_wp2_with (first | ((with_reducible refine gate_callee (f := 58) rfl ?_); refine goesL_ (some 8) rfl rfl Tryd.func58 (by kernel_rfl) rfl #[.string a0] rfl (by (try simp only [List.map_toArray, List.map_cons, List.map_nil]); first | done | rfl | (simp only [List.length_drop, List.length_take]; rfl)) ?_; (with_reducible refine (cmp_isNaN_string.calls a0 false _ A3.out).mono ?_); rintro e w' ⟨rfl, ⟨nd, rfl⟩⟩; refine ⟨_, rfl, ?_⟩) | ((with_reducible refine gate_callee (f := 58) rfl ?_); refine goesL_ (some 10) rfl rfl Tryd.func58 (by kernel_rfl) rfl #[.string a1] rfl (by (try simp only [List.map_toArray, List.map_cons, List.map_nil]); first | done | rfl | (simp only [List.length_drop, List.length_take]; rfl)) ?_; (with_reducible refine (cmp_isNaN_string.calls a1 false _ A4.out).mono ?_); rintro e w' ⟨rfl, ⟨nd, rfl⟩⟩; refine ⟨_, rfl, ?_⟩))
          go_ret
          exact ⟨by first | rfl | (simp; done) | (simp [*]; done), by repeat (first | exact Drawn0.refl _ | apply Drawn0.step)⟩
        · rw [if_neg c9] at H
          have c9b0 : (Op.bytesLess a1.toList a0.toList) = false := by simpa using c9
          clear c9
          obtain rfl := Option.some.inj H
          go_enter Tryd.func44, Tryd.ntmps44
          go_wp2_with (first | ((with_reducible refine gate_callee (f := 58) rfl ?_); refine goesL_ (some 8) rfl rfl Tryd.func58 (by kernel_rfl) rfl #[.string a0] rfl (by (try simp only [List.map_toArray, List.map_cons, List.map_nil]); first | done | rfl | (simp only [List.length_drop, List.length_take]; rfl)) ?_; (with_reducible refine (cmp_isNaN_string.calls a0 false _ A3.out).mono ?_); rintro e w' ⟨rfl, ⟨nd, rfl⟩⟩; refine ⟨_, rfl, ?_⟩) | ((with_reducible refine gate_callee (f := 58) rfl ?_); refine goesL_ (some 10) rfl rfl Tryd.func58 (by kernel_rfl) rfl #[.string a1] rfl (by (try simp only [List.map_toArray, List.map_cons, List.map_nil]); first | done | rfl | (simp only [List.length_drop, List.length_take]; rfl)) ?_; (with_reducible refine (cmp_isNaN_string.calls a1 false _ A4.out).mono ?_); rintro e w' ⟨rfl, ⟨nd, rfl⟩⟩; refine ⟨_, rfl, ?_⟩))
          go_ret
          exact ⟨by first | rfl | (simp; done) | (simp [*]; done), by repeat (first | exact Drawn0.refl _ | apply Drawn0.step)⟩

/-! ### diag_List_All_1: function 41 -/
def diag_List_All_1.f (k : Nat) (a0_0 : Int) (a0_1 : ByteArray) (a1_0 : Int) (a1_1 : ByteArray) : Option (Int) := (cmp_Compare_int.f a0_0 a1_0).bind fun t176 => ((cmp_Compare_string.f a0_1 a1_1).bind fun t177 => ((cmp_Or_int.f k (([t176, t177] : List Int))).bind fun t181 => (some t181)))
def diag_List_All_1.T1 : Bool × List (List Nat × List Nat) := (true, [([], []), ([0], [0]), ([], []), ([2], [2]), ([1, 3], [1, 3]), ([], []), ([5], [5]), ([], []), ([7], [7]), ([6, 8, 4], [6, 8]), ([4, 9], [4, 9]), ([10, 9], [10]), ([11, 11, 0, 1, 2, 3, 4, 5, 6, 7, 8, 9, 10, 11], [11])])
def diag_List_All_1.B1 : List Nat := [0, 1, 0, 4, 15, 0, 32, 0, 128, 511, 1023, 2047, 4095]
theorem diag_List_All_1.tab1 : rtab .any (opsOf Tryd.f41 1) = diag_List_All_1.T1 := by kernel_rfl
theorem diag_List_All_1.bits1 : waitsOk diag_List_All_1.T1.2 diag_List_All_1.B1 = true := by kernel_rfl
set_option maxHeartbeats 8000000 in
set_option maxRecDepth 100000 in
theorem diag_List_All_1.calls (k : Nat) (a0_0 : Int) (a0_1 : ByteArray) (a1_0 : Int) (a1_1 : ByteArray) (r : Int) (w : World) (h : diag_List_All_1.f k a0_0 a0_1 a1_0 a1_1 = some r) :
    Calls Tryd.prog 41 #[.agg #[.int .i64 a0_0, .string a0_1], .agg #[.int .i64 a1_0, .string a1_1]] w fun e w' => e = .returned (.int .i64 r) ∧ Gr w w' := by
  have hu39 := Tryd.underlying39
  have HB := Aside0.mk (Below.refl w.heap.size w)
  have HD := Aside0.mk (Gr.refl w)
  have H : ((cmp_Compare_int.f a0_0 a1_0).bind fun t176 => ((cmp_Compare_string.f a0_1 a1_1).bind fun t177 => ((cmp_Or_int.f k (([t176, t177] : List Int))).bind fun t181 => (some t181)))) = some r := h
  clear h
  replace H := Option.bind_eq_some_iff.mp H
  obtain ⟨t176, A30, H⟩ := H
  replace H : ((cmp_Compare_string.f a0_1 a1_1).bind fun t177 => ((cmp_Or_int.f k (([t176, t177] : List Int))).bind fun t181 => (some t181))) = some r := H
  have A3 := Aside0.mk A30
  clear A30
  replace H := Option.bind_eq_some_iff.mp H
  obtain ⟨t177, A40, H⟩ := H
  replace H : ((cmp_Or_int.f k (([t176, t177] : List Int))).bind fun t181 => (some t181)) = some r := H
  have A4 := Aside0.mk A40
  clear A40
  obtain ⟨y178, hy178⟩ : ∃ y_ : List Int, y_ = (([t176, t177] : List Int)) := ⟨_, rfl⟩
  replace H : ((cmp_Or_int.f k y178).bind fun t181 => (some t181)) = some r := by first | (rw [hy178]; with_reducible exact H) | (have H2_ := (Option.bind_some _ _).symm.trans H; rw [hy178]; with_reducible exact H2_) | (have H2_ := (Option.bind_some _ _).symm.trans H; with_reducible exact H2_) | with_reducible exact H | (rw [hy178]; exact H) | exact H
  have Ny178 := Aside0.mk hy178
  clear hy178
  replace H := Option.bind_eq_some_iff.mp H
  obtain ⟨t181, A50, H⟩ := H
  replace H : (some t181) = some r := H
  have A5 := Aside0.mk A50
  clear A50
  obtain rfl := Option.some.inj H
  go_enter Tryd.func41, Tryd.ntmps41
  try go_wp2_with (first | ((with_reducible refine gate_dst (N := 2) rfl ?_); refine box_eventG ?hg (N := 2) ?hd (cs := #[.int .i64 a0_0, .string a0_1]) (t := 39) ?hr ?_; (case hd => rfl); (case hg => rfl); (case hr => first | (go_simp; done) | (go_simp; rfl)); intro gb174 hg w6 hbox hb hgr; have hd_ := Aside0.mk (Gr.trans HD.out hgr); clear HD hgr; have HD := hd_; clear hd_; have n0_ := Aside0.mk (below_step (by repeat (first | (with_reducible first | exact HB.out | apply below_alloc | apply pw_below_drewN | apply below_drew1) | exact HB.out)) hb); have n1_ := Aside0.mk (hbox); have n2_ := Aside0.mk ((by rw [hg]; exact (below_size (by repeat (first | (with_reducible first | exact HB.out | apply below_alloc | apply pw_below_drewN | apply below_drew1) | exact HB.out))) : w.heap.size ≤ gb174)); have n3_ := Aside0.mk ((by rw [hg]; exact (below_size (by repeat (first | (with_reducible first | exact HB.out | apply below_alloc | apply pw_below_drewN | apply below_drew1) | exact HB.out))) : w.heap.size ≤ gb174)); clear HB; have HB := n0_; have BK174 := n1_; have GW174 := n2_; have GE174 := n3_; clear n0_ n1_ n2_ n3_; clear hb hbox hg) | ((with_reducible refine gate_dst (N := 3) rfl ?_); refine box_eventG ?hg (N := 3) ?hd (cs := #[.int .i64 a1_0, .string a1_1]) (t := 39) ?hr ?_; (case hd => rfl); (case hg => rfl); (case hr => first | (go_simp; done) | (go_simp; rfl)); intro gb175 hg w7 hbox hb hgr; have hd_ := Aside0.mk (Gr.trans HD.out hgr); clear HD hgr; have HD := hd_; clear hd_; have n0_ := Aside0.mk (blk_below (g := gb174) (o := .cells #[.int .i64 a0_0, .string a0_1] 39 (0, 0)) (by (with_reducible repeat (first | refine blk_drewN ?_ _ | refine blk_drew ?_ | refine blk_alloc ?_ _)); exact BK174.out) hb); have n1_ := Aside0.mk (below_step (by repeat (first | (with_reducible first | exact HB.out | apply below_alloc | apply pw_below_drewN | apply below_drew1 | refine below_set ?_ GE174.out) | exact HB.out)) hb); have n2_ := Aside0.mk (hbox); have n3_ := Aside0.mk ((by rw [hg]; exact (below_size (by repeat (first | (with_reducible first | exact HB.out | apply below_alloc | apply pw_below_drewN | apply below_drew1 | refine below_set ?_ GE174.out) | exact HB.out))) : w.heap.size ≤ gb175)); have n4_ := Aside0.mk ((by rw [hg]; exact (below_size (by repeat (first | (with_reducible first | exact HB.out | apply below_alloc | apply pw_below_drewN | apply below_drew1 | refine below_set ?_ GE174.out) | exact HB.out))) : w.heap.size ≤ gb175)); have n5_ := Aside0.mk ((by rw [hg]; exact Nat.ne_of_lt (blk_lt (g := gb174) (o := .cells #[.int .i64 a0_0, .string a0_1] 39 (0, 0)) (by (with_reducible repeat (first | refine blk_drewN ?_ _ | refine blk_drew ?_ | refine blk_alloc ?_ _)); exact BK174.out)) : gb174 ≠ gb175)); have n6_ := Aside0.mk ((by rw [hg]; exact Nat.ne_of_gt (blk_lt (g := gb174) (o := .cells #[.int .i64 a0_0, .string a0_1] 39 (0, 0)) (by (with_reducible repeat (first | refine blk_drewN ?_ _ | refine blk_drew ?_ | refine blk_alloc ?_ _)); exact BK174.out)) : gb175 ≠ gb174)); clear BK174; clear HB; have BK174 := n0_; have HB := n1_; have BK175 := n2_; have GW175 := n3_; have GE175 := n4_; have NB174_175 := n5_; have NB175_174 := n6_; clear n0_ n1_ n2_ n3_ n4_ n5_ n6_; clear hb hbox hg))
  have n0_ := Aside0.mk (blk_drew BK174.out)
  have n1_ := Aside0.mk (blk_drew BK175.out)
  have n2_ := Aside0.mk (below_drew1 HB.out)
  clear BK174
  clear BK175
  clear HB
  have BK174 := n0_
  have BK175 := n1_
  have HB := n2_
  clear n0_ n1_ n2_
  refine start_ (n := 13) (S := fun w' => w'.cell? ⟨gb174, 0, none⟩ = some (.int .i64 a0_0) ∧ w'.cell? ⟨gb174, 1, none⟩ = some (.string a0_1) ∧ w'.cell? ⟨gb175, 0, none⟩ = some (.int .i64 a1_0) ∧ w'.cell? ⟨gb175, 1, none⟩ = some (.string a1_1)) (ds := []) #[false, false, false, false, false, false, false, false, false, false, false, false, false] (by kernel_rfl) rfl rfl ⟨(blk_cell BK174.out 0).trans rfl, (blk_cell BK174.out 1).trans rfl, (blk_cell BK175.out 0).trans rfl, (blk_cell BK175.out 1).trans rfl⟩ (fun hHeld => ?_); refine with_tabW diag_List_All_1.tab1 diag_List_All_1.bits1 (fun HT_ HW_ => ?_)
  have hd_ := Aside0.mk (Gr.drew HD.out)
  clear HD
  have HD := hd_
  clear hd_
  generalize w7.drew = w8 at HD BK174 BK175 HB hHeld ⊢
  refine pure_ (i := 0) (N := some 5) (v := ?_) (a' := ?_) #[true, false, false, false, false, false, false, false, false, false, false, false, false] rfl rfl (any_of HT_.out (by kernel_rfl)) (fun _ _ _ h => h) (Or.inl ⟨by rfl, ?_⟩) ?_ ?_
  rotate_left
  · intro w'
    go_simp
    with_reducible rfl
  rotate_left
  · simp only [Act.put, List.setIfInBounds_toArray, List.set_cons_zero, List.set_cons_succ, i64_w, i32_w]
    rfl
  refine pure_ (i := 2) (N := some 7) (v := ?_) (a' := ?_) #[true, false, true, false, false, false, false, false, false, false, false, false, false] rfl rfl (any_of HT_.out (by kernel_rfl)) (fun _ _ _ h => h) (Or.inl ⟨by rfl, ?_⟩) ?_ ?_
  rotate_left
  · intro w'
    go_simp
    with_reducible rfl
  rotate_left
  · simp only [Act.put, List.setIfInBounds_toArray, List.set_cons_zero, List.set_cons_succ, i64_w, i32_w]
    rfl
  refine pure_ (i := 5) (N := some 10) (v := ?_) (a' := ?_) #[true, false, true, false, false, true, false, false, false, false, false, false, false] rfl rfl (any_of HT_.out (by kernel_rfl)) (fun _ _ _ h => h) (Or.inl ⟨by rfl, ?_⟩) ?_ ?_
  rotate_left
  · intro w'
    go_simp
    with_reducible rfl
  rotate_left
  · simp only [Act.put, List.setIfInBounds_toArray, List.set_cons_zero, List.set_cons_succ, i64_w, i32_w]
    rfl
  refine pure_ (i := 7) (N := some 12) (v := ?_) (a' := ?_) #[true, false, true, false, false, true, false, true, false, false, false, false, false] rfl rfl (any_of HT_.out (by kernel_rfl)) (fun _ _ _ h => h) (Or.inl ⟨by rfl, ?_⟩) ?_ ?_
  rotate_left
  · intro w'
    go_simp
    with_reducible rfl
  rotate_left
  · simp only [Act.put, List.setIfInBounds_toArray, List.set_cons_zero, List.set_cons_succ, i64_w, i32_w]
    rfl
  refine take_ (i := 1) (N := some 6) (v := ?_) (a' := ?_) #[true, true, true, false, false, true, false, true, false, false, false, false, false] rfl rfl (take_ofW HT_.out HW_.out (by kernel_rfl)) (fun _ _ _ h => h) (Or.inl ⟨by rfl, ?_⟩) hHeld ?_ ?_
  rotate_left
  · rintro w' ⟨s0, s1, s2, s3⟩
    go_simp
    with_reducible rfl
  rotate_left
  · simp only [Act.put, List.setIfInBounds_toArray, List.set_cons_zero, List.set_cons_succ, i64_w, i32_w]
    rfl
  refine take_ (i := 3) (N := some 8) (v := ?_) (a' := ?_) #[true, true, true, true, false, true, false, true, false, false, false, false, false] rfl rfl (take_ofW HT_.out HW_.out (by kernel_rfl)) (fun _ _ _ h => h) (Or.inl ⟨by rfl, ?_⟩) hHeld ?_ ?_
  rotate_left
  · rintro w' ⟨s0, s1, s2, s3⟩
    go_simp
    with_reducible rfl
  rotate_left
  · simp only [Act.put, List.setIfInBounds_toArray, List.set_cons_zero, List.set_cons_succ, i64_w, i32_w]
    rfl
  refine take_ (i := 6) (N := some 11) (v := ?_) (a' := ?_) #[true, true, true, true, false, true, true, true, false, false, false, false, false] rfl rfl (take_ofW HT_.out HW_.out (by kernel_rfl)) (fun _ _ _ h => h) (Or.inl ⟨by rfl, ?_⟩) hHeld ?_ ?_
  rotate_left
  · rintro w' ⟨s0, s1, s2, s3⟩
    go_simp
    with_reducible rfl
  rotate_left
  · simp only [Act.put, List.setIfInBounds_toArray, List.set_cons_zero, List.set_cons_succ, i64_w, i32_w]
    rfl
  refine take_ (i := 8) (N := some 13) (v := ?_) (a' := ?_) #[true, true, true, true, false, true, true, true, true, false, false, false, false] rfl rfl (take_ofW HT_.out HW_.out (by kernel_rfl)) (fun _ _ _ h => h) (Or.inl ⟨by rfl, ?_⟩) hHeld ?_ ?_
  rotate_left
  · rintro w' ⟨s0, s1, s2, s3⟩
    go_simp
    with_reducible rfl
  rotate_left
  · simp only [Act.put, List.setIfInBounds_toArray, List.set_cons_zero, List.set_cons_succ, i64_w, i32_w]
    rfl
  refine one_ (i := 4) (N := some 9) #[true, true, true, true, true, true, true, true, true, false, false, false, false] rfl rfl (one_of HT_.out (by kernel_rfl)) (by decide) (fun K hK => ?_)
  refine goes_ Tryd.func43 (by kernel_rfl) rfl #[.int .i64 a0_0, .int .i64 a1_0] (by rfl) rfl rfl (by (try simp only [List.map_toArray, List.map_cons, List.map_nil]); first | done | rfl | (simp only [List.length_drop, List.length_take]; rfl)) ?_
  with_reducible refine (cmp_Compare_int.calls a0_0 a1_0 t176 _ A3.out).mono ?_
  rintro e w' ⟨rfl, ⟨nd, rfl⟩⟩
  refine ⟨_, rfl, ?_⟩
  refine hK.out _ _ ⟨(blk_cell BK174.out 0).trans rfl, (blk_cell BK174.out 1).trans rfl, (blk_cell BK175.out 0).trans rfl, (blk_cell BK175.out 1).trans rfl⟩ (fun hHeld => ?_)
  clear hK K
  refine norm_ (a' := ?_) ?_ ?_
  rotate_left
  · show Act.put _ (some 9) _ = _
    simp only [Act.put, List.setIfInBounds_toArray, List.set_cons_zero, List.set_cons_succ, i64_w, i32_w]
    rfl
  refine one_ (i := 9) (N := some 14) #[true, true, true, true, true, true, true, true, true, true, false, false, false] rfl rfl (one_of HT_.out (by kernel_rfl)) (by decide) (fun K hK => ?_)
  refine goes_ Tryd.func44 (by kernel_rfl) rfl #[.string a0_1, .string a1_1] (by rfl) rfl rfl (by (try simp only [List.map_toArray, List.map_cons, List.map_nil]); first | done | rfl | (simp only [List.length_drop, List.length_take]; rfl)) ?_
  with_reducible refine (cmp_Compare_string.calls a0_1 a1_1 t177 _ A4.out).mono ?_
  rintro e w' ⟨rfl, ⟨nd, rfl⟩⟩
  refine ⟨_, rfl, ?_⟩
  refine hK.out _ _ ⟨(blk_cell BK174.out 0).trans rfl, (blk_cell BK174.out 1).trans rfl, (blk_cell BK175.out 0).trans rfl, (blk_cell BK175.out 1).trans rfl⟩ (fun hHeld => ?_)
  clear hK K
  refine norm_ (a' := ?_) ?_ ?_
  rotate_left
  · show Act.put _ (some 14) _ = _
    simp only [Act.put, List.setIfInBounds_toArray, List.set_cons_zero, List.set_cons_succ, i64_w, i32_w]
    rfl
  refine one_ (i := 10) (N := some 15) #[true, true, true, true, true, true, true, true, true, true, true, false, false] rfl rfl (one_of HT_.out (by kernel_rfl)) (by decide) (fun K hK => ?_)
  refine R_lit_stepG (Kd.int .i64) _ 3 ?hg (N := 15) ?hd (xs := ([t176, t177] : List Int)) (inner := [.int .i64 t176, .int .i64 t177]) (ok := fun _ => True) (okp := fun _ => True) ?hr ?hp (fun _ hk => hk) trivial (Below.refl _ _) (Nat.le_refl _) (by simp) ?_; (case hd => rfl); (case hg => rfl); (case hr => first | (go_simp; done) | (go_simp; rfl)); (case hp => exact (Reps.one (show Kd.M (Kd.int .i64) _ _ _ t176 [.int .i64 t176] from rfl) (Reps.one (show Kd.M (Kd.int .i64) _ _ _ t177 [.int .i64 t177] from rfl) (Reps.none _ _))))
  intro v179 w9 ho10 hb hg_ hnew_ hgr
  have hd_ := Aside0.mk (Gr.trans (by repeat (first | exact HD.out | apply Gr.drewN)) hgr)
  clear HD hgr
  have HD := hd_
  clear hd_
  clear hg_ hnew_
  (first | rw [← Ny178.out] at ho10 | (simp only [Int.reduceToNat] at ho10; rw [← Ny178.out] at ho10))
  have n0_ := Aside0.mk (Kd.R_lower ho10 (below_size (by repeat (first | (with_reducible first | exact HB.out | apply below_alloc | apply pw_below_drewN | apply below_drew1 | refine below_set ?_ GE174.out | refine below_set ?_ GE175.out) | exact HB.out))))
  have n1_ := Aside0.mk (blk_below (g := gb174) (o := .cells #[.int .i64 a0_0, .string a0_1] 39 (0, 0)) (by (with_reducible repeat (first | refine blk_drewN ?_ _ | refine blk_drew ?_ | refine blk_alloc ?_ _)); exact BK174.out) hb)
  have n2_ := Aside0.mk (blk_below (g := gb175) (o := .cells #[.int .i64 a1_0, .string a1_1] 39 (0, 0)) (by (with_reducible repeat (first | refine blk_drewN ?_ _ | refine blk_drew ?_ | refine blk_alloc ?_ _)); exact BK175.out) hb)
  have n3_ := Aside0.mk (below_step (by repeat (first | (with_reducible first | exact HB.out | apply below_alloc | apply pw_below_drewN | apply below_drew1 | refine below_set ?_ GE174.out | refine below_set ?_ GE175.out) | exact HB.out)) hb)
  clear BK174
  clear BK175
  clear HB
  have HO180 := n0_
  have BK174 := n1_
  have BK175 := n2_
  have HB := n3_
  clear n0_ n1_ n2_ n3_
  clear hb ho10
  obtain ⟨Ao11, co11, eo11⟩ := Kd.R_slice HO180.out
  (first | subst eo11 | (injection eo11 with f1_ f2_ f3_; have f4_ := f1_.symm; have f5_ := f3_.symm; clear f1_ f2_ f3_; subst f4_; subst f5_))
  refine hK.out _ _ ⟨(blk_cell BK174.out 0).trans rfl, (blk_cell BK174.out 1).trans rfl, (blk_cell BK175.out 0).trans rfl, (blk_cell BK175.out 1).trans rfl⟩ (fun hHeld => ?_)
  clear hK K
  refine norm_ (a' := ?_) ?_ ?_
  rotate_left
  · show Act.put _ (some 15) _ = _
    simp only [Act.put, List.setIfInBounds_toArray, List.set_cons_zero, List.set_cons_succ, i64_w, i32_w]
    rfl
  refine one_ (i := 11) (N := some 16) #[true, true, true, true, true, true, true, true, true, true, true, true, false] rfl rfl (one_of HT_.out (by kernel_rfl)) (by decide) (fun K hK => ?_)
  refine goes_ Tryd.func42 (by kernel_rfl) rfl #[.slice Ao11 y178.length co11] (by rfl) rfl rfl (by (try simp only [List.map_toArray, List.map_cons, List.map_nil]); first | done | rfl | (simp only [List.length_drop, List.length_take]; rfl)) ?_
  with_reducible refine (cmp_Or_int.calls k _ _ y178 t181 _ ?side1 ?side2 A5.out).mono ?_
  (case side1 => repeat (first | exact (Kd.R_reads' HO180.out).2.2 | (with_reducible refine Kd.C_alloc ?_ _) | (with_reducible refine Kd.C_drewN ?_ _) | (with_reducible refine Kd.C_drew ?_)))
  (case side2 => exact (Kd.R_reads' HO180.out).2.1)
  rintro e w' ⟨rfl, ⟨nd, rfl⟩⟩
  refine ⟨_, rfl, ?_⟩
  refine hK.out _ _ ⟨(blk_cell BK174.out 0).trans rfl, (blk_cell BK174.out 1).trans rfl, (blk_cell BK175.out 0).trans rfl, (blk_cell BK175.out 1).trans rfl⟩ (fun hHeld => ?_)
  clear hK K
  refine norm_ (a' := ?_) ?_ ?_
  rotate_left
  · show Act.put _ (some 16) _ = _
    simp only [Act.put, List.setIfInBounds_toArray, List.set_cons_zero, List.set_cons_succ, i64_w, i32_w]
    rfl
  refine pure_ (i := 12) (N := some 4) (v := ?_) (a' := ?_) #[true, true, true, true, true, true, true, true, true, true, true, true, true] rfl rfl (any_of HT_.out (by kernel_rfl)) (fun _ _ _ h => h) (Or.inl ⟨by rfl, ?_⟩) ?_ ?_
  rotate_left
  · intro w'
    go_simp
    with_reducible rfl
  rotate_left
  · simp only [Act.put, List.setIfInBounds_toArray, List.set_cons_zero, List.set_cons_succ, i64_w, i32_w]
    rfl
  refine done_ (done_of HT_.out (by kernel_rfl)) ?_
  try go_wp2
  go_ret
  exact ⟨by first | rfl | (simp [errW_none, errW_some] <;> rfl), by repeat (first | exact HD.out | apply Gr.drewN)⟩
end Go.Proofs.YtahgghbhpmpgfaaDoor.PX
/-
  DERIVED: THE SHELF's CONTRACTS AT THIS DUMP, IN PLAIN WORDS (tools/lay-plain.mjs out of 'YtahgghbhpmpgfaaDoorShelfS.lean', which tools/lay-shelf.mjs wrote): THE SAME DECLARATIONS UNDER THE SAME NAMES: 'import', 'namespace', 'open', 'def', 'theorem' AND NOTHING ELSE: no command of the shelf's: FOR A HAND-IN. Each laying: the table of numbers ('.._ren') and one theorem, a field a fact of the dump's own or the kernel's comparison; each contract: ONE APPLICATION.
-/
namespace Go.Proofs
open Go.Shelf
def Tryd.sortL_ren : Go.Shelf.Ren := ⟨fun | 6 => 40 | 15 => 56 | 14 => 55 | 28 => 72 | 29 => 73 | 20 => 64 | 21 => 65 | 22 => 66 | 23 => 67 | 24 => 68 | 25 => 69 | 26 => 70 | 27 => 71 | 46 => 83 | 47 => 84 | 48 => 85 | 49 => 86 | 50 => 87 | 57 => 95 | n => n, fun | 22 => 27 | 24 => 39 | 25 => 67 | 3 => 3 | 39 => 75 | 0 => 0 | 53 => 90 | 55 => 92 | 4 => 4 | 46 => 84 | 45 => 83 | 50 => 32 | 5 => 5 | 9 => 9 | 66 => 100 | 70 => 104 | 76 => 111 | 77 => 23 | n => n, fun | n => n⟩
theorem Tryd.sortL : Go.Proofs.SlLaysF0.n6 Tryd.prog Tryd.sortL_ren := {
  mixed := by kernel_rfl
  f6 := ⟨Tryd.f40.name, by decide, Tryd.func40.trans (congrArg some (by kernel_rfl))⟩
  f14 := ⟨Tryd.f55.name, by decide, Tryd.func55.trans (congrArg some (by kernel_rfl))⟩
  f15 := Tryd.func56.trans (congrArg some (by kernel_rfl))
  f20 := ⟨Tryd.f64.name, by decide, Tryd.func64.trans (congrArg some (by kernel_rfl))⟩
  f21 := ⟨Tryd.f65.name, by decide, Tryd.func65.trans (congrArg some (by kernel_rfl))⟩
  f22 := ⟨Tryd.f66.name, by decide, Tryd.func66.trans (congrArg some (by kernel_rfl))⟩
  f23 := ⟨Tryd.f67.name, by decide, Tryd.func67.trans (congrArg some (by kernel_rfl))⟩
  f24 := ⟨Tryd.f68.name, by decide, Tryd.func68.trans (congrArg some (by kernel_rfl))⟩
  f25 := ⟨Tryd.f69.name, by decide, Tryd.func69.trans (congrArg some (by kernel_rfl))⟩
  f26 := ⟨Tryd.f70.name, by decide, Tryd.func70.trans (congrArg some (by kernel_rfl))⟩
  f27 := ⟨Tryd.f71.name, by decide, Tryd.func71.trans (congrArg some (by kernel_rfl))⟩
  f28 := Tryd.func72.trans (congrArg some (by kernel_rfl))
  f29 := Tryd.func73.trans (congrArg some (by kernel_rfl))
  f46 := ⟨Tryd.f83.name, by decide, Tryd.func83.trans (congrArg some (by kernel_rfl))⟩
  f47 := Tryd.func84.trans (congrArg some (by kernel_rfl))
  f48 := Tryd.func85.trans (congrArg some (by kernel_rfl))
  f49 := ⟨Tryd.f86.name, by decide, Tryd.func86.trans (congrArg some (by kernel_rfl))⟩
  f50 := ⟨Tryd.f87.name, by decide, Tryd.func87.trans (congrArg some (by kernel_rfl))⟩
  f57 := ⟨Tryd.f95.name, by decide, Tryd.func95.trans (congrArg some (by kernel_rfl))⟩
  t0 := Tryd.underlying0
  a0 := Tryd.isAgg0
  z0 := Tryd.sizeOf0
  v0 := Tryd.zeroValue0
  t3 := Tryd.underlying3
  a3 := Tryd.isAgg3
  z3 := Tryd.sizeOf3
  v3 := Tryd.zeroValue3
  t4 := Tryd.underlying4
  a4 := Tryd.isAgg4
  z4 := Tryd.sizeOf4
  v4 := Tryd.zeroValue4
  t5 := Tryd.underlying5
  a5 := Tryd.isAgg5
  z5 := Tryd.sizeOf5
  v5 := Tryd.zeroValue5
  t9 := Tryd.underlying9
  a9 := Tryd.isAgg9
  z9 := Tryd.sizeOf9
  v9 := Tryd.zeroValue9
  t22 := Tryd.underlying27
  a22 := Tryd.isAgg27
  z22 := Tryd.sizeOf27
  v22 := Tryd.zeroValue27
  t25 := Tryd.underlying67
  a25 := Tryd.isAgg67
  z25 := Tryd.sizeOf67
  v25 := Tryd.zeroValue67
  t39 := Tryd.underlying75
  a39 := Tryd.isAgg75
  z39 := Tryd.sizeOf75
  v39 := Tryd.zeroValue75
  t45 := Tryd.underlying83
  a45 := Tryd.isAgg83
  z45 := Tryd.sizeOf83
  v45 := Tryd.zeroValue83
  t46 := Tryd.underlying84
  a46 := Tryd.isAgg84
  z46 := Tryd.sizeOf84
  v46 := Tryd.zeroValue84
  t50 := Tryd.underlying32
  a50 := Tryd.isAgg32
  z50 := Tryd.sizeOf32
  v50 := Tryd.zeroValue32
  t53 := Tryd.underlying90
  a53 := Tryd.isAgg90
  z53 := Tryd.sizeOf90
  v53 := Tryd.zeroValue90
  t55 := Tryd.underlying92
  a55 := Tryd.isAgg92
  z55 := Tryd.sizeOf92
  v55 := Tryd.zeroValue92
  t66 := Tryd.underlying100
  a66 := Tryd.isAgg100
  z66 := Tryd.sizeOf100
  v66 := Tryd.zeroValue100
  t70 := Tryd.underlying104
  a70 := Tryd.isAgg104
  z70 := Tryd.sizeOf104
  v70 := Tryd.zeroValue104
  t76 := Tryd.underlying111
  a76 := Tryd.isAgg111
  z76 := Tryd.sizeOf111
  v76 := Tryd.zeroValue111
  t77 := Tryd.underlying23
  a77 := Tryd.isAgg23
  z77 := Tryd.sizeOf23
  v77 := Tryd.zeroValue23 }
end Go.Proofs
/- Small words on 'with enough rounds' (Ev), lists read by whole numbers, and wraps. Of no program. -/
namespace Go.Proofs.YtahgghbhpmpgfaaDoor.PX
open Go.RowKit Go.Proofs.YtahgghbhpmpgfaaDoorW.PrintWords
theorem Ev.pos {α : Type} {c : Prop} [Decidable c] {g f : Nat → Option α} {r : α} (h : c) (k : Ev g r) : Ev (fun n => if c then g n else f n) r := by
  obtain ⟨K, hK⟩ := k
  exact ⟨K, fun n hn => (if_pos h).trans (hK n hn)⟩
theorem Ev.neg {α : Type} {c : Prop} [Decidable c] {g f : Nat → Option α} {r : α} (h : ¬ c) (k : Ev f r) : Ev (fun n => if c then g n else f n) r := by
  obtain ⟨K, hK⟩ := k
  exact ⟨K, fun n hn => (if_neg h).trans (hK n hn)⟩
theorem Ev.someb {α β : Type} {a : α} {f : Nat → α → Option β} {r : β} (k : Ev (fun n => f n a) r) : Ev (fun n => (some a).bind (f n)) r := k
theorem Ev.const {α β : Type} {c : Option α} {a : α} {f : Nat → α → Option β} {r : β} (h : c = some a) (k : Ev (fun n => f n a) r) : Ev (fun n => c.bind (f n)) r := by
  rw [h]; exact k
theorem Ev.cast {α : Type} {g : Nat → Option α} {r r' : α} (h : Ev g r) (e : r = r') : Ev g r' := e ▸ h
theorem wrap_nat {j n : Nat} (h : j < n) (hn : n ≤ 9223372036854775807) : wrap64 ((j : Int) + 1) = ((j + 1 : Nat) : Int) := by
  unfold wrap64
  omega
theorem wrap_id {i : Int} (h0 : -9223372036854775808 ≤ i) (h : i ≤ 9223372036854775807) : wrap64 i = i := by
  unfold wrap64
  omega
theorem drop_cons {α : Type} (xs : List α) (j : Nat) (h : j < xs.length) : xs.drop j = xs[j] :: xs.drop (j + 1) := List.drop_eq_getElem_cons h
theorem take_snoc' {α : Type} (xs : List α) (j : Nat) (h : j < xs.length) : xs.take (j + 1) = xs.take j ++ [xs[j]] := List.take_succ_eq_append_getElem h
end Go.Proofs.YtahgghbhpmpgfaaDoor.PX
/- The order of diagnostics: the comparison of (*diag.List).All, a strict order that parts whatever two; slices.SortFunc laid. -/
namespace Go.Proofs.YtahgghbhpmpgfaaDoor.PX
open Go.RowKit Go.Sort Go.Shelf Go.Lib Go.Proofs.YtahgghbhpmpgfaaDoorW.PrintWords Go.Proofs.YtahgghbhpmpgfaaDoorW.PrintLast Go.Proofs.YtahgghbhpmpgfaaDoorW.PrintMore
set_option linter.unusedVariables false
instance : Inhabited S39 := ⟨z39⟩
abbrev less (x y : List UInt8) : Bool := Op.bytesLess x y
theorem less_irrefl : ∀ x, less x x = false
  | [] => rfl
  | a :: x => by
    have h : ¬ a < a := by rw [UInt8.lt_iff_toNat_lt]; omega
    simp [less, Op.bytesLess, h]
    exact less_irrefl x
theorem less_cons (a b : UInt8) (x y : List UInt8) : less (a :: x) (b :: y) = true ↔ (a.toNat < b.toNat ∨ (a = b ∧ less x y = true)) := by
  unfold less
  rw [Op.bytesLess]
  simp [UInt8.lt_iff_toNat_lt]
theorem less_trans : ∀ x y z, less x y = true → less y z = true → less x z = true
  | x, [], z, h1, h2 => by simp [less, Op.bytesLess] at h1
  | x, b :: y, [], h1, h2 => by simp [less, Op.bytesLess] at h2
  | [], b :: y, c :: z, h1, h2 => by simp [less, Op.bytesLess]
  | a :: x, b :: y, c :: z, h1, h2 => by
    rw [less_cons] at h1 h2 ⊢
    rcases h1 with h1 | ⟨rfl, h1⟩
    · rcases h2 with h2 | ⟨rfl, h2⟩
      · exact .inl (by omega)
      · exact .inl h1
    · rcases h2 with h2 | ⟨rfl, h2⟩
      · exact .inl h2
      · exact .inr ⟨rfl, less_trans x y z h1 h2⟩
theorem less_total (x y : List UInt8) (h1 : less x y = false) (h2 : less y x = false) : x = y := by
  have h := less_flip x y
  change (!(less x y || x == y)) = less y x at h
  rw [h1, h2] at h
  simpa using h
/-- Diagnostic x stands before diagnostic y. -/
def ltD (x y : S39) : Prop := x.f0 < y.f0 ∨ (x.f0 = y.f0 ∧ less x.f1.toList y.f1.toList = true)
instance (x y : S39) : Decidable (ltD x y) := by unfold ltD; infer_instance
theorem toList_inj {a b : ByteArray} (h : a.toList = b.toList) : a = b := by
  rw [Go.ByteArray.toList_eq, Go.ByteArray.toList_eq] at h
  exact ByteArray.ext (Array.ext' h)
theorem ltD_irrefl (x : S39) : ¬ ltD x x := by
  rintro (h | ⟨_, h⟩)
  · omega
  · rw [less_irrefl] at h; cases h
theorem ltD_trans {x y z : S39} (h1 : ltD x y) (h2 : ltD y z) : ltD x z := by
  rcases h1 with h1 | ⟨e1, h1⟩
  · rcases h2 with h2 | ⟨e2, h2⟩
    · exact .inl (by omega)
    · exact .inl (by omega)
  · rcases h2 with h2 | ⟨e2, h2⟩
    · exact .inl (by omega)
    · exact .inr ⟨by omega, less_trans _ _ _ h1 h2⟩
theorem ltD_total {x y : S39} (h1 : ¬ ltD x y) (h2 : ¬ ltD y x) : x = y := by
  have e0 : x.f0 = y.f0 := by
    rcases Int.lt_trichotomy x.f0 y.f0 with h | h | h
    · exact absurd (Or.inl h) h1
    · exact h
    · exact absurd (Or.inl h) h2
  have e1 : x.f1 = y.f1 := by
    apply toList_inj
    apply less_total
    · by_cases h : less x.f1.toList y.f1.toList = true
      · exact absurd (Or.inr ⟨e0, h⟩) h1
      · simpa using h
    · by_cases h : less y.f1.toList x.f1.toList = true
      · exact absurd (Or.inr ⟨e0.symm, h⟩) h2
      · simpa using h
  cases x; cases y
  simp at e0 e1
  rw [e0, e1]
/-- What the comparison returns. -/
def cfD (x y : S39) : Int := if ltD x y then -1 else if ltD y x then 1 else 0
theorem ltOf_D (x y : S39) : ltOf cfD x y = decide (ltD x y) := by
  unfold ltOf cfD
  by_cases h1 : ltD x y
  · simp [h1]
  · by_cases h2 : ltD y x <;> simp [h1, h2]
theorem swoD : SWO (ltOf cfD) where
  irrefl x := by rw [ltOf_D]; exact decide_eq_false (ltD_irrefl x)
  trans x y z h1 h2 := by rw [ltOf_D] at *; exact decide_eq_true (ltD_trans (of_decide_eq_true h1) (of_decide_eq_true h2))
  ntrans x y z h1 h2 := by
    rw [ltOf_D] at *
    have g1 := of_decide_eq_false h1
    have g2 := of_decide_eq_false h2
    apply decide_eq_false
    intro h
    by_cases k : ltD y x
    · exact g2 (ltD_trans k h)
    · rw [ltD_total g1 k] at h
      exact g2 h
theorem totD (x y : S39) (h1 : (ltOf cfD) x y = false) (h2 : (ltOf cfD) y x = false) : x = y := by
  rw [ltOf_D] at *
  exact ltD_total (of_decide_eq_false h1) (of_decide_eq_false h2)
theorem cmp_eq (x y : S39) : diag_List_All_1.f 8 x.f0 x.f1 y.f0 y.f1 = some (cfD x y) := by
  have hi : ∀ a : Int, cmp_isNaN_int.f a = some false := fun a => by unfold cmp_isNaN_int.f; simp
  have hs : ∀ a : ByteArray, cmp_isNaN_string.f a = some false := fun a => by unfold cmp_isNaN_string.f; simp
  have hc : cmp_Compare_int.f x.f0 y.f0 = some (if x.f0 < y.f0 then -1 else if y.f0 < x.f0 then 1 else 0) := by
    unfold cmp_Compare_int.f
    rw [hi, hi]
    simp only [Option.bind_some, Bool.false_eq_true, if_false, gt_iff_lt]
    split <;> (try split) <;> rfl
  have hd : cmp_Compare_string.f x.f1 y.f1 = some (if less x.f1.toList y.f1.toList = true then -1 else if less y.f1.toList x.f1.toList = true then 1 else 0) := by
    unfold cmp_Compare_string.f
    rw [hs, hs]
    simp only [Option.bind_some, Bool.false_eq_true, if_false]
    split <;> (try split) <;> rfl
  have ho : ∀ a b : Int, cmp_Or_int.f 8 [a, b] = some (if a = 0 then b else a) := by
    intro a b
    have w1 : wrap64 (0 + 1) = 1 := by unfold wrap64; omega
    have w2 : wrap64 (1 + 1) = 2 := by unfold wrap64; omega
    unfold cmp_Or_int.f
    have e : (([a, b] : List Int).length : Int) = 2 := rfl
    rw [e]
    rw [cmp_Or_int.l0, if_pos (by omega), if_pos (by omega), e, if_pos (by omega), show rd [a, b] 0 = a from rfl, w1]
    by_cases ha : a = 0
    · rw [if_pos ha, if_pos ha, cmp_Or_int.l0, if_pos (by omega), if_pos (by omega), e, if_pos (by omega), show rd [a, b] 1 = b from rfl, w2]
      by_cases hb : b = 0
      · rw [if_pos hb, cmp_Or_int.l0, if_neg (by omega), hb]
      · rw [if_neg hb]
    · rw [if_neg ha, if_neg ha]
  unfold diag_List_All_1.f
  rw [hc, Option.bind_some, hd, Option.bind_some, ho, Option.bind_some]
  congr 1
  unfold cfD
  by_cases h1 : x.f0 < y.f0
  · rw [if_pos h1, if_pos (show ltD x y from Or.inl h1)]; rfl
  · by_cases h2 : y.f0 < x.f0
    · rw [if_neg h1, if_pos h2, if_neg (show ¬ ltD x y by rintro (h | ⟨h, _⟩) <;> omega), if_pos (show ltD y x from Or.inl h2)]; rfl
    · have e : x.f0 = y.f0 := by omega
      rw [if_neg h1, if_neg h2, if_pos rfl]
      by_cases h3 : less x.f1.toList y.f1.toList = true
      · rw [if_pos h3, if_pos (show ltD x y from Or.inr ⟨e, h3⟩)]
      · rw [if_neg h3, if_neg (show ¬ ltD x y by rintro (h | ⟨_, h⟩); exact h1 h; exact h3 h)]
        by_cases h4 : less y.f1.toList x.f1.toList = true
        · rw [if_pos h4, if_pos (show ltD y x from Or.inr ⟨e.symm, h4⟩)]
        · rw [if_neg h4, if_neg (show ¬ ltD y x by rintro (h | ⟨_, h⟩); exact h2 h; exact h4 h)]
/-- A diagnostic's two cells. -/
def encD (x : S39) : List Value := [.int .i64 x.f0, .string x.f1]
theorem closure41 (x y : S39) (W : World) : Calls Tryd.prog 41 #[.agg (encD x).toArray, .agg (encD y).toArray] W fun e w' => e = .returned (.int .i64 (cfD x y)) ∧ ∃ q os', w' = grow (W.drewN q) os' :=
  diag_List_All_1.calls 8 x.f0 x.f1 y.f0 y.f1 (cfD x y) W (cmp_eq x y)
theorem cmpLays41 (blk off size : Nat) (w : World) : CmpLays Tryd.prog 41 #[] encD 2 cfD blk off size w := fun _ _ _ _ x y => closure41 x y _
theorem isAgg39 (w : World) : (isAgg 39).run Tryd.prog w = .ok true w := by simp [isAgg]
theorem sizeOf39 (w : World) : (Go.sizeOf 39).run Tryd.prog w = .ok 2 w := by
  obtain ⟨i, hi, hs⟩ := Option.map_eq_some_iff.1 (show (Tryd.prog.info? 39).map (·.size) = some 2 by kernel_rfl)
  simp [Go.sizeOf, typeInfo, hi, hs]
/-- The list in order. -/
def sortD (l : List S39) : List S39 := l.mergeSort fun x y => !(ltOf cfD) y x
theorem sort_calls (blk off cap : Nat) (l : List S39) (w : World) (hH : HoldsK encD 2 w blk off l.toArray) (hblk : blk < w.heap.size) (hsz : l.length < 4611686018427387904) :
    Calls Tryd.prog 40 #[.slice (some ⟨blk, off, none⟩) l.length cap, .func (.func 41) #[] #[]] w fun e w' => e = .returned (.tuple #[]) ∧ ∃ n os, w' = sortWorldK encD 2 w blk off n (sortD l).toArray os := by
  have eg : ∀ args w, (callFunc 41 args).run Tryd.prog w = .ok (.enter 41 args) w := enters_of Tryd.func41 (by kernel_rfl) rfl
  have h := AnyQ.slices_SortFunc_total Tryd.sortL 2 isAgg39 sizeOf39 encD (fun _ => rfl) (fun x v hv => by simp [encD] at hv; rcases hv with rfl | rfl <;> rfl) cfD swoD 41 #[] blk off cap l.toArray w eg (cmpLays41 blk off _ w) hH hblk (by simpa using hsz) totD
  change Calls Tryd.prog 40 _ _ _ at h
  simpa [sortD] using h
end Go.Proofs.YtahgghbhpmpgfaaDoor.PX
/- (*diag.List).Add over a list that lies in one block (gen_list.py). -/
namespace Go.Proofs.YtahgghbhpmpgfaaDoor.PX
open Go.RowKit Go.Sort Go.Shelf Go.Lib Go.Proofs.YtahgghbhpmpgfaaDoorW.PrintWords Go.Proofs.YtahgghbhpmpgfaaDoorW.PrintLast Go.Proofs.YtahgghbhpmpgfaaDoorW.PrintMore
set_option linter.unusedVariables false
set_option linter.unusedSimpArgs false
/-- Block B holds a list of diagnostics whose row v is the call's own. -/
structure Ls (W : World) (base B : Nat) (v : Value) (l : List S39) : Prop where
  blk : W.heap[B]? = some (.cells #[v] 37 (0, 0))
  row : Kd.R k39 39 W base (fun k => base ≤ k) v l
set_option maxHeartbeats 8000000 in
set_option maxRecDepth 100000 in
theorem add_calls (base B : Nat) (hB : base ≤ B) (p : Int) (t : ByteArray) (v : Value) (l : List S39) (W : World) (h : Ls W base B v l) (hbase : base ≤ W.heap.size) (hl : l.length ≤ 100000) (k : Nat) (r : Bool) (hk : api_Diagnostic_38.f k l p t = some r) :
    Calls Tryd.prog 23 #[.pointer (some ⟨B, 0, none⟩), .int .i64 p, .string t] W fun e W' => e = .returned (.tuple #[]) ∧
      ∃ v', Ls W' base B v' (if r = true then l else l ++ [⟨p, t⟩]) ∧ Below base W W' ∧ KeepBut W W' B v.ownBlock ∧ (v'.ownBlock = v.ownBlock ∨ ∃ b, v'.ownBlock = some b ∧ W.heap.size ≤ b) := by
  have HB := Aside0.mk hB
  have HBLK := Aside0.mk h.blk
  have HROW := Aside0.mk h.row
  have HBASE := Aside0.mk hbase
  have HL := Aside0.mk hl
  have HK := Aside0.mk hk
  have LT : Aside0 (B < W.heap.size) := ⟨blk_lt h.blk⟩
  obtain ⟨A, c, rfl⟩ := Kd.R_slice h.row
  clear h hB hbase hl hk
  go_enter Tryd.func23, Tryd.ntmps23
  go_wp2
  have hw : (W.alloc (.cells #[.int .i64 p, .string t] 39)).heap[W.heap.size]? = some (.cells #[.int .i64 p, .string t] 39 (0, 0)) := blk_new W _
  have BKD := Aside0.mk (blk_drew hw)
  have BKB := Aside0.mk (blk_drew (blk_alloc HBLK.out (.cells #[.int .i64 p, .string t] 39)))
  have ROW := Aside0.mk (Kd.R_drew (Kd.R_alloc HROW.out (.cells #[.int .i64 p, .string t] 39)))
  have HD := Aside0.mk (below_drew1 (below_alloc (Below.refl W.heap.size W) (.cells #[.int .i64 p, .string t] 39)))
  clear hw
  refine start_ (n := 7) (S := (fun w' => w'.cell? ⟨B, 0, none⟩ = some (.slice A l.length c) ∧ w'.cell? ⟨W.heap.size, 0, none⟩ = some (.int .i64 p) ∧ w'.cell? ⟨W.heap.size, 1, none⟩ = some (.string t))) (ds := []) #[false, false, false, false, false, false, false] (by kernel_rfl) rfl rfl ⟨(blk_cell BKB.out 0).trans rfl, (blk_cell BKD.out 0).trans rfl, (blk_cell BKD.out 1).trans rfl⟩ (fun hHeld => ?_)
  generalize (W.alloc (.cells #[.int .i64 p, .string t] 39)).drew = w1 at BKD BKB ROW HD hHeld ⊢
  refine pure_ (i := 0) (N := some 10) (v := ?_) (a' := ?_) #[true, false, false, false, false, false, false] rfl rfl (by kernel_rfl) (fun _ _ _ h => h) (Or.inl ⟨by rfl, ?_⟩) ?_ ?_
  rotate_left
  · intro w'
    go_simp
    with_reducible rfl
  rotate_left
  · simp only [Act.put, List.setIfInBounds_toArray, List.set_cons_zero, List.set_cons_succ, i64_w, i32_w]
    rfl
  refine pure_ (i := 1) (N := some 11) (v := ?_) (a' := ?_) #[true, true, false, false, false, false, false] rfl rfl (by kernel_rfl) (fun _ _ _ h => h) (Or.inl ⟨by rfl, ?_⟩) ?_ ?_
  rotate_left
  · intro w'
    go_simp
    with_reducible rfl
  rotate_left
  · simp only [Act.put, List.setIfInBounds_toArray, List.set_cons_zero, List.set_cons_succ, i64_w, i32_w]
    rfl
  refine pure_ (i := 2) (N := some 12) (v := ?_) (a' := ?_) #[true, true, true, false, false, false, false] rfl rfl (by kernel_rfl) (fun _ _ _ h => h) (Or.inl ⟨by rfl, ?_⟩) ?_ ?_
  rotate_left
  · intro w'
    go_simp
    with_reducible rfl
  rotate_left
  · simp only [Act.put, List.setIfInBounds_toArray, List.set_cons_zero, List.set_cons_succ, i64_w, i32_w]
    rfl
  refine take_ (i := 3) (N := some 13) (v := ?_) (a' := ?_) #[true, true, true, true, false, false, false] rfl rfl (by kernel_rfl) (fun _ _ _ h => h) (Or.inl ⟨by rfl, ?_⟩) hHeld ?_ ?_
  rotate_left
  · rintro w' ⟨s0, s1, s2⟩
    go_simp
    with_reducible rfl
  rotate_left
  · simp only [Act.put, List.setIfInBounds_toArray, List.set_cons_zero, List.set_cons_succ, i64_w, i32_w]
    rfl
  refine take_ (i := 4) (N := some 14) (v := ?_) (a' := ?_) #[true, true, true, true, true, false, false] rfl rfl (by kernel_rfl) (fun _ _ _ h => h) (Or.inl ⟨by rfl, ?_⟩) hHeld ?_ ?_
  rotate_left
  · rintro w' ⟨s0, s1, s2⟩
    go_simp
    with_reducible rfl
  rotate_left
  · simp only [Act.put, List.setIfInBounds_toArray, List.set_cons_zero, List.set_cons_succ, i64_w, i32_w]
    rfl
  refine one_ (i := 5) (N := some 15) #[true, true, true, true, true, true, false] rfl rfl (by kernel_rfl) (by decide) (fun K hK => ?_)
  refine goes_ Tryd.func38 (by kernel_rfl) rfl #[.slice A l.length c, .agg #[.int .i64 p, .string t]] (by rfl) rfl rfl (by (try simp only [List.map_toArray, List.map_cons, List.map_nil]); first | done | rfl | (simp only [List.length_drop, List.length_take]; rfl)) ?_
  with_reducible refine (api_Diagnostic_38.calls k _ _ l p t r _ (Kd.R_reads' ROW.out).2.2 (Kd.R_reads' ROW.out).2.1 HK.out).mono ?_
  rintro e w2 ⟨rfl, hb2⟩
  refine ⟨_, rfl, ?_⟩
  have n1_ := Aside0.mk (blk_below BKD.out hb2)
  have n2_ := Aside0.mk (blk_below BKB.out hb2)
  have n3_ := Aside0.mk (Kd.R_below ROW.out hb2)
  have n4_ := Aside0.mk (below_step HD.out hb2)
  clear BKD BKB ROW HD hb2
  have BKD := n1_
  have BKB := n2_
  have ROW := n3_
  have HD := n4_
  clear n1_ n2_ n3_ n4_
  refine hK.out _ _ ⟨(blk_cell BKB.out 0).trans rfl, (blk_cell BKD.out 0).trans rfl, (blk_cell BKD.out 1).trans rfl⟩ (fun hHeld => ?_)
  clear hK K
  refine norm_ (a' := ?_) ?_ ?_
  rotate_left
  · show Act.put _ (some 15) _ = _
    simp only [Act.put, List.setIfInBounds_toArray, List.set_cons_zero, List.set_cons_succ, i64_w, i32_w]
    rfl
  refine pure_ (i := 6) (N := some 16) (v := ?_) (a' := ?_) #[true, true, true, true, true, true, true] rfl rfl (by kernel_rfl) (fun _ _ _ h => h) (Or.inl ⟨by rfl, ?_⟩) ?_ ?_
  rotate_left
  · intro w'
    go_simp
    with_reducible rfl
  rotate_left
  · simp only [Act.put, List.setIfInBounds_toArray, List.set_cons_zero, List.set_cons_succ, i64_w, i32_w]
    rfl
  refine done_ (by kernel_rfl) ?_
  cases r
  · go_wp2
    have n1_ := Aside0.mk (blk_drew BKD.out)
    have n2_ := Aside0.mk (blk_drew BKB.out)
    have n3_ := Aside0.mk (Kd.R_drew ROW.out)
    have n4_ := Aside0.mk (below_drew1 HD.out)
    clear BKD BKB ROW HD
    have BKD := n1_
    have BKB := n2_
    have ROW := n3_
    have HD := n4_
    clear n1_ n2_ n3_ n4_
    refine start_ (n := 11) (S := (fun w' => w'.cell? ⟨B, 0, none⟩ = some (.slice A l.length c) ∧ w'.cell? ⟨W.heap.size, 0, none⟩ = some (.int .i64 p) ∧ w'.cell? ⟨W.heap.size, 1, none⟩ = some (.string t))) (ds := [10]) #[false, false, false, false, false, false, false, false, false, false, false] (by kernel_rfl) rfl rfl ⟨(blk_cell BKB.out 0).trans rfl, (blk_cell BKD.out 0).trans rfl, (blk_cell BKD.out 1).trans rfl⟩ (fun hHeld => ?_)
    generalize w2.drew = w3 at BKD BKB ROW HD hHeld ⊢
    refine pure_ (i := 0) (N := some 17) (v := ?_) (a' := ?_) #[true, false, false, false, false, false, false, false, false, false, false] rfl rfl (by kernel_rfl) (fun _ _ _ h => h) (Or.inl ⟨by rfl, ?_⟩) ?_ ?_
    rotate_left
    · intro w'
      go_simp
      with_reducible rfl
    rotate_left
    · simp only [Act.put, List.setIfInBounds_toArray, List.set_cons_zero, List.set_cons_succ, i64_w, i32_w]
      rfl
    refine pure_ (i := 1) (N := some 18) (v := ?_) (a' := ?_) #[true, true, false, false, false, false, false, false, false, false, false] rfl rfl (by kernel_rfl) (fun _ _ _ h => h) (Or.inl ⟨by rfl, ?_⟩) ?_ ?_
    rotate_left
    · intro w'
      go_simp
      with_reducible rfl
    rotate_left
    · simp only [Act.put, List.setIfInBounds_toArray, List.set_cons_zero, List.set_cons_succ, i64_w, i32_w]
      rfl
    refine pure_ (i := 2) (N := some 19) (v := ?_) (a' := ?_) #[true, true, true, false, false, false, false, false, false, false, false] rfl rfl (by kernel_rfl) (fun _ _ _ h => h) (Or.inl ⟨by rfl, ?_⟩) ?_ ?_
    rotate_left
    · intro w'
      go_simp
      with_reducible rfl
    rotate_left
    · simp only [Act.put, List.setIfInBounds_toArray, List.set_cons_zero, List.set_cons_succ, i64_w, i32_w]
      rfl
    refine pure_ (i := 3) (N := some 20) (v := ?_) (a' := ?_) #[true, true, true, true, false, false, false, false, false, false, false] rfl rfl (by kernel_rfl) (fun _ _ _ h => h) (Or.inl ⟨by rfl, ?_⟩) ?_ ?_
    rotate_left
    · intro w'
      go_simp
      with_reducible rfl
    rotate_left
    · simp only [Act.put, List.setIfInBounds_toArray, List.set_cons_zero, List.set_cons_succ, i64_w, i32_w]
      rfl
    refine take_ (i := 4) (N := some 21) (v := ?_) (a' := ?_) #[true, true, true, true, true, false, false, false, false, false, false] rfl rfl (by kernel_rfl) (fun _ _ _ h => h) (Or.inl ⟨by rfl, ?_⟩) hHeld ?_ ?_
    rotate_left
    · rintro w' ⟨s0, s1, s2⟩
      go_simp
      with_reducible rfl
    rotate_left
    · simp only [Act.put, List.setIfInBounds_toArray, List.set_cons_zero, List.set_cons_succ, i64_w, i32_w]
      rfl
    refine take_ (i := 5) (N := some 22) (v := ?_) (a' := ?_) #[true, true, true, true, true, true, false, false, false, false, false] rfl rfl (by kernel_rfl) (fun _ _ _ h => h) (Or.inl ⟨by rfl, ?_⟩) hHeld ?_ ?_
    rotate_left
    · rintro w' ⟨s0, s1, s2⟩
      go_simp
      with_reducible rfl
    rotate_left
    · simp only [Act.put, List.setIfInBounds_toArray, List.set_cons_zero, List.set_cons_succ, i64_w, i32_w]
      rfl
    refine one_ (i := 6) (N := some 23) #[true, true, true, true, true, true, true, false, false, false, false] rfl rfl (by kernel_rfl) (by decide) (fun K hK => ?_)
    refine event_step (w1 := w3.alloc (.cells #[.int .i64 p, .string t] 39)) (v := .slice (some ⟨w3.heap.size, 0, none⟩) 1 1) (by rfl) (by first | (go_simp; done) | (go_simp; rfl)) ?_
    have n1_ := Aside0.mk (blk_alloc BKD.out (.cells #[.int .i64 p, .string t] 39))
    have n2_ := Aside0.mk (blk_alloc BKB.out (.cells #[.int .i64 p, .string t] 39))
    clear hHeld
    refine hK.out _ _ ⟨(blk_cell n2_.out 0).trans rfl, (blk_cell n1_.out 0).trans rfl, (blk_cell n1_.out 1).trans rfl⟩ (fun hHeld => ?_)
    clear hK K
    refine norm_ (a' := ?_) ?_ ?_
    rotate_left
    · show Act.put _ (some 23) _ = _
      simp only [Act.put, List.setIfInBounds_toArray, List.set_cons_zero, List.set_cons_succ, i64_w, i32_w]
      rfl
    refine one_ (i := 7) (N := some 24) #[true, true, true, true, true, true, true, true, false, false, false] rfl rfl (by kernel_rfl) (by decide) (fun K hK => ?_)
    have hsz := below_size HD.out
    refine Kd.R_append_step k39 (w0 := w3) base ?hw (.tmp 21) (.tmp 23) 27 39 (.agg #[.int .i64 0, .string ⟨#[]⟩]) 24 rfl Tryd.underlying27 info39 rfl (by decide) (by decide) (.slice A l.length c) l ⟨p, t⟩ [.int .i64 p, .string t] (fun k_ => base ≤ k_) (fun _ => False) rfl rfl (k39_mkM _ _ _ _) (fun _ hk => hk.elim) (fun k_ hk => Nat.le_trans (Nat.le_trans HBASE.out hsz) hk) ROW.out (Below.refl _ _) (Nat.le_trans HBASE.out hsz) ?hl ?_
    case hw => rfl
    case hl => have := HL.out; omega
    intro v1 w4 ho1 hb1 hg1 hat1
    have DNE : some W.heap.size ≠ (Value.slice A l.length c).ownBlock := fun e => by have := Kd.R_lt HROW.out W.heap.size e.symm; omega
    have n1_ : Aside0 (w4.heap[W.heap.size]? = some (.cells #[.int .i64 p, .string t] 39 (0, 0))) := ⟨blk_grown BKD.out hg1 DNE⟩
    have n2_ : Aside0 (w4.heap[B]? = some (.cells #[.slice A l.length c] 37 (0, 0))) := ⟨blk_grown BKB.out hg1 (Kd.R_ne ROW.out BKB.out (by decide))⟩
    obtain ⟨A1, c1, e1_⟩ := Kd.R_slice ho1
    subst e1_
    have ROW1 := Aside0.mk ho1
    have HB1 := Aside0.mk hb1
    have HG1 := Aside0.mk hg1
    have HAT := Aside0.mk hat1
    clear ho1 hb1 hg1 hat1 hHeld
    refine hK.out _ _ ⟨(blk_cell n2_.out 0).trans rfl, (blk_cell n1_.out 0).trans rfl, (blk_cell n1_.out 1).trans rfl⟩ (fun hHeld => ?_)
    clear hK K
    refine norm_ (a' := ?_) ?_ ?_
    rotate_left
    · show Act.put _ (some 24) _ = _
      simp only [Act.put, List.setIfInBounds_toArray, List.set_cons_zero, List.set_cons_succ, i64_w, i32_w]
      rfl
    refine pure_ (i := 8) (N := some 25) (v := ?_) (a' := ?_) #[true, true, true, true, true, true, true, true, true, false, false] rfl rfl (by kernel_rfl) (fun _ _ _ h => h) (Or.inl ⟨by rfl, ?_⟩) ?_ ?_
    rotate_left
    · intro w'
      go_simp
      with_reducible rfl
    rotate_left
    · simp only [Act.put, List.setIfInBounds_toArray, List.set_cons_zero, List.set_cons_succ, i64_w, i32_w]
      rfl
    refine pure_ (i := 9) (N := some 26) (v := ?_) (a' := ?_) #[true, true, true, true, true, true, true, true, true, true, false] rfl rfl (by kernel_rfl) (fun _ _ _ h => h) (Or.inl ⟨by rfl, ?_⟩) ?_ ?_
    rotate_left
    · intro w'
      go_simp
      with_reducible rfl
    rotate_left
    · simp only [Act.put, List.setIfInBounds_toArray, List.set_cons_zero, List.set_cons_succ, i64_w, i32_w]
      rfl
    have d0 : w4.cell? ⟨B, 0, none⟩ = some (.slice A l.length c) := (blk_cell n2_.out 0).trans rfl
    have f0 : w4.frozen? ⟨B, 0, none⟩ = false := blk_frozen n2_.out 0
    refine last_ (i := 10) (N := none) #[true, true, true, true, true, true, true, true, true, true, true] rfl rfl (by kernel_rfl) (by decide) (fun K hK => ?_)
    go_simp
    refine hK.out _ _ ?_
    clear hK K
    refine done_ (by kernel_rfl) ?_
    have e2_ : (l ++ [(⟨p, t⟩ : S39)]).length = l.length + 1 := by simp
    have r1_ := ROW1.out
    have at_ := HAT.out
    rw [e2_] at r1_ at_
    have hsz2 := below_size HD.out
    go_end0
    refine ⟨rfl, _, ⟨blk_set n2_.out 0 _, Kd.R_set r1_ n2_.out (by decide) 0 _⟩, ((HD.out.mono HBASE.out).trans HB1.out).setCell (p := ⟨B, 0, none⟩) HB.out _, ⟨?_, fun i hi hne hr => ?_⟩, ?_⟩
    · exact Nat.le_trans hsz2 (Nat.le_trans HB1.out.size (by simp))
    · exact (Below.heap_setCell w4 ⟨B, 0, none⟩ _ i hne).trans ((HG1.out.block i (Nat.lt_of_lt_of_le hi hsz2) hr).trans (HD.out.block i hi))
    · rcases at_ with h_ | ⟨b_, h_, h2_⟩
      · exact .inl h_
      · exact .inr ⟨b_, h_, by omega⟩
  · go_wp2
    go_end0
    exact ⟨rfl, _, ⟨BKB.out, ROW.out⟩, HD.out.mono HBASE.out, KeepBut.of_below HD.out _ _, .inl rfl⟩
end Go.Proofs.YtahgghbhpmpgfaaDoor.PX
/- (*diag.List).Err and All: the row copied and sorted. -/
namespace Go.Proofs.YtahgghbhpmpgfaaDoor.PX
open Go.RowKit Go.Sort Go.Shelf Go.Lib Go.Proofs.YtahgghbhpmpgfaaDoorW.PrintWords Go.Proofs.YtahgghbhpmpgfaaDoorW.PrintLast Go.Proofs.YtahgghbhpmpgfaaDoorW.PrintMore
set_option linter.unusedVariables false
set_option linter.unusedSimpArgs false
theorem holds_of_R {w : World} {base g n cap : Nat} {ok : Nat → Prop} {l : List S39} (h : Kd.R k39 39 w base ok (.slice (some ⟨g, 0, none⟩) n cap) l) : HoldsK encD 2 w g 0 l.toArray := by
  obtain ⟨h0, inner, ho, hr⟩ := h
  have hnl : n = l.length := by
    rcases ho.2 with ⟨h', _⟩ | ⟨g', cap', cur, h', _⟩
    · cases h'
    · injection h' with _ h2 _
  subst hnl
  intro j hj
  rw [size_flatK] at hj
  have hj2 : j < l.length * 2 := by simpa using hj
  rw [Nat.zero_add]
  refine ⟨?_, ho.frozenAt j⟩
  rw [ho.cellAt j hj2, get_flatK _ _ _ _ hj]
  have hq : j / 2 < l.length := by omega
  have hm := hr.2 (j / 2) _ (List.getElem?_eq_getElem hq)
  have hc := k39_openM hm
  have e1 : inner[j]? = ((inner.drop (j / 2 * 2)).take 2)[j % 2]? := by
    rw [List.getElem?_take, if_pos (by omega), List.getElem?_drop, show j / 2 * 2 + j % 2 = j by omega]
  have e3 : l.toArray[j / 2]! = l[j / 2] := by rw [getElem!_pos _ _ (by simpa using hq)]; simp
  have hc' : (inner.drop (j / 2 * 2)).take 2 = encD l[j / 2] := hc
  have e2 : j % 2 < (encD l[j / 2]).length := by show j % 2 < 2; omega
  rw [e1, hc', e3, getElem!_pos (encD l[j / 2]) (j % 2) e2, List.getElem?_eq_getElem e2]
  rfl
theorem C_of_holds {w : World} {g : Nat} {l : List S39} (hl : l.length ≤ 100000) (h : HoldsK encD 2 w g 0 l.toArray) : Kd.C k39 w (some ⟨g, 0, none⟩) l.length l := by
  refine ⟨rfl, by omega, fun _ => ⟨⟨g, 0, none⟩, rfl, fun j p hp => ⟨encD p, rfl, k39_mk _ _, fun i u hu => ?_⟩⟩⟩
  have hj := (List.getElem?_eq_some_iff.1 hp).1
  have hi : i < 2 := (List.getElem?_eq_some_iff.1 hu).1
  have e : l.toArray[j]! = p := by
    rw [getElem!_pos _ _ (by simpa using hj)]
    have := (List.getElem?_eq_some_iff.1 hp).2
    simpa using this
  have h2 := (h.cell (i := j) (c := i) (by simpa using hj) hi).1
  rw [e] at h2
  have e3 : (encD p)[i]! = u := by
    rw [getElem!_pos (encD p) i hi]
    exact (List.getElem?_eq_some_iff.1 hu).2
  rw [e3] at h2
  rw [Addr.add_lit, Nat.zero_add]
  rw [Nat.zero_add] at h2
  exact h2
set_option maxHeartbeats 2000000 in
set_option maxRecDepth 100000 in
theorem clone_calls (W : World) (A : Option Addr) (c : Nat) (l : List S39) (hC : Kd.C k39 W A l.length l) (hl : l.length ≤ 100000) :
    Calls Tryd.prog 39 #[.slice A l.length c] W fun e w' => ∃ v1, e = .returned v1 ∧ Kd.R k39 39 w' W.heap.size (fun k_ => W.heap.size ≤ k_) v1 l ∧ Below W.heap.size W w' := by
  cases A with
  | none =>
    have h0 : l = [] := by
      cases l with
      | nil => rfl
      | cons x r => obtain ⟨ad, e, _⟩ := hC.2.2 (by simp); cases e
    subst h0
    have he : ∀ W, (binOp .eql 27 (.slice none 0 c) (.slice none 0 0)).run Tryd.prog W = .ok (.bool true) W := fun W => Lib.run_eql_slice_nil W 27 39 none 0 c 0 0 Tryd.underlying27
    go_enter Tryd.func39, Tryd.ntmps39
    go_wp2
    go_ret
    exact ⟨_, rfl, Kd.R_nil _ _ _ _ _, by repeat (first | exact Below.refl _ _ | apply below_drew1 | apply pw_below_drewN)⟩
  | some ad =>
    have HC := Aside0.mk hC
    have HL := Aside0.mk hl
    clear hC hl
    have he : ∀ W, (binOp .eql 27 (.slice (some ad) l.length c) (.slice none 0 0)).run Tryd.prog W = .ok (.bool false) W := fun W => Lib.run_eql_slice_nil W 27 39 (some ad) _ c 0 0 Tryd.underlying27
    go_enter Tryd.func39, Tryd.ntmps39
    go_wp2_with (first | ((with_reducible refine gate_dst (N := 5) rfl ?_); refine Kd.R_lit k39 W.heap.size 39 ?hg (N := 5) ?hd (xs := ([] : List S39)) (inner := []) (ok := fun k_ => W.heap.size ≤ k_) (okp := fun _ => False) ?hr ?hp (fun _ hk => hk.elim) (Nat.le_refl _) (Below.refl _ _) (Nat.le_refl _) (by simp) ?_; (case hd => rfl); (case hg => rfl); (case hr => first | (go_simp; done) | (go_simp; rfl)); (case hp => exact (Reps.none _ _)); intro v1 w1 ho hb hg_ hnew_; have HO := Aside0.mk ho; have HB := Aside0.mk hb; clear ho hb hg_ hnew_; obtain ⟨A5, c5, e5⟩ := Kd.R_slice HO.out; subst e5; have hC1 := Kd.C_below HC.out HB.out; have hsz := below_size HB.out; try simp only [List.length_nil] at HO) | ((with_reducible refine gate_builtin (b := .append) (xs := #[.tmp 5, .tmp 6]) rfl ?_); at_builtin; refine Kd.R_append_rows k39 (Rr := k39.K w1) (w0 := w1) W.heap.size rfl (.tmp 5) (.tmp 6) 27 39 (.agg #[.int .i64 0, .string ⟨#[]⟩]) 24 rfl Tryd.underlying27 info39 rfl (by decide) (by decide) (.slice A5 0 c5) [] l (some ad) l.length c (fun k_ => W.heap.size ≤ k_) (fun _ => False) rfl rfl HO.out hC1 (fun x cs hx => by rw [k39_open hx]; exact k39_mkM _ _ _ x) (fun _ hk => hk.elim) (fun k_ hk => Nat.le_trans hsz hk) (Below.refl _ _) hsz (by have := HL.out; simp; omega) ?_; intro v2 w2 ho2 hb2 hg2 hat2; rw [List.nil_append] at ho2))
    go_ret
    exact ⟨_, rfl, ho2, HB.out.trans hb2⟩
theorem sortD_length (l : List S39) : (sortD l).length = l.length := (List.mergeSort_perm l _).length_eq
theorem below_sort {base g m : Nat} {l : List S39} {os : Array Obj} (w : World) (hg : base ≤ g) (hs : base ≤ w.heap.size) : Below base w (sortWorldK encD 2 w g 0 m l.toArray os) := by
  refine ⟨rfl, rfl, rfl, size_sortWorldK_c encD 2 w g 0 m l.toArray os, fun k hk => ?_⟩
  have hne : g ≠ k := by omega
  unfold sortWorldK grow putRowK putRow mapBlock
  simp [Array.getElem?_append, ahead, hne]
  rw [if_pos (by omega), Array.getElem?_modify, if_neg hne]
theorem sortR {w : World} {base c : Nat} {ok : Nat → Prop} {A : Option Addr} {l : List S39} (h : Kd.R k39 39 w base ok (.slice A l.length c) l) (hl : l.length ≤ 100000) (hbase : base ≤ w.heap.size) :
    Calls Tryd.prog 40 #[.slice A l.length c, .func (.func 41) #[] #[]] w fun e w' => e = .returned (.tuple #[]) ∧ Kd.C k39 w' A l.length (sortD l) ∧ Below base w w' ∧
      ∀ ad, A = some ad → ∃ g, ad = ⟨g, 0, none⟩ ∧ base ≤ g ∧ HoldsK encD 2 w' g 0 (sortD l).toArray := by
  cases A with
  | none =>
    have hC := (Kd.R_reads' h).2.2
    have h0 : l = [] := by
      cases l with
      | nil => rfl
      | cons x r => obtain ⟨ad, e, _⟩ := hC.2.2 (by simp); cases e
    subst h0
    have hS := AnyF.slices_SortFunc_none (P := Tryd.prog) (ρ := Tryd.sortL_ren) { Tryd.sortL with } none c (.func (.func 41) #[] #[]) w
    change Calls Tryd.prog 40 _ _ _ at hS
    refine hS.mono ?_
    rintro e w' ⟨rfl, rfl⟩
    exact ⟨rfl, by simpa [sortD] using hC, Below.refl _ _, fun ad h => by cases h⟩
  | some ad =>
    obtain ⟨g, rfl⟩ := Kd.R_head h
    have hH := holds_of_R h
    have hlt : g < w.heap.size := Kd.R_lt h g rfl
    have hge : base ≤ g := Kd.R_base h g rfl
    refine (sort_calls g 0 c l w hH hlt (by omega)).mono ?_
    rintro e w' ⟨rfl, m, os, rfl⟩
    have hH2 := holdsK_sortWorldK encD 2 w g 0 m l.toArray (sortD l).toArray os hlt hH (by simp [sortD_length])
    have hC := C_of_holds (by rw [sortD_length]; exact hl) hH2
    rw [sortD_length] at hC
    refine ⟨rfl, hC, below_sort w hge hbase, fun ad h => ?_⟩
    cases h
    exact ⟨g, rfl, hge, hH2⟩
set_option maxHeartbeats 2000000 in
set_option maxRecDepth 100000 in
theorem all_calls (base B : Nat) (v : Value) (l : List S39) (W : World) (h : Ls W base B v l) (hl : l.length ≤ 100000) :
    Calls Tryd.prog 25 #[.pointer (some ⟨B, 0, none⟩)] W fun e w' => ∃ A c, e = .returned (.slice A l.length c) ∧ l.length ≤ c ∧ Kd.C k39 w' A l.length (sortD l) ∧ Below W.heap.size W w' ∧
      ∀ ad, A = some ad → ∃ g, ad = ⟨g, 0, none⟩ ∧ W.heap.size ≤ g ∧ HoldsK encD 2 w' g 0 (sortD l).toArray := by
  obtain ⟨A, c, rfl⟩ := Kd.R_slice h.row
  have k0 : W.cell? ⟨B, 0, none⟩ = some (.slice A l.length c) := (blk_cell h.blk 0).trans rfl
  have hC := (Kd.R_reads' h.row).2.2
  have HC := Aside0.mk hC
  have HL := Aside0.mk hl
  clear h hC hl
  go_enter Tryd.func25, Tryd.ntmps25
  go_wp2_with (first
    | (go_at_call 39; refine (clone_calls W A c l HC.out HL.out).mono ?_; rintro e w1 ⟨v1, rfl, ho, hb⟩; obtain ⟨A1, c1, e1⟩ := Kd.R_slice ho; subst e1; have HO := Aside0.mk ho; have HB := Aside0.mk hb; clear ho hb)
    | (go_at_call 40; refine (sortR HO.out HL.out (below_size HB.out)).mono ?_; rintro e w2 ⟨rfl, hC2, hb2, hg2⟩; have HC2 := Aside0.mk hC2; have HB2 := Aside0.mk hb2; have HG2 := Aside0.mk hg2; clear hC2 hb2 hg2))
  go_ret
  exact ⟨_, _, rfl, (Kd.R_reads' HO.out).2.1, HC2.out, HB.out.trans HB2.out, HG2.out⟩
end Go.Proofs.YtahgghbhpmpgfaaDoor.PX
/- DiagList, walked by hand. -/
namespace Go.Proofs.YtahgghbhpmpgfaaDoor.PX
open Go.RowKit Go.Sort Go.Shelf Go.Lib Go.Proofs.YtahgghbhpmpgfaaDoorW.PrintWords Go.Proofs.YtahgghbhpmpgfaaDoorW.PrintLast Go.Proofs.YtahgghbhpmpgfaaDoorW.PrintMore
set_option linter.unusedVariables false
set_option linter.unusedSimpArgs false
theorem Ls.below {W W' : World} {base B : Nat} {v : Value} {l : List S39} (h : Ls W base B v l) (hb : Below W.heap.size W W') : Ls W' base B v l := ⟨blk_below h.blk hb, Kd.R_below h.row hb⟩
theorem intOf_i (n : Int) : intOf (.int .i64 n) = n := rfl
theorem meas1 (i n : Nat) (h : i < n) : n - (((i + 1 : Nat) : Int)).toNat < n - ((i : Int)).toNat := by
  rw [Int.toNat_natCast, Int.toNat_natCast]
  omega
theorem meas2 (i n : Nat) (x : Int) (h : i < n) (hw : x = ((i + 1 : Nat) : Int)) : n - (intOf (.int .i64 x)).toNat < n - (intOf (.int .i64 (i : Int))).toNat := by
  rw [intOf_i, intOf_i, hw]
  exact meas1 i n h
end Go.Proofs.YtahgghbhpmpgfaaDoor.PX
/- Lists of diagnostics in plain words: adding without repeats, inserting in order, sorting. -/
namespace Go.Proofs.YtahgghbhpmpgfaaDoor.PX
open Go.RowKit Go.Sort Go.Proofs.YtahgghbhpmpgfaaDoorW.PrintWords Go.Proofs.YtahgghbhpmpgfaaDoorW.PrintLast Go.Proofs.YtahgghbhpmpgfaaDoorW.PrintMore
set_option linter.unusedVariables false
theorem S39_ext {x y : S39} (h0 : x.f0 = y.f0) (h1 : x.f1.toList = y.f1.toList) : x = y := by
  have h2 := toList_inj h1
  cases x; cases y
  simp at h0 h2
  rw [h0, h2]
theorem eqS (x y : S39) : ((x.f0 == y.f0 && (x.f1.toList == y.f1.toList)) = true) ↔ x = y := by
  rw [Bool.and_eq_true, beq_iff_eq, beq_iff_eq]
  exact ⟨fun h => S39_ext h.1 h.2, fun h => by rw [h]; exact ⟨rfl, rfl⟩⟩
instance : DecidableEq S39 := fun x y => decidable_of_iff _ (eqS x y)
theorem rd39 (l : List S39) (j : Nat) (h : j < l.length) : rd_T39 l (j : Int) = l[j] := by
  unfold rd_T39
  rw [Int.toNat_natCast, List.getD_eq_getElem?_getD, List.getElem?_eq_getElem h, Option.getD_some]
theorem idx_loop (l : List S39) (x : S39) (hn : l.length ≤ 100000) : ∀ d j, j + d = l.length → ∃ r : Int, Ev (fun k => api_Diagnostic_54.l0 k l (l.length : Int) (j : Int) x.f0 x.f1) r ∧ (0 ≤ r ↔ x ∈ l.drop j)
  | 0, j, h => by
    refine ⟨-1, Ev.step (fun k => by rw [api_Diagnostic_54.l0]) (Ev.neg (by omega) (Ev.now _)), ?_⟩
    rw [List.drop_eq_nil_of_le (by omega)]
    simp
  | d + 1, j, h => by
    have hj : j < l.length := by omega
    by_cases he : x = l[j]
    · refine ⟨(j : Int), ?_, ?_⟩
      · refine Ev.step (fun k => by rw [api_Diagnostic_54.l0]) (Ev.pos (by omega) (Ev.pos (by omega) (Ev.pos (by omega) ?_)))
        rw [rd39 l j hj]
        exact Ev.pos ((eqS x l[j]).2 he) (Ev.now _)
      · rw [drop_cons _ _ hj, ← he]
        simp
    · obtain ⟨r, r1, r2⟩ := idx_loop l x hn d (j + 1) (by omega)
      refine ⟨r, ?_, ?_⟩
      · refine Ev.step (fun k => by rw [api_Diagnostic_54.l0]) (Ev.pos (by omega) (Ev.pos (by omega) (Ev.pos (by omega) ?_)))
        rw [rd39 l j hj]
        refine Ev.neg (fun h => he ((eqS x l[j]).1 h)) ?_
        rw [wrap_nat hj (by omega)]
        exact r1
      · rw [r2, drop_cons _ _ hj, List.mem_cons]
        exact ⟨Or.inr, fun h => h.resolve_left he⟩
theorem contains_ev (l : List S39) (x : S39) (hn : l.length ≤ 100000) : Ev (fun k => api_Diagnostic_38.f k l x.f0 x.f1) (decide (x ∈ l)) := by
  obtain ⟨r, r1, r2⟩ := idx_loop l x hn l.length 0 (by omega)
  rw [List.drop_zero] at r2
  refine Ev.congr (f := fun k => (api_Diagnostic_54.l0 k l (l.length : Int) ((0 : Nat) : Int) x.f0 x.f1).bind fun t => some (decide (t ≥ 0))) (fun k => by rw [api_Diagnostic_38.f, api_Diagnostic_54.f]; rfl) (Ev.bind r1 (Ev.cast (Ev.now _) ?_))
  exact decide_eq_decide.2 r2
theorem before_eq (x y : S39) : trickleref14_before.f x.f0 x.f1 y.f0 y.f1 = some (decide (ltD x y)) := by
  unfold trickleref14_before.f
  by_cases h1 : x.f0 < y.f0
  · rw [if_pos h1, decide_eq_true (show ltD x y from Or.inl h1)]
  · rw [if_neg h1]
    by_cases h2 : x.f0 = y.f0
    · rw [if_pos h2]
      congr 1
      by_cases h3 : less x.f1.toList y.f1.toList = true
      · rw [decide_eq_true (show ltD x y from Or.inr ⟨h2, h3⟩)]; exact h3
      · rw [decide_eq_false (show ¬ ltD x y by rintro (h | ⟨_, h⟩); exact h1 h; exact h3 h)]
        simpa using h3
    · rw [if_neg h2, decide_eq_false (show ¬ ltD x y by rintro (h | ⟨h, _⟩); exact h1 h; exact h2 h)]
theorem ascD_eq : ∀ (a b : List S39), a.Pairwise ltD → b.Pairwise ltD → (∀ x, x ∈ a ↔ x ∈ b) → a = b
  | [], [], _, _, _ => rfl
  | [], y :: b, _, _, h => absurd ((h y).2 (by simp)) (by simp)
  | x :: a, [], _, _, h => absurd ((h x).1 (by simp)) (by simp)
  | x :: a, y :: b, ha, hb, h => by
    have ha' := List.pairwise_cons.1 ha
    have hb' := List.pairwise_cons.1 hb
    have hxy : x = y := by
      rcases List.mem_cons.1 ((h x).1 (by simp)) with h1 | h1
      · exact h1
      · rcases List.mem_cons.1 ((h y).2 (by simp)) with h2 | h2
        · exact h2.symm
        · exact absurd (ltD_trans (hb'.1 x h1) (ha'.1 y h2)) (ltD_irrefl y)
    subst hxy
    congr 1
    refine ascD_eq a b ha'.2 hb'.2 fun z => ⟨fun hz => ?_, fun hz => ?_⟩
    · rcases List.mem_cons.1 ((h z).1 (by simp [hz])) with h1 | h1
      · subst h1; exact absurd (ha'.1 z hz) (ltD_irrefl z)
      · exact h1
    · rcases List.mem_cons.1 ((h z).2 (by simp [hz])) with h1 | h1
      · subst h1; exact absurd (hb'.1 z hz) (ltD_irrefl z)
      · exact h1
/-- Behind the new element: what is left is put behind. -/
theorem put_loop (l : List S39) (x : S39) (hn : l.length ≤ 1000) : ∀ d j, j + d = l.length → ∀ o : List S39, o.length ≤ j + 1 → (∀ y ∈ l.drop j, y ≠ x) →
    Ev (fun k => trickleref14_Add.l0 k l o true l (l.length : Int) (j : Int) x.f0 x.f1) (o ++ l.drop j)
  | 0, j, h, o, ho, hx => by
    refine Ev.step (fun k => by rw [trickleref14_Add.l0]) (Ev.neg (by omega) (Ev.pos rfl (Ev.cast (Ev.now _) ?_)))
    rw [List.drop_eq_nil_of_le (by omega), List.append_nil]
  | d + 1, j, h, o, ho, hx => by
    have hj : j < l.length := by omega
    rw [drop_cons _ _ hj] at hx ⊢
    refine Ev.step (fun k => by rw [trickleref14_Add.l0]) (Ev.pos (by omega) (Ev.pos (by omega) (Ev.pos (by omega) ?_)))
    rw [rd39 l j hj]
    refine Ev.neg (fun h => hx l[j] List.mem_cons_self ((eqS l[j] x).1 h)) (Ev.pos rfl (Ev.pos (by omega) ?_))
    rw [wrap_nat hj (by omega)]
    refine Ev.cast (put_loop l x hn d (j + 1) (by omega) (o ++ [l[j]]) (by rw [List.length_append, List.length_singleton]; omega) (fun y hy => hx y (List.mem_cons_of_mem _ hy))) ?_
    rw [List.append_assoc, List.singleton_append]
theorem add_loop (l : List S39) (x : S39) (hn : l.length ≤ 1000) (ha : l.Pairwise ltD) : ∀ d j, j + d = l.length → (∀ y ∈ l.take j, ltD y x) →
    ∃ r, Ev (fun k => trickleref14_Add.l0 k l (l.take j) false l (l.length : Int) (j : Int) x.f0 x.f1) r ∧ r.Pairwise ltD ∧ ∀ y, y ∈ r ↔ (y ∈ l ∨ y = x)
  | 0, j, h, hp => by
    have ht : l.take j = l := List.take_of_length_le (by omega)
    rw [ht] at hp
    refine ⟨l ++ [x], ?_, ?_, fun y => by rw [List.mem_append, List.mem_singleton]⟩
    · refine Ev.step (fun k => by rw [trickleref14_Add.l0]) (Ev.neg (by omega) (Ev.neg (by decide) (Ev.pos (by rw [List.length_take]; omega) (Ev.cast (Ev.now _) ?_))))
      rw [ht]
    · rw [List.pairwise_append]
      exact ⟨ha, List.pairwise_singleton _ _, fun a h1 b h2 => by rw [List.mem_singleton.1 h2]; exact hp a h1⟩
  | d + 1, j, h, hp => by
    have hj : j < l.length := by omega
    have hpd : (l[j] :: l.drop (j + 1)).Pairwise ltD := by rw [← drop_cons _ _ hj]; exact ha.sublist (List.drop_sublist _ _)
    have hpd' := List.pairwise_cons.1 hpd
    by_cases he : l[j] = x
    · refine ⟨l, ?_, ha, fun y => ⟨Or.inl, fun h => h.elim id (fun e => by rw [e, ← he]; exact List.getElem_mem hj)⟩⟩
      refine Ev.step (fun k => by rw [trickleref14_Add.l0]) (Ev.pos (by omega) (Ev.pos (by omega) (Ev.pos (by omega) ?_)))
      rw [rd39 l j hj]
      exact Ev.pos ((eqS l[j] x).2 he) (Ev.now _)
    · by_cases hb : ltD x l[j]
      · have hlt : ∀ y ∈ l.drop j, ltD x y := by
          rw [drop_cons _ _ hj]
          intro y hy
          rcases List.mem_cons.1 hy with hy | hy
          · rw [hy]; exact hb
          · exact ltD_trans hb (hpd'.1 y hy)
        have hne : ∀ y ∈ l.drop (j + 1), y ≠ x := fun y hy e => by
          have := hlt y (by rw [drop_cons _ _ hj]; exact List.mem_cons_of_mem _ hy)
          rw [e] at this
          exact ltD_irrefl x this
        have hlen : (l.take j).length = j := by rw [List.length_take]; omega
        refine ⟨l.take j ++ [x] ++ l.drop j, ?_, ?_, fun y => ?_⟩
        · refine Ev.step (fun k => by rw [trickleref14_Add.l0]) (Ev.pos (by omega) (Ev.pos (by omega) (Ev.pos (by omega) ?_)))
          rw [rd39 l j hj]
          refine Ev.neg (fun h => he ((eqS l[j] x).1 h)) (Ev.neg (by decide) (Ev.const (before_eq x l[j]) (Ev.pos (decide_eq_true hb) ?_)))
          refine Ev.pos (by omega) (Ev.someb (Ev.pos (by rw [List.length_append, List.length_singleton]; omega) ?_))
          rw [wrap_nat hj (by omega)]
          refine Ev.cast (put_loop l x hn d (j + 1) (by omega) (l.take j ++ [x] ++ [l[j]]) (by simp only [List.length_append, List.length_singleton]; omega) hne) ?_
          rw [List.append_assoc _ [l[j]], List.singleton_append, ← drop_cons _ _ hj]
        · rw [List.append_assoc, List.pairwise_append]
          refine ⟨ha.sublist (List.take_sublist _ _), ?_, fun a h1 b h2 => ?_⟩
          · rw [List.singleton_append, List.pairwise_cons]
            exact ⟨hlt, ha.sublist (List.drop_sublist _ _)⟩
          · rw [List.singleton_append, List.mem_cons] at h2
            rcases h2 with h2 | h2
            · rw [h2]; exact hp a h1
            · exact ltD_trans (hp a h1) (hlt b h2)
        · have hx : y ∈ l ↔ y ∈ l.take j ∨ y ∈ l.drop j := by rw [← List.mem_append, List.take_append_drop]
          rw [hx, List.mem_append, List.mem_append, List.mem_singleton]
          constructor
          · rintro ((h | h) | h)
            · exact Or.inl (Or.inl h)
            · exact Or.inr h
            · exact Or.inl (Or.inr h)
          · rintro ((h | h) | h)
            · exact Or.inl (Or.inl h)
            · exact Or.inr h
            · exact Or.inl (Or.inr h)
      · have hyx : ltD l[j] x := by
          by_cases k : ltD l[j] x
          · exact k
          · exact absurd (ltD_total k hb) he
        obtain ⟨r, r1, r2⟩ := add_loop l x hn ha d (j + 1) (by omega) (fun y hy => by
          rw [take_snoc' _ _ hj, List.mem_append, List.mem_singleton] at hy
          rcases hy with hy | hy
          · exact hp y hy
          · rw [hy]; exact hyx)
        refine ⟨r, ?_, r2⟩
        refine Ev.step (fun k => by rw [trickleref14_Add.l0]) (Ev.pos (by omega) (Ev.pos (by omega) (Ev.pos (by omega) ?_)))
        rw [rd39 l j hj]
        refine Ev.neg (fun h => he ((eqS l[j] x).1 h)) (Ev.neg (by decide) (Ev.const (before_eq x l[j]) (Ev.neg (by rw [decide_eq_false hb]; decide) ?_)))
        refine Ev.pos (by rw [List.length_take]; omega) ?_
        rw [wrap_nat hj (by omega)]
        rw [take_snoc' _ _ hj] at r1
        exact r1
theorem radd_ev (l : List S39) (x : S39) (hn : l.length ≤ 1000) (ha : l.Pairwise ltD) : ∃ r, Ev (fun k => trickleref14_Add.f k l x.f0 x.f1) r ∧ r.Pairwise ltD ∧ ∀ y, y ∈ r ↔ (y ∈ l ∨ y = x) := by
  obtain ⟨r, r1, r2⟩ := add_loop l x hn ha l.length 0 (by omega) (fun y hy => by rw [List.take_zero] at hy; cases hy)
  exact ⟨r, Ev.congr (fun k => by rw [trickleref14_Add.f]; rfl) r1, r2⟩
theorem same_loop (a b : List S39) (hl : a.length = b.length) (hn : a.length ≤ 100000) (he : a = b) : ∀ d j, j + d = a.length → Ev (fun k => trickleref14_Same.l0 k a b (a.length : Int) (j : Int)) true
  | 0, j, h => Ev.step (fun k => by rw [trickleref14_Same.l0]) (Ev.neg (by omega) (Ev.now _))
  | d + 1, j, h => by
    subst he
    have hj : j < a.length := by omega
    refine Ev.step (fun k => by rw [trickleref14_Same.l0]) (Ev.pos (by omega) (Ev.pos (by omega) (Ev.pos (by omega) (Ev.pos (by omega) ?_))))
    rw [rd39 a j hj]
    refine Ev.neg (by simp) ?_
    rw [wrap_nat hj (by omega)]
    exact same_loop a a rfl hn rfl d (j + 1) (by omega)
theorem same_ev (a : List S39) (hn : a.length ≤ 100000) : Ev (fun k => trickleref14_Same.f k a a) true := by
  refine Ev.congr (fun k => by rw [trickleref14_Same.f]) (Ev.pos rfl ?_)
  exact same_loop a a rfl hn rfl a.length 0 (by omega)
theorem sortD_mem (l : List S39) (x : S39) : x ∈ sortD l ↔ x ∈ l := (List.mergeSort_perm l _).mem_iff
theorem sortD_asc (l : List S39) (h : l.Nodup) : (sortD l).Pairwise ltD := by
  have hp : (sortD l).Pairwise (fun x y => (!(ltOf cfD) y x) = true) := by
    refine List.pairwise_mergeSort (fun a b c h1 h2 => ?_) (fun a b => ?_) l
    · rw [ltOf_D] at *
      simp only [Bool.not_eq_true', decide_eq_false_iff_not] at *
      intro h3
      by_cases h4 : ltD c b
      · exact h2 h4
      · by_cases h5 : ltD b c
        · exact h1 (ltD_trans h5 h3)
        · rw [ltD_total h5 h4] at h1; exact h1 h3
    · rw [ltOf_D, ltOf_D]
      by_cases h1 : ltD b a
      · have h2 : ¬ ltD a b := fun h2 => ltD_irrefl a (ltD_trans h2 h1)
        simp [h1, h2]
      · simp [h1]
  have hd : (sortD l).Nodup := (List.mergeSort_perm l _).nodup_iff.2 h
  refine (List.pairwise_and_iff.2 ⟨hp, hd⟩).imp ?_
  rintro a b ⟨h1, h2⟩
  rw [ltOf_D] at h1
  simp only [Bool.not_eq_true', decide_eq_false_iff_not] at h1
  by_cases h3 : ltD a b
  · exact h3
  · exact absurd (ltD_total h3 h1) h2
end Go.Proofs.YtahgghbhpmpgfaaDoor.PX
/- DiagList in the form of the printed laws, where it returns true. -/
namespace Go.Proofs.YtahgghbhpmpgfaaDoor.PX
open Go.RowKit Go.Sort Go.Shelf Go.Lib Go.Proofs.YtahgghbhpmpgfaaDoorW.PrintWords Go.Proofs.YtahgghbhpmpgfaaDoorW.PrintLast Go.Proofs.YtahgghbhpmpgfaaDoorW.PrintMore
set_option linter.unusedVariables false
/-- What makes the walk return true. -/
def ListOk (k : Nat) (l0 : List S39) : Prop :=
  tricklelaw14_examples.f k = some true ∧ (trickleref14_Great.f k l0 = some true ∨ (trickleref14_Great.f k l0 = some false ∧ l0.length ≤ 40 ∧ ∃ (Wt D : Nat → List S39) (r : Nat → Bool), Wt 0 = [] ∧ D 0 = [] ∧
    (∀ i (h : i < l0.length), trickleref14_Add.f k (Wt i) l0[i].f0 l0[i].f1 = some (Wt (i + 1))) ∧ (∀ i (h : i < l0.length), api_Diagnostic_38.f k (D i) l0[i].f0 l0[i].f1 = some (r i)) ∧
    (∀ i (h : i < l0.length), D (i + 1) = if r i = true then D i else D i ++ [l0[i]]) ∧ (∀ i, i ≤ l0.length → (D i).length ≤ 100000 ∧ (0 < i ↔ 0 < (D i).length)) ∧ trickleref14_Same.f k (sortD (D l0.length)) (Wt l0.length) = some true))
open Classical in
noncomputable def tricklelaw14_DiagList.f (k : Nat) (l0 : List S39) : Option Bool := if ListOk k l0 then some true else none
end Go.Proofs.YtahgghbhpmpgfaaDoor.PX
