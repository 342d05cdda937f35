/- The reference's allowed: what it computes, and that the call computes it. -/
import Derived.Test.YtakkifbcaedcoaaDoorPXx8
import Derived.Test.YtakkifbcaedcoaaDoorPXx4
import Derived.Test.YtakkifbcaedcoaaDoorEv
namespace Go.Proofs.YtakkifbcaedcoaaDoor.PX
open Go.RowKit Go.Proofs.YtakkifbcaedcoaaDoorW.PrintWords Go.Proofs.YtakkifbcaedcoaaDoorW.PrintLast Go.Proofs.YtakkifbcaedcoaaDoorW.PrintMore
set_option linter.unusedVariables false
set_option linter.unusedSimpArgs false
theorem rd55_nat (xs : List S55) (j : Nat) (h : j < xs.length) : rd_T55 xs (j : Int) = xs[j] := getD_nat xs z55 j h
def stStep (s : Bool × Int) (e : S55) : Bool × Int := (if e.f0 = 1 then true else if e.f0 = 2 then false else s.1, if e.f0 = 3 then e.f2 else if e.f0 = 6 ∨ e.f0 = 9 then -1 else s.2)
def stF (l : List S55) : Bool × Int := l.foldl stStep (false, -1)
theorem state_loop (l : List S55) (hn : l.length ≤ 9223372036854775807) : ∀ (d j : Nat) (s : Bool × Int), j + d = l.length → Ev (fun k => trickleref55_state.l0 k l s.1 s.2 (j : Int)) ((l.drop j).foldl stStep s)
  | 0, j, s, hj => by
    refine Ev.step (fun k => by rw [trickleref55_state.l0]) (Ev.neg (by omega) ?_)
    rw [List.drop_of_length_le (by omega)]
    exact Ev.now _
  | d + 1, j, s, hj => by
    have ih := fun s' => state_loop l hn d (j + 1) s' (by omega)
    refine Ev.step (fun k => by rw [trickleref55_state.l0]) (Ev.pos (by omega) (Ev.pos (by omega) ?_))
    rw [rd55_nat l j (by omega), wrap_nat (n := l.length) (by omega) hn, drop_cons l j (by omega), List.foldl_cons]
    generalize l[j] = e
    by_cases h1 : e.f0 = 1
    · exact Ev.pos h1 (Ev.cast (ih (true, s.2)) (by simp [stStep, h1]))
    refine Ev.neg h1 ?_
    by_cases h2 : e.f0 = 2
    · exact Ev.pos h2 (Ev.cast (ih (false, s.2)) (by simp [stStep, h2]))
    refine Ev.neg h2 ?_
    by_cases h3 : e.f0 = 3
    · exact Ev.pos h3 (Ev.cast (ih (s.1, e.f2)) (by simp [stStep, h3]))
    refine Ev.neg h3 ?_
    by_cases h6 : e.f0 = 6
    · refine Ev.pos h6 (Ev.step (fun k => by rw [trickleref55_state.j1]) (Ev.pos (by simp [h6]) ?_))
      rw [wrap_nat (n := l.length) (by omega) hn]
      exact Ev.cast (ih (s.1, -1)) (by simp [stStep, h6])
    refine Ev.neg h6 (Ev.step (fun k => by rw [trickleref55_state.j1]) ?_)
    rw [wrap_nat (n := l.length) (by omega) hn]
    by_cases h9 : e.f0 = 9
    · exact Ev.pos (by simp [h9]) (Ev.cast (ih (s.1, -1)) (by simp [stStep, h9]))
    · exact Ev.neg (by simp [h9]) (Ev.cast (ih s) (by simp [stStep, h1, h2, h3, h6, h9]))
theorem state_ev (l : List S55) (hn : l.length ≤ 9223372036854775807) : Ev (fun k => trickleref55_state.f k l) (stF l) := by
  have h := state_loop l hn l.length 0 (false, -1) (by omega)
  simpa [trickleref55_state.f, stF] using h
def lastE (l : List S55) : S55 := l.getLast?.getD z55
/-- The rule of an event's kind: power, the running task, the event before, the event. -/
def sw (on : Bool) (run : Int) (p e : S55) : Bool :=
  if e.f0 = 1 then !on || p.f0 == 10 else if e.f0 = 2 ∨ e.f0 = 7 then on else if e.f0 = 10 ∨ e.f0 = 3 then on && decide (run < 0)
  else if e.f0 = 4 ∨ e.f0 = 12 ∨ e.f0 = 11 ∨ e.f0 = 5 then on && run == e.f2 else if e.f0 = 6 then on && (run == e.f2 && (p.f0 == 5 && p.f2 == e.f2))
  else if e.f0 = 9 then on && (decide (run < 0) || run == e.f2) else true
def refAllow (l : List S55) (e : S55) : Bool := l.all (fun x => decide (x.f1 ≤ e.f1)) && sw (stF l).1 (stF l).2 (lastE l) e
def trickleref55_allowed.f (l0 : List (S55)) (a1_0 : Int) (a1_1 : Int) (a1_2 : Int) (a1_3 : Int) (a1_4 : Int) (a1_5 : Int) : Option Bool := some (refAllow l0 ⟨a1_0, a1_1, a1_2, a1_3, a1_4, a1_5⟩)
theorem all_take (l : List S55) (x : Int) (j : Nat) (h : j < l.length) : (l.take (j + 1)).all (fun y => decide (y.f1 ≤ x)) = ((l.take j).all (fun y => decide (y.f1 ≤ x)) && decide (l[j].f1 ≤ x)) := by
  rw [take_snoc' l j h, List.all_append]
  simp
theorem all_false (l : List S55) (x : Int) (j : Nat) (h : j < l.length) (hx : x < l[j].f1) : l.all (fun y => decide (y.f1 ≤ x)) = false := by
  rw [List.all_eq_false]
  exact ⟨l[j], List.getElem_mem h, by simpa using hx⟩
theorem lastE_cons (l : List S55) (h : 0 < l.length) : lastE l = l[l.length - 1] := by
  unfold lastE
  rw [List.getLast?_eq_getElem?, List.getElem?_eq_getElem (by omega)]
  rfl
theorem wp_gen {c : Code} {a : Act} {w : World} {K : Exit → Act → World → Prop} (Q : World → Prop) (h : Q w) (h2 : ∀ w', Q w' → Code.wp Tryd.prog c K a w') : Code.wp Tryd.prog c K a w := h2 w h
set_option maxHeartbeats 8000000 in
set_option maxRecDepth 100000 in
theorem allowed_walk (A0 : Option Addr) (c0 : Nat) (l0 : List S55) (a1_0 a1_1 a1_2 a1_3 a1_4 a1_5 : Int) (w : World) (hr0 : Kd.C k55 w A0 l0.length l0) (hc0 : l0.length ≤ c0) :
    Calls Tryd.prog 29 #[.slice A0 l0.length c0, .agg #[.int .i64 a1_0, .int .i64 a1_1, .int .i64 a1_2, .int .i64 a1_3, .int .i16 a1_4, .int .i64 a1_5]] w fun e w' => e = .returned (.bool (refAllow l0 ⟨a1_0, a1_1, a1_2, a1_3, a1_4, a1_5⟩)) ∧ Below w.heap.size w w' := by
  have hu55 := Tryd.underlying55
  have HR0 := Aside0.mk hr0
  have HC0 := Aside0.mk hc0
  have hln := Aside0.mk hr0.2.1
  clear hr0 hc0
  obtain ⟨ks, hks⟩ := (state_ev l0 hln.out).rounds
  obtain ⟨⟨on, run⟩, hst⟩ : ∃ s, stF l0 = s := ⟨_, rfl⟩
  rw [hst] at hks
  have HS := Aside0.mk hks
  clear hks
  have HB := Aside0.mk (Below.refl w.heap.size w)
  have HQ := Aside0.mk (show (l0.all (fun x => decide (x.f1 ≤ a1_1)) && sw on run (lastE l0) ⟨a1_0, a1_1, a1_2, a1_3, a1_4, a1_5⟩) = refAllow l0 ⟨a1_0, a1_1, a1_2, a1_3, a1_4, a1_5⟩ by simp only [refAllow, hst])
  clear hst
  generalize refAllow l0 ⟨a1_0, a1_1, a1_2, a1_3, a1_4, a1_5⟩ = res at HQ ⊢
  go_enter Tryd.func29, Tryd.ntmps29
  go_upto_if 17 with (first | ((with_reducible refine gate_dst (N := 3) rfl ?_); refine box_event ?hg (N := 3) ?hd (cs := #[.int .i64 a1_0, .int .i64 a1_1, .int .i64 a1_2, .int .i64 a1_3, .int .i16 a1_4, .int .i64 a1_5]) (t := 55) ?hr ?_; (case hd => rfl); (case hg => rfl); (case hr => first | (go_simp; done) | (go_simp; rfl)); intro gb188 hg w5 hbox hb; have n0_ := Aside0.mk (below_step (by repeat (first | (with_reducible first | exact HB.out | apply below_alloc | apply pw_below_drewN | apply below_drew1) | exact HB.out)) hb); have n1_ := Aside0.mk (hbox); have n2_ := Aside0.mk ((by rw [hg]; exact (below_size (by repeat (first | (with_reducible first | exact HB.out | apply below_alloc | apply pw_below_drewN | apply below_drew1) | exact HB.out))) : w.heap.size ≤ gb188)); have n3_ := Aside0.mk ((by rw [hg]; exact (below_size (by repeat (first | (with_reducible first | exact HB.out | apply below_alloc | apply pw_below_drewN | apply below_drew1) | exact HB.out))) : w.heap.size ≤ gb188)); clear HB; have HB := n0_; have BK188 := n1_; have GW188 := n2_; have GE188 := n3_; clear n0_ n1_ n2_ n3_; clear hb hbox hg) | (go_at_call 39; (with_reducible refine (trickleref55_state.calls ks _ _ l0 on run _ ?side1 ?side2 HS.out).mono ?_); (case side1 => repeat (first | exact (Kd.C_below HR0.out HB.out) | (with_reducible refine Kd.C_alloc ?_ _) | (with_reducible refine Kd.C_drewN ?_ _) | (with_reducible refine Kd.C_drew ?_))); (case side2 => exact HC0.out); rintro e w' ⟨rfl, ⟨nd, rfl⟩⟩; (try first | exact ⟨rfl, _, World.drewN_drewN _ _ _⟩ | exact ⟨rfl, _, Eq.trans (World.drewN_drewN _ _ _) (congrArg (World.drewN _) (Nat.add_assoc _ _ _))⟩)) | ((with_reducible refine gate_dst (N := 7) rfl ?_); refine box_event ?hg (N := 7) ?hd (cs := #[.int .i64 0, .int .i64 0, .int .i64 0, .int .i64 0, .int .i16 0, .int .i64 0]) (t := 55) ?hr ?_; (case hd => rfl); (case hg => rfl); (case hr => first | (go_simp; done) | (go_simp; rfl)); intro gb191 hg w6 hbox hb; have n0_ := Aside0.mk (blk_below (g := gb188) (o := .cells #[.int .i64 a1_0, .int .i64 a1_1, .int .i64 a1_2, .int .i64 a1_3, .int .i16 a1_4, .int .i64 a1_5] 55 (0, 0)) (by (with_reducible repeat (first | refine blk_drewN ?_ _ | refine blk_drew ?_ | refine blk_alloc ?_ _)); exact BK188.out) hb); have n1_ := Aside0.mk (below_step (by repeat (first | (with_reducible first | exact HB.out | apply below_alloc | apply pw_below_drewN | apply below_drew1 | refine below_set ?_ GE188.out) | exact HB.out)) hb); have n2_ := Aside0.mk (hbox); have n3_ := Aside0.mk ((by rw [hg]; exact (below_size (by repeat (first | (with_reducible first | exact HB.out | apply below_alloc | apply pw_below_drewN | apply below_drew1 | refine below_set ?_ GE188.out) | exact HB.out))) : w.heap.size ≤ gb191)); have n4_ := Aside0.mk ((by rw [hg]; exact (below_size (by repeat (first | (with_reducible first | exact HB.out | apply below_alloc | apply pw_below_drewN | apply below_drew1 | refine below_set ?_ GE188.out) | exact HB.out))) : w.heap.size ≤ gb191)); have n5_ := Aside0.mk ((by rw [hg]; exact Nat.ne_of_lt (blk_lt (g := gb188) (o := .cells #[.int .i64 a1_0, .int .i64 a1_1, .int .i64 a1_2, .int .i64 a1_3, .int .i16 a1_4, .int .i64 a1_5] 55 (0, 0)) (by (with_reducible repeat (first | refine blk_drewN ?_ _ | refine blk_drew ?_ | refine blk_alloc ?_ _)); exact BK188.out)) : gb188 ≠ gb191)); have n6_ := Aside0.mk ((by rw [hg]; exact Nat.ne_of_gt (blk_lt (g := gb188) (o := .cells #[.int .i64 a1_0, .int .i64 a1_1, .int .i64 a1_2, .int .i64 a1_3, .int .i16 a1_4, .int .i64 a1_5] 55 (0, 0)) (by (with_reducible repeat (first | refine blk_drewN ?_ _ | refine blk_drew ?_ | refine blk_alloc ?_ _)); exact BK188.out)) : gb191 ≠ gb188)); clear BK188; clear HB; have BK188 := n0_; have HB := n1_; have BK191 := n2_; have GW191 := n3_; have GE191 := n4_; have NB188_191 := n5_; have NB191_188 := n6_; clear n0_ n1_ n2_ n3_ n4_ n5_ n6_; clear hb hbox hg; have hnb7 := NB191_188.out; have hnc7 := NB188_191.out; have hcz8_0 : w6.cell? ⟨gb191, 0, none⟩ = some (.int .i64 0) := (blk_cell BK191.out 0).trans rfl; have hcz8_1 : w6.cell? ⟨gb191, 1, none⟩ = some (.int .i64 0) := (blk_cell BK191.out 1).trans rfl; have hcz8_2 : w6.cell? ⟨gb191, 2, none⟩ = some (.int .i64 0) := (blk_cell BK191.out 2).trans rfl; have hcz8_3 : w6.cell? ⟨gb191, 3, none⟩ = some (.int .i64 0) := (blk_cell BK191.out 3).trans rfl; have hcz8_4 : w6.cell? ⟨gb191, 4, none⟩ = some (.int .i16 0) := (blk_cell BK191.out 4).trans rfl; have hcz8_5 : w6.cell? ⟨gb191, 5, none⟩ = some (.int .i64 0) := (blk_cell BK191.out 5).trans rfl; have hfz8_0 := blk_frozen BK191.out 0; have hfz8_1 := blk_frozen BK191.out 1; have hfz8_2 := blk_frozen BK191.out 2; have hfz8_3 := blk_frozen BK191.out 3; have hfz8_4 := blk_frozen BK191.out 4; have hfz8_5 := blk_frozen BK191.out 5))
  refine wp_gen (Q := fun wz => Aside0 (wz.heap[gb188]? = some (.cells #[.int .i64 a1_0, .int .i64 a1_1, .int .i64 a1_2, .int .i64 a1_3, .int .i16 a1_4, .int .i64 a1_5] 55 (0, 0))) ∧ Aside0 (wz.heap[gb191]? = some (.cells #[.int .i64 0, .int .i64 0, .int .i64 0, .int .i64 0, .int .i16 0, .int .i64 0] 55 (0, 0))) ∧ Aside0 (Below w.heap.size w wz)) ⟨⟨by (with_reducible repeat (first | refine blk_drewN ?_ _ | refine blk_drew ?_ | refine blk_alloc ?_ _)); refine blk_far ?_ NB188_191.out _; (with_reducible repeat (first | refine blk_drewN ?_ _ | refine blk_drew ?_ | refine blk_alloc ?_ _)); refine blk_far ?_ NB188_191.out _; (with_reducible repeat (first | refine blk_drewN ?_ _ | refine blk_drew ?_ | refine blk_alloc ?_ _)); refine blk_far ?_ NB188_191.out _; (with_reducible repeat (first | refine blk_drewN ?_ _ | refine blk_drew ?_ | refine blk_alloc ?_ _)); refine blk_far ?_ NB188_191.out _; (with_reducible repeat (first | refine blk_drewN ?_ _ | refine blk_drew ?_ | refine blk_alloc ?_ _)); refine blk_far ?_ NB188_191.out _; (with_reducible repeat (first | refine blk_drewN ?_ _ | refine blk_drew ?_ | refine blk_alloc ?_ _)); refine blk_far ?_ NB188_191.out _; (with_reducible repeat (first | refine blk_drewN ?_ _ | refine blk_drew ?_ | refine blk_alloc ?_ _)); exact BK188.out⟩, ⟨by (with_reducible repeat (first | refine blk_drewN ?_ _ | refine blk_drew ?_ | refine blk_alloc ?_ _)); refine blk_put (cs := #[.int .i64 0, .int .i64 0, .int .i64 0, .int .i64 0, .int .i16 0, .int .i64 0]) ?_ 5 _ rfl; (with_reducible repeat (first | refine blk_drewN ?_ _ | refine blk_drew ?_ | refine blk_alloc ?_ _)); refine blk_put (cs := #[.int .i64 0, .int .i64 0, .int .i64 0, .int .i64 0, .int .i16 0, .int .i64 0]) ?_ 4 _ rfl; (with_reducible repeat (first | refine blk_drewN ?_ _ | refine blk_drew ?_ | refine blk_alloc ?_ _)); refine blk_put (cs := #[.int .i64 0, .int .i64 0, .int .i64 0, .int .i64 0, .int .i16 0, .int .i64 0]) ?_ 3 _ rfl; (with_reducible repeat (first | refine blk_drewN ?_ _ | refine blk_drew ?_ | refine blk_alloc ?_ _)); refine blk_put (cs := #[.int .i64 0, .int .i64 0, .int .i64 0, .int .i64 0, .int .i16 0, .int .i64 0]) ?_ 2 _ rfl; (with_reducible repeat (first | refine blk_drewN ?_ _ | refine blk_drew ?_ | refine blk_alloc ?_ _)); refine blk_put (cs := #[.int .i64 0, .int .i64 0, .int .i64 0, .int .i64 0, .int .i16 0, .int .i64 0]) ?_ 1 _ rfl; (with_reducible repeat (first | refine blk_drewN ?_ _ | refine blk_drew ?_ | refine blk_alloc ?_ _)); refine blk_put (cs := #[.int .i64 0, .int .i64 0, .int .i64 0, .int .i64 0, .int .i16 0, .int .i64 0]) ?_ 0 _ rfl; (with_reducible repeat (first | refine blk_drewN ?_ _ | refine blk_drew ?_ | refine blk_alloc ?_ _)); exact BK191.out⟩, ⟨by repeat (first | (with_reducible first | exact HB.out | apply below_alloc | apply pw_below_drewN | apply below_drew1 | refine below_set ?_ GE188.out | refine below_set ?_ GE191.out) | exact HB.out)⟩⟩ ?_
  clear hnb7 hnc7 hcz8_0 hcz8_1 hcz8_2 hcz8_3 hcz8_4 hcz8_5 hfz8_0 hfz8_1 hfz8_2 hfz8_3 hfz8_4 hfz8_5 BK188 BK191 HB
  intro wz hz
  obtain ⟨BK188, BK191, HB⟩ := hz
  go_cut [] (fun wc => Aside0 (wc.heap[gb188]? = some (.cells #[.int .i64 a1_0, .int .i64 a1_1, .int .i64 a1_2, .int .i64 a1_3, .int .i16 a1_4, .int .i64 a1_5] 55 (0, 0))) ∧ Aside0 (wc.heap[gb191]? = some (.cells #[.int .i64 (lastE l0).f0, .int .i64 (lastE l0).f1, .int .i64 (lastE l0).f2, .int .i64 (lastE l0).f3, .int .i16 (lastE l0).f4, .int .i64 (lastE l0).f5] 55 (0, 0))) ∧ Aside0 (Below w.heap.size w wc))
  case first =>
    by_cases c9 : 0 < l0.length
    · have c9b1 : decide (0 < l0.length) = true := decide_eq_true c9
      have hji : IntKind.i64.wrap ((l0.length : Int) - 1) = ((l0.length - 1 : Nat) : Int) := (i64_w _).trans (by rw [wrap_id (by omega) (by have := hln.out; omega)]; omega)
      obtain ⟨ad192, e192, hx0, hx1, hx2, hx3, hx4, hx5⟩ := at_T55 HR0.out ((l0.length - 1 : Nat) : Int) (by omega) (by omega)
      cases e192
      rw [rd55_nat l0 (l0.length - 1) (by omega), ← lastE_cons l0 c9, Int.toNat_natCast] at hx0 hx1 hx2 hx3 hx4 hx5
      replace hx0 := (HB.out.cell (World.block_lt_of_cell? w _ hx0)).trans hx0
      replace hx1 := (HB.out.cell (World.block_lt_of_cell? w _ hx1)).trans hx1
      replace hx2 := (HB.out.cell (World.block_lt_of_cell? w _ hx2)).trans hx2
      replace hx3 := (HB.out.cell (World.block_lt_of_cell? w _ hx3)).trans hx3
      replace hx4 := (HB.out.cell (World.block_lt_of_cell? w _ hx4)).trans hx4
      replace hx5 := (HB.out.cell (World.block_lt_of_cell? w _ hx5)).trans hx5
      have hji0 : (0 : Int) ≤ ((l0.length - 1 : Nat) : Int) := by omega
      have hji1 : ((l0.length - 1 : Nat) : Int) < (l0.length : Int) := by omega
      replace hji0 := eq_true hji0
      replace hji1 := eq_true hji1
      have hcz0 : wz.cell? ⟨gb191, 0, none⟩ = some (.int .i64 0) := (blk_cell BK191.out 0).trans rfl
      have hfz0 := blk_frozen BK191.out 0
      have hcz1 : wz.cell? ⟨gb191, 1, none⟩ = some (.int .i64 0) := (blk_cell BK191.out 1).trans rfl
      have hfz1 := blk_frozen BK191.out 1
      have hcz2 : wz.cell? ⟨gb191, 2, none⟩ = some (.int .i64 0) := (blk_cell BK191.out 2).trans rfl
      have hfz2 := blk_frozen BK191.out 2
      have hcz3 : wz.cell? ⟨gb191, 3, none⟩ = some (.int .i64 0) := (blk_cell BK191.out 3).trans rfl
      have hfz3 := blk_frozen BK191.out 3
      have hcz4 : wz.cell? ⟨gb191, 4, none⟩ = some (.int .i16 0) := (blk_cell BK191.out 4).trans rfl
      have hfz4 := blk_frozen BK191.out 4
      have hcz5 : wz.cell? ⟨gb191, 5, none⟩ = some (.int .i64 0) := (blk_cell BK191.out 5).trans rfl
      have hfz5 := blk_frozen BK191.out 5
      rw [c9b1]
      go_wp2
      repeat (go_quiet (fail); try go_wp2)
      go_meet
      case rel => exact ⟨⟨by (with_reducible repeat (first | refine blk_drewN ?_ _ | refine blk_drew ?_ | refine blk_alloc ?_ _)); refine blk_far ?_ NB188_191.out _; (with_reducible repeat (first | refine blk_drewN ?_ _ | refine blk_drew ?_ | refine blk_alloc ?_ _)); refine blk_far ?_ NB188_191.out _; (with_reducible repeat (first | refine blk_drewN ?_ _ | refine blk_drew ?_ | refine blk_alloc ?_ _)); refine blk_far ?_ NB188_191.out _; (with_reducible repeat (first | refine blk_drewN ?_ _ | refine blk_drew ?_ | refine blk_alloc ?_ _)); refine blk_far ?_ NB188_191.out _; (with_reducible repeat (first | refine blk_drewN ?_ _ | refine blk_drew ?_ | refine blk_alloc ?_ _)); refine blk_far ?_ NB188_191.out _; (with_reducible repeat (first | refine blk_drewN ?_ _ | refine blk_drew ?_ | refine blk_alloc ?_ _)); refine blk_far ?_ NB188_191.out _; (with_reducible repeat (first | refine blk_drewN ?_ _ | refine blk_drew ?_ | refine blk_alloc ?_ _)); exact BK188.out⟩, ⟨by (with_reducible repeat (first | refine blk_drewN ?_ _ | refine blk_drew ?_ | refine blk_alloc ?_ _)); refine blk_put (cs := #[.int .i64 (lastE l0).f0, .int .i64 (lastE l0).f1, .int .i64 (lastE l0).f2, .int .i64 (lastE l0).f3, .int .i16 (lastE l0).f4, .int .i64 0]) ?_ 5 _ rfl; (with_reducible repeat (first | refine blk_drewN ?_ _ | refine blk_drew ?_ | refine blk_alloc ?_ _)); refine blk_put (cs := #[.int .i64 (lastE l0).f0, .int .i64 (lastE l0).f1, .int .i64 (lastE l0).f2, .int .i64 (lastE l0).f3, .int .i16 0, .int .i64 0]) ?_ 4 _ rfl; (with_reducible repeat (first | refine blk_drewN ?_ _ | refine blk_drew ?_ | refine blk_alloc ?_ _)); refine blk_put (cs := #[.int .i64 (lastE l0).f0, .int .i64 (lastE l0).f1, .int .i64 (lastE l0).f2, .int .i64 0, .int .i16 0, .int .i64 0]) ?_ 3 _ rfl; (with_reducible repeat (first | refine blk_drewN ?_ _ | refine blk_drew ?_ | refine blk_alloc ?_ _)); refine blk_put (cs := #[.int .i64 (lastE l0).f0, .int .i64 (lastE l0).f1, .int .i64 0, .int .i64 0, .int .i16 0, .int .i64 0]) ?_ 2 _ rfl; (with_reducible repeat (first | refine blk_drewN ?_ _ | refine blk_drew ?_ | refine blk_alloc ?_ _)); refine blk_put (cs := #[.int .i64 (lastE l0).f0, .int .i64 0, .int .i64 0, .int .i64 0, .int .i16 0, .int .i64 0]) ?_ 1 _ rfl; (with_reducible repeat (first | refine blk_drewN ?_ _ | refine blk_drew ?_ | refine blk_alloc ?_ _)); refine blk_put (cs := #[.int .i64 0, .int .i64 0, .int .i64 0, .int .i64 0, .int .i16 0, .int .i64 0]) ?_ 0 _ rfl; (with_reducible repeat (first | refine blk_drewN ?_ _ | refine blk_drew ?_ | refine blk_alloc ?_ _)); exact BK191.out⟩, ⟨by repeat (first | (with_reducible first | exact HB.out | apply below_alloc | apply pw_below_drewN | apply below_drew1 | refine below_set ?_ GE188.out | refine below_set ?_ GE191.out) | exact HB.out)⟩⟩
    · have c9b1 : decide (0 < l0.length) = false := decide_eq_false c9
      have hl0 : lastE l0 = z55 := by rw [List.length_eq_zero_iff.mp (by omega : l0.length = 0)]; rfl
      rw [c9b1]
      go_wp2
      repeat (go_quiet (fail); try go_wp2)
      go_meet
      case rel => rw [hl0]; exact ⟨⟨by (with_reducible repeat (first | refine blk_drewN ?_ _ | refine blk_drew ?_ | refine blk_alloc ?_ _)); exact BK188.out⟩, ⟨by (with_reducible repeat (first | refine blk_drewN ?_ _ | refine blk_drew ?_ | refine blk_alloc ?_ _)); exact BK191.out⟩, ⟨by repeat (first | (with_reducible first | exact HB.out | apply below_alloc | apply pw_below_drewN | apply below_drew1 | refine below_set ?_ GE188.out | refine below_set ?_ GE191.out) | exact HB.out)⟩⟩
  case rest =>
    obtain ⟨BK188, BK191, HB⟩ := hcut
    go_wp2
    repeat (go_quiet (fail); try go_wp2)
    go_loopg [8] l0.length (fun kq v8 w' => ∃ j : Nat, v8 = .int .i64 (j : Int) ∧ Aside0 (j + kq = l0.length ∧ (l0.take j).all (fun x => decide (x.f1 ≤ a1_1)) = true) ∧ Aside0 (w'.heap[gb188]? = some (.cells #[.int .i64 a1_0, .int .i64 a1_1, .int .i64 a1_2, .int .i64 a1_3, .int .i16 a1_4, .int .i64 a1_5] 55 (0, 0))) ∧ Aside0 (w'.heap[gb191]? = some (.cells #[.int .i64 (lastE l0).f0, .int .i64 (lastE l0).f1, .int .i64 (lastE l0).f2, .int .i64 (lastE l0).f3, .int .i16 (lastE l0).f4, .int .i64 (lastE l0).f5] 55 (0, 0))) ∧ Aside0 (Below w.heap.size w w'))
    case atStart => exact ⟨0, rfl, ⟨⟨by omega, by simp⟩⟩, ⟨by (with_reducible repeat (first | refine blk_drewN ?_ _ | refine blk_drew ?_ | refine blk_alloc ?_ _)); exact BK188.out⟩, ⟨by (with_reducible repeat (first | refine blk_drewN ?_ _ | refine blk_drew ?_ | refine blk_alloc ?_ _)); exact BK191.out⟩, ⟨by repeat (first | (with_reducible first | exact HB.out | apply below_alloc | apply pw_below_drewN | apply below_drew1 | refine below_set ?_ GE188.out | refine below_set ?_ GE191.out) | exact HB.out)⟩⟩
    case round =>
      clear HB BK188 BK191
      obtain ⟨j, rfl, HA, BK188, BK191, HB⟩ := hrel
      have hcp0 : wr.cell? ⟨gb188, 0, none⟩ = some (.int .i64 a1_0) := (blk_cell BK188.out 0).trans rfl
      have hcp1 : wr.cell? ⟨gb188, 1, none⟩ = some (.int .i64 a1_1) := (blk_cell BK188.out 1).trans rfl
      have hcp2 : wr.cell? ⟨gb188, 2, none⟩ = some (.int .i64 a1_2) := (blk_cell BK188.out 2).trans rfl
      have hcp3 : wr.cell? ⟨gb188, 3, none⟩ = some (.int .i64 a1_3) := (blk_cell BK188.out 3).trans rfl
      have hcp4 : wr.cell? ⟨gb188, 4, none⟩ = some (.int .i16 a1_4) := (blk_cell BK188.out 4).trans rfl
      have hcp5 : wr.cell? ⟨gb188, 5, none⟩ = some (.int .i64 a1_5) := (blk_cell BK188.out 5).trans rfl
      by_cases c15 : (j : Int) < (l0.length : Int)
      · have c15b0 : decide ((j : Int) < (l0.length : Int)) = true := decide_eq_true c15
        have hjn : j < l0.length := by omega
        obtain ⟨ad193, e193, hx0, hx1, hx2, hx3, hx4, hx5⟩ := at_T55 HR0.out (j : Int) (by omega) (by omega)
        cases e193
        rw [rd55_nat l0 j hjn, Int.toNat_natCast] at hx0 hx1 hx2 hx3 hx4 hx5
        replace hx0 := (HB.out.cell (World.block_lt_of_cell? w _ hx0)).trans hx0
        replace hx1 := (HB.out.cell (World.block_lt_of_cell? w _ hx1)).trans hx1
        replace hx2 := (HB.out.cell (World.block_lt_of_cell? w _ hx2)).trans hx2
        replace hx3 := (HB.out.cell (World.block_lt_of_cell? w _ hx3)).trans hx3
        replace hx4 := (HB.out.cell (World.block_lt_of_cell? w _ hx4)).trans hx4
        replace hx5 := (HB.out.cell (World.block_lt_of_cell? w _ hx5)).trans hx5
        have hji0 : (0 : Int) ≤ (j : Int) := by omega
        replace hji0 := eq_true hji0
        have hji1 := eq_true c15
        clear c15
        by_cases c17 : l0[j].f1 > a1_1
        · have c17b0 : decide (a1_1 < l0[j].f1) = true := decide_eq_true c17
          have hres : res = false := by rw [← HQ.out, all_false l0 a1_1 j hjn c17, Bool.false_and]
          clear c17 HA
          go_wp2
          repeat (go_quiet (fail); try go_wp2)
          go_ret
          exact ⟨by rw [hres]; rfl, by repeat (first | (with_reducible first | exact HB.out | apply below_alloc | apply pw_below_drewN | apply below_drew1 | refine below_set ?_ GE188.out | refine below_set ?_ GE191.out) | exact HB.out)⟩
        · have c17b0 : decide (a1_1 < l0[j].f1) = false := decide_eq_false c17
          have hall := Aside0.mk (show (l0.take (j + 1)).all (fun x => decide (x.f1 ≤ a1_1)) = true by rw [all_take l0 a1_1 j hjn, HA.out.2, Bool.true_and, decide_eq_true_eq]; omega)
          have hwr := (i64_w ((j : Int) + 1)).trans (wrap_nat hjn hln.out)
          have hj1 := Aside0.mk (HA.out.1)
          clear c17 HA
          cases gk with
          | zero => exact absurd hj1.out (by omega)
          | succ k2 =>
            go_wp2
            repeat (go_quiet (fail); try go_wp2)
            go_roundg k2
            case measure => omega
            case rel => exact ⟨j + 1, by first | rfl | (simp; done) | (simp [*]; done) | exact congrArg (Value.int .i64) hwr, ⟨⟨by have := hj1.out; omega, hall.out⟩⟩, ⟨by (with_reducible repeat (first | refine blk_drewN ?_ _ | refine blk_drew ?_ | refine blk_alloc ?_ _)); exact BK188.out⟩, ⟨by (with_reducible repeat (first | refine blk_drewN ?_ _ | refine blk_drew ?_ | refine blk_alloc ?_ _)); exact BK191.out⟩, ⟨by repeat (first | (with_reducible first | exact HB.out | apply below_alloc | apply pw_below_drewN | apply below_drew1 | refine below_set ?_ GE188.out | refine below_set ?_ GE191.out) | exact HB.out)⟩⟩
      · have c15b0 : decide ((j : Int) < (l0.length : Int)) = false := decide_eq_false c15
        have hR := Aside0.mk (show sw on run (lastE l0) ⟨a1_0, a1_1, a1_2, a1_3, a1_4, a1_5⟩ = res by rw [← HQ.out, ← List.take_of_length_le (l := l0) (i := j) (by omega), HA.out.2, List.take_of_length_le (by omega), Bool.true_and])
        have c15n : decide (j < l0.length) = false := decide_eq_false (by omega)
        clear HQ HA c15
        generalize lastE l0 = p at hR BK191
        have hcq0 : wr.cell? ⟨gb191, 0, none⟩ = some (.int .i64 p.f0) := (blk_cell BK191.out 0).trans rfl
        have hcq1 : wr.cell? ⟨gb191, 1, none⟩ = some (.int .i64 p.f1) := (blk_cell BK191.out 1).trans rfl
        have hcq2 : wr.cell? ⟨gb191, 2, none⟩ = some (.int .i64 p.f2) := (blk_cell BK191.out 2).trans rfl
        have hcq3 : wr.cell? ⟨gb191, 3, none⟩ = some (.int .i64 p.f3) := (blk_cell BK191.out 3).trans rfl
        have hcq4 : wr.cell? ⟨gb191, 4, none⟩ = some (.int .i16 p.f4) := (blk_cell BK191.out 4).trans rfl
        have hcq5 : wr.cell? ⟨gb191, 5, none⟩ = some (.int .i64 p.f5) := (blk_cell BK191.out 5).trans rfl
        cases on with
        | true =>
          by_cases hk1 : a1_0 = 1
          · subst hk1
            go_wp2
            repeat (go_quiet (fail); try go_wp2)
            go_ret
            exact ⟨by rw [← hR.out]; first | rfl | (simp [sw, *]; done), by repeat (first | (with_reducible first | exact HB.out | apply below_alloc | apply pw_below_drewN | apply below_drew1 | refine below_set ?_ GE188.out | refine below_set ?_ GE191.out) | exact HB.out)⟩
          by_cases hk2 : a1_0 = 2
          · subst hk2
            go_wp2
            repeat (go_quiet (fail); try go_wp2)
            go_ret
            exact ⟨by rw [← hR.out]; first | rfl | (simp [sw, *]; done), by repeat (first | (with_reducible first | exact HB.out | apply below_alloc | apply pw_below_drewN | apply below_drew1 | refine below_set ?_ GE188.out | refine below_set ?_ GE191.out) | exact HB.out)⟩
          by_cases hk7 : a1_0 = 7
          · subst hk7
            go_wp2
            repeat (go_quiet (fail); try go_wp2)
            go_ret
            exact ⟨by rw [← hR.out]; first | rfl | (simp [sw, *]; done), by repeat (first | (with_reducible first | exact HB.out | apply below_alloc | apply pw_below_drewN | apply below_drew1 | refine below_set ?_ GE188.out | refine below_set ?_ GE191.out) | exact HB.out)⟩
          by_cases hk10 : a1_0 = 10
          · subst hk10
            go_wp2
            repeat (go_quiet (fail); try go_wp2)
            go_ret
            exact ⟨by rw [← hR.out]; first | rfl | (simp [sw, *]; done), by repeat (first | (with_reducible first | exact HB.out | apply below_alloc | apply pw_below_drewN | apply below_drew1 | refine below_set ?_ GE188.out | refine below_set ?_ GE191.out) | exact HB.out)⟩
          by_cases hk3 : a1_0 = 3
          · subst hk3
            go_wp2
            repeat (go_quiet (fail); try go_wp2)
            go_ret
            exact ⟨by rw [← hR.out]; first | rfl | (simp [sw, *]; done), by repeat (first | (with_reducible first | exact HB.out | apply below_alloc | apply pw_below_drewN | apply below_drew1 | refine below_set ?_ GE188.out | refine below_set ?_ GE191.out) | exact HB.out)⟩
          by_cases hk4 : a1_0 = 4
          · subst hk4
            go_wp2
            repeat (go_quiet (fail); try go_wp2)
            go_ret
            exact ⟨by rw [← hR.out]; first | rfl | (simp [sw, *]; done), by repeat (first | (with_reducible first | exact HB.out | apply below_alloc | apply pw_below_drewN | apply below_drew1 | refine below_set ?_ GE188.out | refine below_set ?_ GE191.out) | exact HB.out)⟩
          by_cases hk12 : a1_0 = 12
          · subst hk12
            go_wp2
            repeat (go_quiet (fail); try go_wp2)
            go_ret
            exact ⟨by rw [← hR.out]; first | rfl | (simp [sw, *]; done), by repeat (first | (with_reducible first | exact HB.out | apply below_alloc | apply pw_below_drewN | apply below_drew1 | refine below_set ?_ GE188.out | refine below_set ?_ GE191.out) | exact HB.out)⟩
          by_cases hk11 : a1_0 = 11
          · subst hk11
            go_wp2
            repeat (go_quiet (fail); try go_wp2)
            go_ret
            exact ⟨by rw [← hR.out]; first | rfl | (simp [sw, *]; done), by repeat (first | (with_reducible first | exact HB.out | apply below_alloc | apply pw_below_drewN | apply below_drew1 | refine below_set ?_ GE188.out | refine below_set ?_ GE191.out) | exact HB.out)⟩
          by_cases hk5 : a1_0 = 5
          · subst hk5
            go_wp2
            repeat (go_quiet (fail); try go_wp2)
            go_ret
            exact ⟨by rw [← hR.out]; first | rfl | (simp [sw, *]; done), by repeat (first | (with_reducible first | exact HB.out | apply below_alloc | apply pw_below_drewN | apply below_drew1 | refine below_set ?_ GE188.out | refine below_set ?_ GE191.out) | exact HB.out)⟩
          by_cases hk6 : a1_0 = 6
          · subst hk6
            by_cases hr : run = a1_2
            · have hr1 : (run == a1_2) = true := beq_iff_eq.mpr hr
              by_cases hp : p.f0 = 5
              · have hp1 : (p.f0 == 5) = true := beq_iff_eq.mpr hp
                go_wp2
                repeat (go_quiet (fail); try go_wp2)
                go_ret
                exact ⟨by rw [← hR.out]; first | rfl | (simp [sw, *]; done), by repeat (first | (with_reducible first | exact HB.out | apply below_alloc | apply pw_below_drewN | apply below_drew1 | refine below_set ?_ GE188.out | refine below_set ?_ GE191.out) | exact HB.out)⟩
              · have hp1 : (p.f0 == 5) = false := beq_eq_false_iff_ne.mpr hp
                go_wp2
                repeat (go_quiet (fail); try go_wp2)
                go_ret
                exact ⟨by rw [← hR.out]; first | rfl | (simp [sw, *]; done), by repeat (first | (with_reducible first | exact HB.out | apply below_alloc | apply pw_below_drewN | apply below_drew1 | refine below_set ?_ GE188.out | refine below_set ?_ GE191.out) | exact HB.out)⟩
            · have hr1 : (run == a1_2) = false := beq_eq_false_iff_ne.mpr hr
              go_wp2
              repeat (go_quiet (fail); try go_wp2)
              go_ret
              exact ⟨by rw [← hR.out]; first | rfl | (simp [sw, *]; done), by repeat (first | (with_reducible first | exact HB.out | apply below_alloc | apply pw_below_drewN | apply below_drew1 | refine below_set ?_ GE188.out | refine below_set ?_ GE191.out) | exact HB.out)⟩
          by_cases hk9 : a1_0 = 9
          · subst hk9
            by_cases hr : run < 0
            · have hr1 : decide (run < 0) = true := decide_eq_true hr
              go_wp2
              repeat (go_quiet (fail); try go_wp2)
              go_ret
              exact ⟨by rw [← hR.out]; first | rfl | (simp [sw, *]; done), by repeat (first | (with_reducible first | exact HB.out | apply below_alloc | apply pw_below_drewN | apply below_drew1 | refine below_set ?_ GE188.out | refine below_set ?_ GE191.out) | exact HB.out)⟩
            · have hr1 : decide (run < 0) = false := decide_eq_false hr
              go_wp2
              repeat (go_quiet (fail); try go_wp2)
              go_ret
              exact ⟨by rw [← hR.out]; first | rfl | (simp [sw, *]; done), by repeat (first | (with_reducible first | exact HB.out | apply below_alloc | apply pw_below_drewN | apply below_drew1 | refine below_set ?_ GE188.out | refine below_set ?_ GE191.out) | exact HB.out)⟩
          have h1 : (a1_0 == 1) = false := beq_eq_false_iff_ne.mpr hk1
          have h2 : (a1_0 == 2) = false := beq_eq_false_iff_ne.mpr hk2
          have h7 : (a1_0 == 7) = false := beq_eq_false_iff_ne.mpr hk7
          have h10 : (a1_0 == 10) = false := beq_eq_false_iff_ne.mpr hk10
          have h3 : (a1_0 == 3) = false := beq_eq_false_iff_ne.mpr hk3
          have h4 : (a1_0 == 4) = false := beq_eq_false_iff_ne.mpr hk4
          have h12 : (a1_0 == 12) = false := beq_eq_false_iff_ne.mpr hk12
          have h11 : (a1_0 == 11) = false := beq_eq_false_iff_ne.mpr hk11
          have h5 : (a1_0 == 5) = false := beq_eq_false_iff_ne.mpr hk5
          have h6 : (a1_0 == 6) = false := beq_eq_false_iff_ne.mpr hk6
          have h9 : (a1_0 == 9) = false := beq_eq_false_iff_ne.mpr hk9
          go_wp2
          repeat (go_quiet (fail); try go_wp2)
          go_ret
          exact ⟨by rw [← hR.out]; first | rfl | (simp [sw, *]; done), by repeat (first | (with_reducible first | exact HB.out | apply below_alloc | apply pw_below_drewN | apply below_drew1 | refine below_set ?_ GE188.out | refine below_set ?_ GE191.out) | exact HB.out)⟩
        | false =>
          by_cases hk1 : a1_0 = 1
          · subst hk1
            go_wp2
            repeat (go_quiet (fail); try go_wp2)
            go_ret
            exact ⟨by rw [← hR.out]; first | rfl | (simp [sw, *]; done), by repeat (first | (with_reducible first | exact HB.out | apply below_alloc | apply pw_below_drewN | apply below_drew1 | refine below_set ?_ GE188.out | refine below_set ?_ GE191.out) | exact HB.out)⟩
          by_cases hk2 : a1_0 = 2
          · subst hk2
            go_wp2
            repeat (go_quiet (fail); try go_wp2)
            go_ret
            exact ⟨by rw [← hR.out]; first | rfl | (simp [sw, *]; done), by repeat (first | (with_reducible first | exact HB.out | apply below_alloc | apply pw_below_drewN | apply below_drew1 | refine below_set ?_ GE188.out | refine below_set ?_ GE191.out) | exact HB.out)⟩
          by_cases hk7 : a1_0 = 7
          · subst hk7
            go_wp2
            repeat (go_quiet (fail); try go_wp2)
            go_ret
            exact ⟨by rw [← hR.out]; first | rfl | (simp [sw, *]; done), by repeat (first | (with_reducible first | exact HB.out | apply below_alloc | apply pw_below_drewN | apply below_drew1 | refine below_set ?_ GE188.out | refine below_set ?_ GE191.out) | exact HB.out)⟩
          by_cases hk10 : a1_0 = 10
          · subst hk10
            go_wp2
            repeat (go_quiet (fail); try go_wp2)
            go_ret
            exact ⟨by rw [← hR.out]; first | rfl | (simp [sw, *]; done), by repeat (first | (with_reducible first | exact HB.out | apply below_alloc | apply pw_below_drewN | apply below_drew1 | refine below_set ?_ GE188.out | refine below_set ?_ GE191.out) | exact HB.out)⟩
          by_cases hk3 : a1_0 = 3
          · subst hk3
            go_wp2
            repeat (go_quiet (fail); try go_wp2)
            go_ret
            exact ⟨by rw [← hR.out]; first | rfl | (simp [sw, *]; done), by repeat (first | (with_reducible first | exact HB.out | apply below_alloc | apply pw_below_drewN | apply below_drew1 | refine below_set ?_ GE188.out | refine below_set ?_ GE191.out) | exact HB.out)⟩
          by_cases hk4 : a1_0 = 4
          · subst hk4
            go_wp2
            repeat (go_quiet (fail); try go_wp2)
            go_ret
            exact ⟨by rw [← hR.out]; first | rfl | (simp [sw, *]; done), by repeat (first | (with_reducible first | exact HB.out | apply below_alloc | apply pw_below_drewN | apply below_drew1 | refine below_set ?_ GE188.out | refine below_set ?_ GE191.out) | exact HB.out)⟩
          by_cases hk12 : a1_0 = 12
          · subst hk12
            go_wp2
            repeat (go_quiet (fail); try go_wp2)
            go_ret
            exact ⟨by rw [← hR.out]; first | rfl | (simp [sw, *]; done), by repeat (first | (with_reducible first | exact HB.out | apply below_alloc | apply pw_below_drewN | apply below_drew1 | refine below_set ?_ GE188.out | refine below_set ?_ GE191.out) | exact HB.out)⟩
          by_cases hk11 : a1_0 = 11
          · subst hk11
            go_wp2
            repeat (go_quiet (fail); try go_wp2)
            go_ret
            exact ⟨by rw [← hR.out]; first | rfl | (simp [sw, *]; done), by repeat (first | (with_reducible first | exact HB.out | apply below_alloc | apply pw_below_drewN | apply below_drew1 | refine below_set ?_ GE188.out | refine below_set ?_ GE191.out) | exact HB.out)⟩
          by_cases hk5 : a1_0 = 5
          · subst hk5
            go_wp2
            repeat (go_quiet (fail); try go_wp2)
            go_ret
            exact ⟨by rw [← hR.out]; first | rfl | (simp [sw, *]; done), by repeat (first | (with_reducible first | exact HB.out | apply below_alloc | apply pw_below_drewN | apply below_drew1 | refine below_set ?_ GE188.out | refine below_set ?_ GE191.out) | exact HB.out)⟩
          by_cases hk6 : a1_0 = 6
          · subst hk6
            go_wp2
            repeat (go_quiet (fail); try go_wp2)
            go_ret
            exact ⟨by rw [← hR.out]; first | rfl | (simp [sw, *]; done), by repeat (first | (with_reducible first | exact HB.out | apply below_alloc | apply pw_below_drewN | apply below_drew1 | refine below_set ?_ GE188.out | refine below_set ?_ GE191.out) | exact HB.out)⟩
          by_cases hk9 : a1_0 = 9
          · subst hk9
            go_wp2
            repeat (go_quiet (fail); try go_wp2)
            go_ret
            exact ⟨by rw [← hR.out]; first | rfl | (simp [sw, *]; done), by repeat (first | (with_reducible first | exact HB.out | apply below_alloc | apply pw_below_drewN | apply below_drew1 | refine below_set ?_ GE188.out | refine below_set ?_ GE191.out) | exact HB.out)⟩
          have h1 : (a1_0 == 1) = false := beq_eq_false_iff_ne.mpr hk1
          have h2 : (a1_0 == 2) = false := beq_eq_false_iff_ne.mpr hk2
          have h7 : (a1_0 == 7) = false := beq_eq_false_iff_ne.mpr hk7
          have h10 : (a1_0 == 10) = false := beq_eq_false_iff_ne.mpr hk10
          have h3 : (a1_0 == 3) = false := beq_eq_false_iff_ne.mpr hk3
          have h4 : (a1_0 == 4) = false := beq_eq_false_iff_ne.mpr hk4
          have h12 : (a1_0 == 12) = false := beq_eq_false_iff_ne.mpr hk12
          have h11 : (a1_0 == 11) = false := beq_eq_false_iff_ne.mpr hk11
          have h5 : (a1_0 == 5) = false := beq_eq_false_iff_ne.mpr hk5
          have h6 : (a1_0 == 6) = false := beq_eq_false_iff_ne.mpr hk6
          have h9 : (a1_0 == 9) = false := beq_eq_false_iff_ne.mpr hk9
          go_wp2
          repeat (go_quiet (fail); try go_wp2)
          go_ret
          exact ⟨by rw [← hR.out]; first | rfl | (simp [sw, *]; done), by repeat (first | (with_reducible first | exact HB.out | apply below_alloc | apply pw_below_drewN | apply below_drew1 | refine below_set ?_ GE188.out | refine below_set ?_ GE191.out) | exact HB.out)⟩
theorem trickleref55_allowed.calls (A0 : Option Addr) (c0 : Nat) (l0 : List S55) (a1_0 a1_1 a1_2 a1_3 a1_4 a1_5 : Int) (r : Bool) (w : World) (hr0 : Kd.C k55 w A0 l0.length l0) (hc0 : l0.length ≤ c0) (h : trickleref55_allowed.f l0 a1_0 a1_1 a1_2 a1_3 a1_4 a1_5 = some r) :
    Calls Tryd.prog 29 #[.slice A0 l0.length c0, .agg #[.int .i64 a1_0, .int .i64 a1_1, .int .i64 a1_2, .int .i64 a1_3, .int .i16 a1_4, .int .i64 a1_5]] w fun e w' => e = .returned (.bool r) ∧ Below w.heap.size w w' := by
  obtain rfl := Option.some.inj h
  exact allowed_walk A0 c0 l0 a1_0 a1_1 a1_2 a1_3 a1_4 a1_5 w hr0 hc0
end Go.Proofs.YtakkifbcaedcoaaDoor.PX
