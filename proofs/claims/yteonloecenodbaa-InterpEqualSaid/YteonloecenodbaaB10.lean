/- Parts of the proof, merged in build order: MIeq, Open, Types, Ig1, PureInterpEqual. -/
import Derived.Test.YteonloecenodbaaB6
import Derived.Test.YteonloecenodbaaB8
import Derived.Test.YteonloecenodbaaB9
import Derived.Test.YteonloecenodbaaB1
import Derived.Test.YteonloecenodbaaB0
import Derived.ProofKit
import Derived.OpenShut
import Derived.DataReads
import Derived.Deep.Slices
import Derived.SizedLaws
import Derived.ChangeOld
/- InterpEqual: the walk, where both states are few (written by gen_ieq.py). -/
namespace Go.Proofs.Yteonloecenodbaa.PX
open Go.RowKit Go.Shelf Go.Proofs.YteonloecenodbaaW.PrintWords Go.Proofs.YteonloecenodbaaW.PrintLast Go.Proofs.YteonloecenodbaaW.PrintMore
set_option linter.unusedVariables false
set_option linter.unusedSimpArgs false
/-- The arguments as they lie. -/
structure Ar (w : World) (A0 A1 A2 A3 A4 A5 A6 A7 : Option Addr) (c0 c1 c2 c3 c4 c5 c6 c7 : Nat) (ag ac bg bc : List (List Int)) (e0 : List Int) (o0 : List S110) (e1 : List Int) (o1 : List S110) : Prop where
  h0 : Kd.C (Kd.slice 29 (Kd.int .i16)) w A0 ag.length ag
  h1 : Kd.C (Kd.slice 29 (Kd.int .i16)) w A1 ac.length ac
  h2 : Kd.C (Kd.slice 29 (Kd.int .i16)) w A2 bg.length bg
  h3 : Kd.C (Kd.slice 29 (Kd.int .i16)) w A3 bc.length bc
  h4 : Kd.C (Kd.int .i16) w A4 e0.length e0
  h5 : Kd.C k110 w A5 o0.length o0
  h6 : Kd.C (Kd.int .i16) w A6 e1.length e1
  h7 : Kd.C k110 w A7 o1.length o1
  k0 : ag.length ≤ c0
  k1 : ac.length ≤ c1
  k2 : bg.length ≤ c2
  k3 : bc.length ≤ c3
  k4 : e0.length ≤ c4
  k5 : o0.length ≤ c5
  k6 : e1.length ≤ c6
  k7 : o1.length ≤ c7
theorem Ar.up {w W : World} {A0 A1 A2 A3 A4 A5 A6 A7 : Option Addr} {c0 c1 c2 c3 c4 c5 c6 c7 : Nat} {ag ac bg bc : List (List Int)} {e0 : List Int} {o0 : List S110} {e1 : List Int} {o1 : List S110}
    (h : Ar w A0 A1 A2 A3 A4 A5 A6 A7 c0 c1 c2 c3 c4 c5 c6 c7 ag ac bg bc e0 o0 e1 o1) (hb : Below w.heap.size w W) : Ar W A0 A1 A2 A3 A4 A5 A6 A7 c0 c1 c2 c3 c4 c5 c6 c7 ag ac bg bc e0 o0 e1 o1 :=
  ⟨Kd.C_below h.h0 hb, Kd.C_below h.h1 hb, Kd.C_below h.h2 hb, Kd.C_below h.h3 hb, Kd.C_below h.h4 hb, Kd.C_below h.h5 hb, Kd.C_below h.h6 hb, Kd.C_below h.h7 hb, h.k0, h.k1, h.k2, h.k3, h.k4, h.k5, h.k6, h.k7⟩
abbrev S100 (e0 : List Int) (o0 : List S110) (e1 : List Int) (o1 : List S110) : Int := wrap64 (wrap64 (wrap64 ((e0.length : Int) + (o0.length : Int)) + (e1.length : Int)) + (o1.length : Int))
set_option maxRecDepth 100000 in
set_option maxHeartbeats 8000000 in
theorem ie_few0 (k : Nat) (A0 A1 A2 A3 A4 A5 A6 A7 : Option Addr) (c0 c1 c2 c3 c4 c5 c6 c7 : Nat) (ag ac bg bc : List (List Int)) (e0 : List Int) (o0 : List S110) (d0 : Int) (e1 : List Int) (o1 : List S110) (d1 : Int) (w : World)
    (hA : Ar w A0 A1 A2 A3 A4 A5 A6 A7 c0 c1 c2 c3 c4 c5 c6 c7 ag ac bg bc e0 o0 e1 o1)
    (hfa : trickleref19_Few.f k ag ac = some false) :
    Calls Try.prog 7 #[.agg #[.slice A0 ag.length c0, .slice A1 ac.length c1], .agg #[.slice A2 bg.length c2, .slice A3 bc.length c3], .agg #[.slice A4 e0.length c4, .slice A5 o0.length c5, .int .i64 d0, .slice A6 e1.length c6, .slice A7 o1.length c7, .int .i64 d1]] w fun e w' => e = .returned (.bool true) ∧ Below w.heap.size w w' := by
  have HA := Aside0.mk hA
  have hu32 := Try.underlying32
  have hu41 := Try.underlying41
  have hu65 := Try.underlying65
  have HFA := Aside0.mk hfa
  clear hA hfa
  go_enter Try.func7, Try.ntmps7
  go_wp2_with (first
    | (go_at_call 21; refine (trickleref19_Few.calls k A0 c0 ag A1 c1 ac false _ (HA.out.up HB_4.out).h0 HA.out.k0 (HA.out.up HB_4.out).h1 HA.out.k1 HFA.out).mono ?_; rintro e w5 ⟨rfl, hb⟩; have BK3_5 := Aside0.mk (blk_below BK3_4.out hb); have BK4_5 := Aside0.mk (blk_below BK4_4.out hb); have BK5_5 := Aside0.mk (blk_below BK5_4.out hb); have HB_5 := Aside0.mk (below_step HB_4.out hb); clear z3_0 z3_1 z4_0 z4_1 z5_0 z5_1 z5_2 z5_3 z5_4 z5_5; have z3_0 : w5.cell? ⟨gb3, 0, none⟩ = some (.slice A0 ag.length c0) := (blk_cell BK3_5.out 0).trans rfl; have z3_1 : w5.cell? ⟨gb3, 1, none⟩ = some (.slice A1 ac.length c1) := (blk_cell BK3_5.out 1).trans rfl; have z4_0 : w5.cell? ⟨gb4, 0, none⟩ = some (.slice A2 bg.length c2) := (blk_cell BK4_5.out 0).trans rfl; have z4_1 : w5.cell? ⟨gb4, 1, none⟩ = some (.slice A3 bc.length c3) := (blk_cell BK4_5.out 1).trans rfl; have z5_0 : w5.cell? ⟨gb5, 0, none⟩ = some (.slice A4 e0.length c4) := (blk_cell BK5_5.out 0).trans rfl; have z5_1 : w5.cell? ⟨gb5, 1, none⟩ = some (.slice A5 o0.length c5) := (blk_cell BK5_5.out 1).trans rfl; have z5_2 : w5.cell? ⟨gb5, 2, none⟩ = some (.int .i64 d0) := (blk_cell BK5_5.out 2).trans rfl; have z5_3 : w5.cell? ⟨gb5, 3, none⟩ = some (.slice A6 e1.length c6) := (blk_cell BK5_5.out 3).trans rfl; have z5_4 : w5.cell? ⟨gb5, 4, none⟩ = some (.slice A7 o1.length c7) := (blk_cell BK5_5.out 4).trans rfl; have z5_5 : w5.cell? ⟨gb5, 5, none⟩ = some (.int .i64 d1) := (blk_cell BK5_5.out 5).trans rfl; clear hb)
    | (go_at_call 11; refine (wakes_calls _).mono ?_; rintro e w4 ⟨rfl, hb⟩; have BK3_4 := Aside0.mk (blk_below BK3_3.out hb); have BK4_4 := Aside0.mk (blk_below BK4_3.out hb); have BK5_4 := Aside0.mk (blk_below BK5_3.out hb); have HB_4 := Aside0.mk (below_step HB_3.out hb); clear z3_0 z3_1 z4_0 z4_1 z5_0 z5_1 z5_2 z5_3 z5_4 z5_5; have z3_0 : w4.cell? ⟨gb3, 0, none⟩ = some (.slice A0 ag.length c0) := (blk_cell BK3_4.out 0).trans rfl; have z3_1 : w4.cell? ⟨gb3, 1, none⟩ = some (.slice A1 ac.length c1) := (blk_cell BK3_4.out 1).trans rfl; have z4_0 : w4.cell? ⟨gb4, 0, none⟩ = some (.slice A2 bg.length c2) := (blk_cell BK4_4.out 0).trans rfl; have z4_1 : w4.cell? ⟨gb4, 1, none⟩ = some (.slice A3 bc.length c3) := (blk_cell BK4_4.out 1).trans rfl; have z5_0 : w4.cell? ⟨gb5, 0, none⟩ = some (.slice A4 e0.length c4) := (blk_cell BK5_4.out 0).trans rfl; have z5_1 : w4.cell? ⟨gb5, 1, none⟩ = some (.slice A5 o0.length c5) := (blk_cell BK5_4.out 1).trans rfl; have z5_2 : w4.cell? ⟨gb5, 2, none⟩ = some (.int .i64 d0) := (blk_cell BK5_4.out 2).trans rfl; have z5_3 : w4.cell? ⟨gb5, 3, none⟩ = some (.slice A6 e1.length c6) := (blk_cell BK5_4.out 3).trans rfl; have z5_4 : w4.cell? ⟨gb5, 4, none⟩ = some (.slice A7 o1.length c7) := (blk_cell BK5_4.out 4).trans rfl; have z5_5 : w4.cell? ⟨gb5, 5, none⟩ = some (.int .i64 d1) := (blk_cell BK5_4.out 5).trans rfl; clear hb)
    | ((with_reducible refine gate_dst (N := 5) rfl ?_); refine box_event ?hg (N := 5) ?hd (cs := #[.slice A4 e0.length c4, .slice A5 o0.length c5, .int .i64 d0, .slice A6 e1.length c6, .slice A7 o1.length c7, .int .i64 d1]) (t := 65) ?hr ?_; (case hd => rfl); (case hg => rfl); (case hr => first | (go_simp; done) | (go_simp; rfl)); intro gb5 hg w3 hbox hb; have BK3_3 := Aside0.mk (blk_below BK3_2.out hb); have BK4_3 := Aside0.mk (blk_below BK4_2.out hb); have HB_3 := Aside0.mk (below_step HB_2.out hb); have BK5_3 := Aside0.mk hbox; have GE5 := Aside0.mk ((by rw [hg]; exact (HB_2.out).size) : w.heap.size ≤ gb5); have NE3_5 := Aside0.mk ((by rw [hg]; exact Nat.ne_of_lt (blk_lt BK3_2.out)) : gb3 ≠ gb5); have NE4_5 := Aside0.mk ((by rw [hg]; exact Nat.ne_of_lt (blk_lt BK4_2.out)) : gb4 ≠ gb5); clear z3_0 z3_1 z4_0 z4_1; have z3_0 : w3.cell? ⟨gb3, 0, none⟩ = some (.slice A0 ag.length c0) := (blk_cell BK3_3.out 0).trans rfl; have z3_1 : w3.cell? ⟨gb3, 1, none⟩ = some (.slice A1 ac.length c1) := (blk_cell BK3_3.out 1).trans rfl; have z4_0 : w3.cell? ⟨gb4, 0, none⟩ = some (.slice A2 bg.length c2) := (blk_cell BK4_3.out 0).trans rfl; have z4_1 : w3.cell? ⟨gb4, 1, none⟩ = some (.slice A3 bc.length c3) := (blk_cell BK4_3.out 1).trans rfl; have z5_0 : w3.cell? ⟨gb5, 0, none⟩ = some (.slice A4 e0.length c4) := (blk_cell BK5_3.out 0).trans rfl; have z5_1 : w3.cell? ⟨gb5, 1, none⟩ = some (.slice A5 o0.length c5) := (blk_cell BK5_3.out 1).trans rfl; have z5_2 : w3.cell? ⟨gb5, 2, none⟩ = some (.int .i64 d0) := (blk_cell BK5_3.out 2).trans rfl; have z5_3 : w3.cell? ⟨gb5, 3, none⟩ = some (.slice A6 e1.length c6) := (blk_cell BK5_3.out 3).trans rfl; have z5_4 : w3.cell? ⟨gb5, 4, none⟩ = some (.slice A7 o1.length c7) := (blk_cell BK5_3.out 4).trans rfl; have z5_5 : w3.cell? ⟨gb5, 5, none⟩ = some (.int .i64 d1) := (blk_cell BK5_3.out 5).trans rfl; clear hb hbox hg)
    | ((with_reducible refine gate_dst (N := 4) rfl ?_); refine box_event ?hg (N := 4) ?hd (cs := #[.slice A2 bg.length c2, .slice A3 bc.length c3]) (t := 32) ?hr ?_; (case hd => rfl); (case hg => rfl); (case hr => first | (go_simp; done) | (go_simp; rfl)); intro gb4 hg w2 hbox hb; have BK3_2 := Aside0.mk (blk_below BK3_1.out hb); have HB_2 := Aside0.mk (below_step HB_1.out hb); have BK4_2 := Aside0.mk hbox; have GE4 := Aside0.mk ((by rw [hg]; exact (HB_1.out).size) : w.heap.size ≤ gb4); have NE3_4 := Aside0.mk ((by rw [hg]; exact Nat.ne_of_lt (blk_lt BK3_1.out)) : gb3 ≠ gb4); clear z3_0 z3_1; have z3_0 : w2.cell? ⟨gb3, 0, none⟩ = some (.slice A0 ag.length c0) := (blk_cell BK3_2.out 0).trans rfl; have z3_1 : w2.cell? ⟨gb3, 1, none⟩ = some (.slice A1 ac.length c1) := (blk_cell BK3_2.out 1).trans rfl; have z4_0 : w2.cell? ⟨gb4, 0, none⟩ = some (.slice A2 bg.length c2) := (blk_cell BK4_2.out 0).trans rfl; have z4_1 : w2.cell? ⟨gb4, 1, none⟩ = some (.slice A3 bc.length c3) := (blk_cell BK4_2.out 1).trans rfl; clear hb hbox hg)
    | ((with_reducible refine gate_dst (N := 3) rfl ?_); refine box_event ?hg (N := 3) ?hd (cs := #[.slice A0 ag.length c0, .slice A1 ac.length c1]) (t := 32) ?hr ?_; (case hd => rfl); (case hg => rfl); (case hr => first | (go_simp; done) | (go_simp; rfl)); intro gb3 hg w1 hbox hb; have HB_1 := Aside0.mk hb; have BK3_1 := Aside0.mk hbox; have GE3 := Aside0.mk ((by rw [hg]; exact Nat.le_refl _) : w.heap.size ≤ gb3); have z3_0 : w1.cell? ⟨gb3, 0, none⟩ = some (.slice A0 ag.length c0) := (blk_cell BK3_1.out 0).trans rfl; have z3_1 : w1.cell? ⟨gb3, 1, none⟩ = some (.slice A1 ac.length c1) := (blk_cell BK3_1.out 1).trans rfl; clear hb hbox hg))
  go_ret
  exact ⟨rfl, HB_5.out⟩
set_option maxRecDepth 100000 in
set_option maxHeartbeats 8000000 in
theorem ie_few1 (k : Nat) (A0 A1 A2 A3 A4 A5 A6 A7 : Option Addr) (c0 c1 c2 c3 c4 c5 c6 c7 : Nat) (ag ac bg bc : List (List Int)) (e0 : List Int) (o0 : List S110) (d0 : Int) (e1 : List Int) (o1 : List S110) (d1 : Int) (w : World)
    (hA : Ar w A0 A1 A2 A3 A4 A5 A6 A7 c0 c1 c2 c3 c4 c5 c6 c7 ag ac bg bc e0 o0 e1 o1)
    (hfa : trickleref19_Few.f k ag ac = some true) (hfb : trickleref19_Few.f k bg bc = some false) :
    Calls Try.prog 7 #[.agg #[.slice A0 ag.length c0, .slice A1 ac.length c1], .agg #[.slice A2 bg.length c2, .slice A3 bc.length c3], .agg #[.slice A4 e0.length c4, .slice A5 o0.length c5, .int .i64 d0, .slice A6 e1.length c6, .slice A7 o1.length c7, .int .i64 d1]] w fun e w' => e = .returned (.bool true) ∧ Below w.heap.size w w' := by
  have HA := Aside0.mk hA
  have hu32 := Try.underlying32
  have hu41 := Try.underlying41
  have hu65 := Try.underlying65
  have HFA := Aside0.mk hfa
  have HFB := Aside0.mk hfb
  clear hA hfa hfb
  go_enter Try.func7, Try.ntmps7
  go_wp2_with (first
    | (go_at_call 21; refine (trickleref19_Few.calls k A2 c2 bg A3 c3 bc false _ (HA.out.up HB_5.out).h2 HA.out.k2 (HA.out.up HB_5.out).h3 HA.out.k3 HFB.out).mono ?_; rintro e w6 ⟨rfl, hb⟩; have BK3_6 := Aside0.mk (blk_below BK3_5.out hb); have BK4_6 := Aside0.mk (blk_below BK4_5.out hb); have BK5_6 := Aside0.mk (blk_below BK5_5.out hb); have HB_6 := Aside0.mk (below_step HB_5.out hb); clear z3_0 z3_1 z4_0 z4_1 z5_0 z5_1 z5_2 z5_3 z5_4 z5_5; have z3_0 : w6.cell? ⟨gb3, 0, none⟩ = some (.slice A0 ag.length c0) := (blk_cell BK3_6.out 0).trans rfl; have z3_1 : w6.cell? ⟨gb3, 1, none⟩ = some (.slice A1 ac.length c1) := (blk_cell BK3_6.out 1).trans rfl; have z4_0 : w6.cell? ⟨gb4, 0, none⟩ = some (.slice A2 bg.length c2) := (blk_cell BK4_6.out 0).trans rfl; have z4_1 : w6.cell? ⟨gb4, 1, none⟩ = some (.slice A3 bc.length c3) := (blk_cell BK4_6.out 1).trans rfl; have z5_0 : w6.cell? ⟨gb5, 0, none⟩ = some (.slice A4 e0.length c4) := (blk_cell BK5_6.out 0).trans rfl; have z5_1 : w6.cell? ⟨gb5, 1, none⟩ = some (.slice A5 o0.length c5) := (blk_cell BK5_6.out 1).trans rfl; have z5_2 : w6.cell? ⟨gb5, 2, none⟩ = some (.int .i64 d0) := (blk_cell BK5_6.out 2).trans rfl; have z5_3 : w6.cell? ⟨gb5, 3, none⟩ = some (.slice A6 e1.length c6) := (blk_cell BK5_6.out 3).trans rfl; have z5_4 : w6.cell? ⟨gb5, 4, none⟩ = some (.slice A7 o1.length c7) := (blk_cell BK5_6.out 4).trans rfl; have z5_5 : w6.cell? ⟨gb5, 5, none⟩ = some (.int .i64 d1) := (blk_cell BK5_6.out 5).trans rfl; clear hb)
    | (go_at_call 21; refine (trickleref19_Few.calls k A0 c0 ag A1 c1 ac true _ (HA.out.up HB_4.out).h0 HA.out.k0 (HA.out.up HB_4.out).h1 HA.out.k1 HFA.out).mono ?_; rintro e w5 ⟨rfl, hb⟩; have BK3_5 := Aside0.mk (blk_below BK3_4.out hb); have BK4_5 := Aside0.mk (blk_below BK4_4.out hb); have BK5_5 := Aside0.mk (blk_below BK5_4.out hb); have HB_5 := Aside0.mk (below_step HB_4.out hb); clear z3_0 z3_1 z4_0 z4_1 z5_0 z5_1 z5_2 z5_3 z5_4 z5_5; have z3_0 : w5.cell? ⟨gb3, 0, none⟩ = some (.slice A0 ag.length c0) := (blk_cell BK3_5.out 0).trans rfl; have z3_1 : w5.cell? ⟨gb3, 1, none⟩ = some (.slice A1 ac.length c1) := (blk_cell BK3_5.out 1).trans rfl; have z4_0 : w5.cell? ⟨gb4, 0, none⟩ = some (.slice A2 bg.length c2) := (blk_cell BK4_5.out 0).trans rfl; have z4_1 : w5.cell? ⟨gb4, 1, none⟩ = some (.slice A3 bc.length c3) := (blk_cell BK4_5.out 1).trans rfl; have z5_0 : w5.cell? ⟨gb5, 0, none⟩ = some (.slice A4 e0.length c4) := (blk_cell BK5_5.out 0).trans rfl; have z5_1 : w5.cell? ⟨gb5, 1, none⟩ = some (.slice A5 o0.length c5) := (blk_cell BK5_5.out 1).trans rfl; have z5_2 : w5.cell? ⟨gb5, 2, none⟩ = some (.int .i64 d0) := (blk_cell BK5_5.out 2).trans rfl; have z5_3 : w5.cell? ⟨gb5, 3, none⟩ = some (.slice A6 e1.length c6) := (blk_cell BK5_5.out 3).trans rfl; have z5_4 : w5.cell? ⟨gb5, 4, none⟩ = some (.slice A7 o1.length c7) := (blk_cell BK5_5.out 4).trans rfl; have z5_5 : w5.cell? ⟨gb5, 5, none⟩ = some (.int .i64 d1) := (blk_cell BK5_5.out 5).trans rfl; clear hb)
    | (go_at_call 11; refine (wakes_calls _).mono ?_; rintro e w4 ⟨rfl, hb⟩; have BK3_4 := Aside0.mk (blk_below BK3_3.out hb); have BK4_4 := Aside0.mk (blk_below BK4_3.out hb); have BK5_4 := Aside0.mk (blk_below BK5_3.out hb); have HB_4 := Aside0.mk (below_step HB_3.out hb); clear z3_0 z3_1 z4_0 z4_1 z5_0 z5_1 z5_2 z5_3 z5_4 z5_5; have z3_0 : w4.cell? ⟨gb3, 0, none⟩ = some (.slice A0 ag.length c0) := (blk_cell BK3_4.out 0).trans rfl; have z3_1 : w4.cell? ⟨gb3, 1, none⟩ = some (.slice A1 ac.length c1) := (blk_cell BK3_4.out 1).trans rfl; have z4_0 : w4.cell? ⟨gb4, 0, none⟩ = some (.slice A2 bg.length c2) := (blk_cell BK4_4.out 0).trans rfl; have z4_1 : w4.cell? ⟨gb4, 1, none⟩ = some (.slice A3 bc.length c3) := (blk_cell BK4_4.out 1).trans rfl; have z5_0 : w4.cell? ⟨gb5, 0, none⟩ = some (.slice A4 e0.length c4) := (blk_cell BK5_4.out 0).trans rfl; have z5_1 : w4.cell? ⟨gb5, 1, none⟩ = some (.slice A5 o0.length c5) := (blk_cell BK5_4.out 1).trans rfl; have z5_2 : w4.cell? ⟨gb5, 2, none⟩ = some (.int .i64 d0) := (blk_cell BK5_4.out 2).trans rfl; have z5_3 : w4.cell? ⟨gb5, 3, none⟩ = some (.slice A6 e1.length c6) := (blk_cell BK5_4.out 3).trans rfl; have z5_4 : w4.cell? ⟨gb5, 4, none⟩ = some (.slice A7 o1.length c7) := (blk_cell BK5_4.out 4).trans rfl; have z5_5 : w4.cell? ⟨gb5, 5, none⟩ = some (.int .i64 d1) := (blk_cell BK5_4.out 5).trans rfl; clear hb)
    | ((with_reducible refine gate_dst (N := 5) rfl ?_); refine box_event ?hg (N := 5) ?hd (cs := #[.slice A4 e0.length c4, .slice A5 o0.length c5, .int .i64 d0, .slice A6 e1.length c6, .slice A7 o1.length c7, .int .i64 d1]) (t := 65) ?hr ?_; (case hd => rfl); (case hg => rfl); (case hr => first | (go_simp; done) | (go_simp; rfl)); intro gb5 hg w3 hbox hb; have BK3_3 := Aside0.mk (blk_below BK3_2.out hb); have BK4_3 := Aside0.mk (blk_below BK4_2.out hb); have HB_3 := Aside0.mk (below_step HB_2.out hb); have BK5_3 := Aside0.mk hbox; have GE5 := Aside0.mk ((by rw [hg]; exact (HB_2.out).size) : w.heap.size ≤ gb5); have NE3_5 := Aside0.mk ((by rw [hg]; exact Nat.ne_of_lt (blk_lt BK3_2.out)) : gb3 ≠ gb5); have NE4_5 := Aside0.mk ((by rw [hg]; exact Nat.ne_of_lt (blk_lt BK4_2.out)) : gb4 ≠ gb5); clear z3_0 z3_1 z4_0 z4_1; have z3_0 : w3.cell? ⟨gb3, 0, none⟩ = some (.slice A0 ag.length c0) := (blk_cell BK3_3.out 0).trans rfl; have z3_1 : w3.cell? ⟨gb3, 1, none⟩ = some (.slice A1 ac.length c1) := (blk_cell BK3_3.out 1).trans rfl; have z4_0 : w3.cell? ⟨gb4, 0, none⟩ = some (.slice A2 bg.length c2) := (blk_cell BK4_3.out 0).trans rfl; have z4_1 : w3.cell? ⟨gb4, 1, none⟩ = some (.slice A3 bc.length c3) := (blk_cell BK4_3.out 1).trans rfl; have z5_0 : w3.cell? ⟨gb5, 0, none⟩ = some (.slice A4 e0.length c4) := (blk_cell BK5_3.out 0).trans rfl; have z5_1 : w3.cell? ⟨gb5, 1, none⟩ = some (.slice A5 o0.length c5) := (blk_cell BK5_3.out 1).trans rfl; have z5_2 : w3.cell? ⟨gb5, 2, none⟩ = some (.int .i64 d0) := (blk_cell BK5_3.out 2).trans rfl; have z5_3 : w3.cell? ⟨gb5, 3, none⟩ = some (.slice A6 e1.length c6) := (blk_cell BK5_3.out 3).trans rfl; have z5_4 : w3.cell? ⟨gb5, 4, none⟩ = some (.slice A7 o1.length c7) := (blk_cell BK5_3.out 4).trans rfl; have z5_5 : w3.cell? ⟨gb5, 5, none⟩ = some (.int .i64 d1) := (blk_cell BK5_3.out 5).trans rfl; clear hb hbox hg)
    | ((with_reducible refine gate_dst (N := 4) rfl ?_); refine box_event ?hg (N := 4) ?hd (cs := #[.slice A2 bg.length c2, .slice A3 bc.length c3]) (t := 32) ?hr ?_; (case hd => rfl); (case hg => rfl); (case hr => first | (go_simp; done) | (go_simp; rfl)); intro gb4 hg w2 hbox hb; have BK3_2 := Aside0.mk (blk_below BK3_1.out hb); have HB_2 := Aside0.mk (below_step HB_1.out hb); have BK4_2 := Aside0.mk hbox; have GE4 := Aside0.mk ((by rw [hg]; exact (HB_1.out).size) : w.heap.size ≤ gb4); have NE3_4 := Aside0.mk ((by rw [hg]; exact Nat.ne_of_lt (blk_lt BK3_1.out)) : gb3 ≠ gb4); clear z3_0 z3_1; have z3_0 : w2.cell? ⟨gb3, 0, none⟩ = some (.slice A0 ag.length c0) := (blk_cell BK3_2.out 0).trans rfl; have z3_1 : w2.cell? ⟨gb3, 1, none⟩ = some (.slice A1 ac.length c1) := (blk_cell BK3_2.out 1).trans rfl; have z4_0 : w2.cell? ⟨gb4, 0, none⟩ = some (.slice A2 bg.length c2) := (blk_cell BK4_2.out 0).trans rfl; have z4_1 : w2.cell? ⟨gb4, 1, none⟩ = some (.slice A3 bc.length c3) := (blk_cell BK4_2.out 1).trans rfl; clear hb hbox hg)
    | ((with_reducible refine gate_dst (N := 3) rfl ?_); refine box_event ?hg (N := 3) ?hd (cs := #[.slice A0 ag.length c0, .slice A1 ac.length c1]) (t := 32) ?hr ?_; (case hd => rfl); (case hg => rfl); (case hr => first | (go_simp; done) | (go_simp; rfl)); intro gb3 hg w1 hbox hb; have HB_1 := Aside0.mk hb; have BK3_1 := Aside0.mk hbox; have GE3 := Aside0.mk ((by rw [hg]; exact Nat.le_refl _) : w.heap.size ≤ gb3); have z3_0 : w1.cell? ⟨gb3, 0, none⟩ = some (.slice A0 ag.length c0) := (blk_cell BK3_1.out 0).trans rfl; have z3_1 : w1.cell? ⟨gb3, 1, none⟩ = some (.slice A1 ac.length c1) := (blk_cell BK3_1.out 1).trans rfl; clear hb hbox hg))
  go_ret
  exact ⟨rfl, HB_6.out⟩
set_option maxRecDepth 100000 in
set_option maxHeartbeats 8000000 in
theorem ie_hund (k : Nat) (A0 A1 A2 A3 A4 A5 A6 A7 : Option Addr) (c0 c1 c2 c3 c4 c5 c6 c7 : Nat) (ag ac bg bc : List (List Int)) (e0 : List Int) (o0 : List S110) (d0 : Int) (e1 : List Int) (o1 : List S110) (d1 : Int) (w : World)
    (hA : Ar w A0 A1 A2 A3 A4 A5 A6 A7 c0 c1 c2 c3 c4 c5 c6 c7 ag ac bg bc e0 o0 e1 o1)
    (hfa : trickleref19_Few.f k ag ac = some true) (hfb : trickleref19_Few.f k bg bc = some true) (h100 : 100 < S100 e0 o0 e1 o1) :
    Calls Try.prog 7 #[.agg #[.slice A0 ag.length c0, .slice A1 ac.length c1], .agg #[.slice A2 bg.length c2, .slice A3 bc.length c3], .agg #[.slice A4 e0.length c4, .slice A5 o0.length c5, .int .i64 d0, .slice A6 e1.length c6, .slice A7 o1.length c7, .int .i64 d1]] w fun e w' => e = .returned (.bool true) ∧ Below w.heap.size w w' := by
  have HA := Aside0.mk hA
  have hu32 := Try.underlying32
  have hu41 := Try.underlying41
  have hu65 := Try.underlying65
  have HFA := Aside0.mk hfa
  have HFB := Aside0.mk hfb
  clear hA hfa hfb
  go_enter Try.func7, Try.ntmps7
  go_wp2_with (first
    | (go_at_call 21; refine (trickleref19_Few.calls k A2 c2 bg A3 c3 bc true _ (HA.out.up HB_5.out).h2 HA.out.k2 (HA.out.up HB_5.out).h3 HA.out.k3 HFB.out).mono ?_; rintro e w6 ⟨rfl, hb⟩; have BK3_6 := Aside0.mk (blk_below BK3_5.out hb); have BK4_6 := Aside0.mk (blk_below BK4_5.out hb); have BK5_6 := Aside0.mk (blk_below BK5_5.out hb); have HB_6 := Aside0.mk (below_step HB_5.out hb); clear z3_0 z3_1 z4_0 z4_1 z5_0 z5_1 z5_2 z5_3 z5_4 z5_5; have z3_0 : w6.cell? ⟨gb3, 0, none⟩ = some (.slice A0 ag.length c0) := (blk_cell BK3_6.out 0).trans rfl; have z3_1 : w6.cell? ⟨gb3, 1, none⟩ = some (.slice A1 ac.length c1) := (blk_cell BK3_6.out 1).trans rfl; have z4_0 : w6.cell? ⟨gb4, 0, none⟩ = some (.slice A2 bg.length c2) := (blk_cell BK4_6.out 0).trans rfl; have z4_1 : w6.cell? ⟨gb4, 1, none⟩ = some (.slice A3 bc.length c3) := (blk_cell BK4_6.out 1).trans rfl; have z5_0 : w6.cell? ⟨gb5, 0, none⟩ = some (.slice A4 e0.length c4) := (blk_cell BK5_6.out 0).trans rfl; have z5_1 : w6.cell? ⟨gb5, 1, none⟩ = some (.slice A5 o0.length c5) := (blk_cell BK5_6.out 1).trans rfl; have z5_2 : w6.cell? ⟨gb5, 2, none⟩ = some (.int .i64 d0) := (blk_cell BK5_6.out 2).trans rfl; have z5_3 : w6.cell? ⟨gb5, 3, none⟩ = some (.slice A6 e1.length c6) := (blk_cell BK5_6.out 3).trans rfl; have z5_4 : w6.cell? ⟨gb5, 4, none⟩ = some (.slice A7 o1.length c7) := (blk_cell BK5_6.out 4).trans rfl; have z5_5 : w6.cell? ⟨gb5, 5, none⟩ = some (.int .i64 d1) := (blk_cell BK5_6.out 5).trans rfl; clear hb)
    | (go_at_call 21; refine (trickleref19_Few.calls k A0 c0 ag A1 c1 ac true _ (HA.out.up HB_4.out).h0 HA.out.k0 (HA.out.up HB_4.out).h1 HA.out.k1 HFA.out).mono ?_; rintro e w5 ⟨rfl, hb⟩; have BK3_5 := Aside0.mk (blk_below BK3_4.out hb); have BK4_5 := Aside0.mk (blk_below BK4_4.out hb); have BK5_5 := Aside0.mk (blk_below BK5_4.out hb); have HB_5 := Aside0.mk (below_step HB_4.out hb); clear z3_0 z3_1 z4_0 z4_1 z5_0 z5_1 z5_2 z5_3 z5_4 z5_5; have z3_0 : w5.cell? ⟨gb3, 0, none⟩ = some (.slice A0 ag.length c0) := (blk_cell BK3_5.out 0).trans rfl; have z3_1 : w5.cell? ⟨gb3, 1, none⟩ = some (.slice A1 ac.length c1) := (blk_cell BK3_5.out 1).trans rfl; have z4_0 : w5.cell? ⟨gb4, 0, none⟩ = some (.slice A2 bg.length c2) := (blk_cell BK4_5.out 0).trans rfl; have z4_1 : w5.cell? ⟨gb4, 1, none⟩ = some (.slice A3 bc.length c3) := (blk_cell BK4_5.out 1).trans rfl; have z5_0 : w5.cell? ⟨gb5, 0, none⟩ = some (.slice A4 e0.length c4) := (blk_cell BK5_5.out 0).trans rfl; have z5_1 : w5.cell? ⟨gb5, 1, none⟩ = some (.slice A5 o0.length c5) := (blk_cell BK5_5.out 1).trans rfl; have z5_2 : w5.cell? ⟨gb5, 2, none⟩ = some (.int .i64 d0) := (blk_cell BK5_5.out 2).trans rfl; have z5_3 : w5.cell? ⟨gb5, 3, none⟩ = some (.slice A6 e1.length c6) := (blk_cell BK5_5.out 3).trans rfl; have z5_4 : w5.cell? ⟨gb5, 4, none⟩ = some (.slice A7 o1.length c7) := (blk_cell BK5_5.out 4).trans rfl; have z5_5 : w5.cell? ⟨gb5, 5, none⟩ = some (.int .i64 d1) := (blk_cell BK5_5.out 5).trans rfl; clear hb)
    | (go_at_call 11; refine (wakes_calls _).mono ?_; rintro e w4 ⟨rfl, hb⟩; have BK3_4 := Aside0.mk (blk_below BK3_3.out hb); have BK4_4 := Aside0.mk (blk_below BK4_3.out hb); have BK5_4 := Aside0.mk (blk_below BK5_3.out hb); have HB_4 := Aside0.mk (below_step HB_3.out hb); clear z3_0 z3_1 z4_0 z4_1 z5_0 z5_1 z5_2 z5_3 z5_4 z5_5; have z3_0 : w4.cell? ⟨gb3, 0, none⟩ = some (.slice A0 ag.length c0) := (blk_cell BK3_4.out 0).trans rfl; have z3_1 : w4.cell? ⟨gb3, 1, none⟩ = some (.slice A1 ac.length c1) := (blk_cell BK3_4.out 1).trans rfl; have z4_0 : w4.cell? ⟨gb4, 0, none⟩ = some (.slice A2 bg.length c2) := (blk_cell BK4_4.out 0).trans rfl; have z4_1 : w4.cell? ⟨gb4, 1, none⟩ = some (.slice A3 bc.length c3) := (blk_cell BK4_4.out 1).trans rfl; have z5_0 : w4.cell? ⟨gb5, 0, none⟩ = some (.slice A4 e0.length c4) := (blk_cell BK5_4.out 0).trans rfl; have z5_1 : w4.cell? ⟨gb5, 1, none⟩ = some (.slice A5 o0.length c5) := (blk_cell BK5_4.out 1).trans rfl; have z5_2 : w4.cell? ⟨gb5, 2, none⟩ = some (.int .i64 d0) := (blk_cell BK5_4.out 2).trans rfl; have z5_3 : w4.cell? ⟨gb5, 3, none⟩ = some (.slice A6 e1.length c6) := (blk_cell BK5_4.out 3).trans rfl; have z5_4 : w4.cell? ⟨gb5, 4, none⟩ = some (.slice A7 o1.length c7) := (blk_cell BK5_4.out 4).trans rfl; have z5_5 : w4.cell? ⟨gb5, 5, none⟩ = some (.int .i64 d1) := (blk_cell BK5_4.out 5).trans rfl; clear hb)
    | ((with_reducible refine gate_dst (N := 5) rfl ?_); refine box_event ?hg (N := 5) ?hd (cs := #[.slice A4 e0.length c4, .slice A5 o0.length c5, .int .i64 d0, .slice A6 e1.length c6, .slice A7 o1.length c7, .int .i64 d1]) (t := 65) ?hr ?_; (case hd => rfl); (case hg => rfl); (case hr => first | (go_simp; done) | (go_simp; rfl)); intro gb5 hg w3 hbox hb; have BK3_3 := Aside0.mk (blk_below BK3_2.out hb); have BK4_3 := Aside0.mk (blk_below BK4_2.out hb); have HB_3 := Aside0.mk (below_step HB_2.out hb); have BK5_3 := Aside0.mk hbox; have GE5 := Aside0.mk ((by rw [hg]; exact (HB_2.out).size) : w.heap.size ≤ gb5); have NE3_5 := Aside0.mk ((by rw [hg]; exact Nat.ne_of_lt (blk_lt BK3_2.out)) : gb3 ≠ gb5); have NE4_5 := Aside0.mk ((by rw [hg]; exact Nat.ne_of_lt (blk_lt BK4_2.out)) : gb4 ≠ gb5); clear z3_0 z3_1 z4_0 z4_1; have z3_0 : w3.cell? ⟨gb3, 0, none⟩ = some (.slice A0 ag.length c0) := (blk_cell BK3_3.out 0).trans rfl; have z3_1 : w3.cell? ⟨gb3, 1, none⟩ = some (.slice A1 ac.length c1) := (blk_cell BK3_3.out 1).trans rfl; have z4_0 : w3.cell? ⟨gb4, 0, none⟩ = some (.slice A2 bg.length c2) := (blk_cell BK4_3.out 0).trans rfl; have z4_1 : w3.cell? ⟨gb4, 1, none⟩ = some (.slice A3 bc.length c3) := (blk_cell BK4_3.out 1).trans rfl; have z5_0 : w3.cell? ⟨gb5, 0, none⟩ = some (.slice A4 e0.length c4) := (blk_cell BK5_3.out 0).trans rfl; have z5_1 : w3.cell? ⟨gb5, 1, none⟩ = some (.slice A5 o0.length c5) := (blk_cell BK5_3.out 1).trans rfl; have z5_2 : w3.cell? ⟨gb5, 2, none⟩ = some (.int .i64 d0) := (blk_cell BK5_3.out 2).trans rfl; have z5_3 : w3.cell? ⟨gb5, 3, none⟩ = some (.slice A6 e1.length c6) := (blk_cell BK5_3.out 3).trans rfl; have z5_4 : w3.cell? ⟨gb5, 4, none⟩ = some (.slice A7 o1.length c7) := (blk_cell BK5_3.out 4).trans rfl; have z5_5 : w3.cell? ⟨gb5, 5, none⟩ = some (.int .i64 d1) := (blk_cell BK5_3.out 5).trans rfl; clear hb hbox hg)
    | ((with_reducible refine gate_dst (N := 4) rfl ?_); refine box_event ?hg (N := 4) ?hd (cs := #[.slice A2 bg.length c2, .slice A3 bc.length c3]) (t := 32) ?hr ?_; (case hd => rfl); (case hg => rfl); (case hr => first | (go_simp; done) | (go_simp; rfl)); intro gb4 hg w2 hbox hb; have BK3_2 := Aside0.mk (blk_below BK3_1.out hb); have HB_2 := Aside0.mk (below_step HB_1.out hb); have BK4_2 := Aside0.mk hbox; have GE4 := Aside0.mk ((by rw [hg]; exact (HB_1.out).size) : w.heap.size ≤ gb4); have NE3_4 := Aside0.mk ((by rw [hg]; exact Nat.ne_of_lt (blk_lt BK3_1.out)) : gb3 ≠ gb4); clear z3_0 z3_1; have z3_0 : w2.cell? ⟨gb3, 0, none⟩ = some (.slice A0 ag.length c0) := (blk_cell BK3_2.out 0).trans rfl; have z3_1 : w2.cell? ⟨gb3, 1, none⟩ = some (.slice A1 ac.length c1) := (blk_cell BK3_2.out 1).trans rfl; have z4_0 : w2.cell? ⟨gb4, 0, none⟩ = some (.slice A2 bg.length c2) := (blk_cell BK4_2.out 0).trans rfl; have z4_1 : w2.cell? ⟨gb4, 1, none⟩ = some (.slice A3 bc.length c3) := (blk_cell BK4_2.out 1).trans rfl; clear hb hbox hg)
    | ((with_reducible refine gate_dst (N := 3) rfl ?_); refine box_event ?hg (N := 3) ?hd (cs := #[.slice A0 ag.length c0, .slice A1 ac.length c1]) (t := 32) ?hr ?_; (case hd => rfl); (case hg => rfl); (case hr => first | (go_simp; done) | (go_simp; rfl)); intro gb3 hg w1 hbox hb; have HB_1 := Aside0.mk hb; have BK3_1 := Aside0.mk hbox; have GE3 := Aside0.mk ((by rw [hg]; exact Nat.le_refl _) : w.heap.size ≤ gb3); have z3_0 : w1.cell? ⟨gb3, 0, none⟩ = some (.slice A0 ag.length c0) := (blk_cell BK3_1.out 0).trans rfl; have z3_1 : w1.cell? ⟨gb3, 1, none⟩ = some (.slice A1 ac.length c1) := (blk_cell BK3_1.out 1).trans rfl; clear hb hbox hg))
  go_ret
  exact ⟨rfl, HB_6.out⟩
set_option maxRecDepth 100000 in
set_option maxHeartbeats 8000000 in
theorem ie_main (k : Nat) (A0 A1 A2 A3 A4 A5 A6 A7 : Option Addr) (c0 c1 c2 c3 c4 c5 c6 c7 : Nat) (ag ac bg bc : List (List Int)) (e0 : List Int) (o0 : List S110) (d0 : Int) (e1 : List Int) (o1 : List S110) (d1 : Int) (w : World)
    (hA : Ar w A0 A1 A2 A3 A4 A5 A6 A7 c0 c1 c2 c3 c4 c5 c6 c7 ag ac bg bc e0 o0 e1 o1)
    (hfa : trickleref19_Few.f k ag ac = some true) (hfb : trickleref19_Few.f k bg bc = some true) (h100 : decide (100 < wrap64 (wrap64 (wrap64 ((e0.length : Int) + (o0.length : Int)) + (e1.length : Int)) + (o1.length : Int))) = false) (hcp : trickleref19_Copy.f k ag ac = some (ag, ac)) (hsz : (ag.length ≤ 100000 ∧ ac.length ≤ 100000) ∧ ∀ xs ∈ ag ++ ac, xs.length ≤ lim)
    (r1 r2 re : Bool) (hr1 : decide (ag = bg) = r1) (hr2 : decide (ac = bc) = r2) (hq1 : trickleref19_Equal.f k ag ac bg bc = some (r1 && r2)) (hq2 : trickleref19_Equal.f k ag ac ag ac = some true) (he1 : interp_EqualEffects.f k e0 o0 d0 e1 o1 d1 = some re) (he2 : trickleref19_EqualEffects.f k e0 o0 d0 e1 o1 d1 = some re) :
    Calls Try.prog 7 #[.agg #[.slice A0 ag.length c0, .slice A1 ac.length c1], .agg #[.slice A2 bg.length c2, .slice A3 bc.length c3], .agg #[.slice A4 e0.length c4, .slice A5 o0.length c5, .int .i64 d0, .slice A6 e1.length c6, .slice A7 o1.length c7, .int .i64 d1]] w fun e w' => e = .returned (.bool true) ∧ Below w.heap.size w w' := by
  have HA := Aside0.mk hA
  have hu32 := Try.underlying32
  have hu41 := Try.underlying41
  have hu65 := Try.underlying65
  have HSZ3 : Aside0 ((ag.length ≤ 1000000000 ∧ ∀ x ∈ ag, x.length ≤ 1000000000) ∧ (ac.length ≤ 1000000000 ∧ ∀ x ∈ ac, x.length ≤ 1000000000)) := ⟨⟨by omega, fun x hx => by have := hsz.2 x (List.mem_append_left _ hx); unfold lim at this; omega⟩, ⟨by omega, fun x hx => by have := hsz.2 x (List.mem_append_right _ hx); unfold lim at this; omega⟩⟩
  have HFA := Aside0.mk hfa
  have HFB := Aside0.mk hfb
  have HCP := Aside0.mk hcp
  have HSZ := Aside0.mk hsz
  have HQ1 := Aside0.mk hq1
  have HQ2 := Aside0.mk hq2
  have HE1 := Aside0.mk he1
  have HE2 := Aside0.mk he2
  have HR1 := Aside0.mk hr1
  have HR2 := Aside0.mk hr2
  clear hA hfa hfb hcp hsz hq1 hq2 he1 he2 hr1 hr2
  go_enter Try.func7, Try.ntmps7
  go_wp2_with (first
    | ((with_reducible refine gate_dst (N := 8) rfl ?_); refine box_event ?hg (N := 8) ?hd (cs := #[.slice none 0 0, .slice none 0 0]) (t := 32) ?hr ?_; (case hd => rfl); (case hg => rfl); (case hr => first | (go_simp; done) | (go_simp; rfl)); intro gb8 hg w11 hbox hb; have BK3_11 := Aside0.mk (blk_below BK3_10.out hb); have BK4_11 := Aside0.mk (blk_below BK4_10.out hb); have BK5_11 := Aside0.mk (blk_below BK5_10.out hb); have BK7_11 := Aside0.mk (blk_below BK7_10.out hb); have HB_11 := Aside0.mk (below_step HB_10.out hb); have BK8_11 := Aside0.mk hbox; have GE8 := Aside0.mk ((by rw [hg]; exact (HB_10.out).size) : w.heap.size ≤ gb8); have NE3_8 := Aside0.mk ((by rw [hg]; exact Nat.ne_of_lt (blk_lt BK3_10.out)) : gb3 ≠ gb8); have NE4_8 := Aside0.mk ((by rw [hg]; exact Nat.ne_of_lt (blk_lt BK4_10.out)) : gb4 ≠ gb8); have NE5_8 := Aside0.mk ((by rw [hg]; exact Nat.ne_of_lt (blk_lt BK5_10.out)) : gb5 ≠ gb8); have NE7_8 := Aside0.mk ((by rw [hg]; exact Nat.ne_of_lt (blk_lt BK7_10.out)) : gb7 ≠ gb8); clear z3_0 z3_1 z4_0 z4_1 z5_0 z5_1 z5_2 z5_3 z5_4 z5_5 z7_0 z7_1; have z3_0 : w11.cell? ⟨gb3, 0, none⟩ = some (.slice A0 ag.length c0) := (blk_cell BK3_11.out 0).trans rfl; have z3_1 : w11.cell? ⟨gb3, 1, none⟩ = some (.slice A1 ac.length c1) := (blk_cell BK3_11.out 1).trans rfl; have z4_0 : w11.cell? ⟨gb4, 0, none⟩ = some (.slice A2 bg.length c2) := (blk_cell BK4_11.out 0).trans rfl; have z4_1 : w11.cell? ⟨gb4, 1, none⟩ = some (.slice A3 bc.length c3) := (blk_cell BK4_11.out 1).trans rfl; have z5_0 : w11.cell? ⟨gb5, 0, none⟩ = some (.slice A4 e0.length c4) := (blk_cell BK5_11.out 0).trans rfl; have z5_1 : w11.cell? ⟨gb5, 1, none⟩ = some (.slice A5 o0.length c5) := (blk_cell BK5_11.out 1).trans rfl; have z5_2 : w11.cell? ⟨gb5, 2, none⟩ = some (.int .i64 d0) := (blk_cell BK5_11.out 2).trans rfl; have z5_3 : w11.cell? ⟨gb5, 3, none⟩ = some (.slice A6 e1.length c6) := (blk_cell BK5_11.out 3).trans rfl; have z5_4 : w11.cell? ⟨gb5, 4, none⟩ = some (.slice A7 o1.length c7) := (blk_cell BK5_11.out 4).trans rfl; have z5_5 : w11.cell? ⟨gb5, 5, none⟩ = some (.int .i64 d1) := (blk_cell BK5_11.out 5).trans rfl; have z7_0 : w11.cell? ⟨gb7, 0, none⟩ = some (.slice Aw0 ag.length cw0) := (blk_cell BK7_11.out 0).trans rfl; have z7_1 : w11.cell? ⟨gb7, 1, none⟩ = some (.slice Aw1 ac.length cw1) := (blk_cell BK7_11.out 1).trans rfl; have z8_0 : w11.cell? ⟨gb8, 0, none⟩ = some (.slice none 0 0) := (blk_cell BK8_11.out 0).trans rfl; have z8_1 : w11.cell? ⟨gb8, 1, none⟩ = some (.slice none 0 0) := (blk_cell BK8_11.out 1).trans rfl; have CA := Aside0.mk hb; have GG8 := Aside0.mk ((by rw [hg]; exact Nat.le_refl _) : w10.heap.size ≤ gb8); clear hb hbox hg; have f80 := blk_frozen BK8_11.out 0; have f81 := blk_frozen BK8_11.out 1)
    | (go_at_call 22; refine (copy_calls A0 A1 c0 c1 ag ac _ (HA.out.up HB_9.out).h0 (HA.out.up HB_9.out).h1 HSZ.out.1 HSZ.out.2).mono ?_; rintro e w10 ⟨G_, C_, rfl, ⟨gs, cs, hT⟩, hb⟩; have BK3_10 := Aside0.mk (blk_below BK3_9.out hb); have BK4_10 := Aside0.mk (blk_below BK4_9.out hb); have BK5_10 := Aside0.mk (blk_below BK5_9.out hb); have BK7_10 := Aside0.mk (blk_below BK7_9.out hb); have HB_10 := Aside0.mk (below_step HB_9.out hb); obtain ⟨AG, cG, rfl, hcG, _⟩ := Kd.Q_reads hT.qG.q; obtain ⟨AC, cC, rfl, hcC, _⟩ := Kd.Q_reads hT.qC.q; have HT := Aside0.mk hT; have HCO := Aside0.mk hb; clear hcG hcC hT; clear z3_0 z3_1 z4_0 z4_1 z5_0 z5_1 z5_2 z5_3 z5_4 z5_5 z7_0 z7_1; have z3_0 : w10.cell? ⟨gb3, 0, none⟩ = some (.slice A0 ag.length c0) := (blk_cell BK3_10.out 0).trans rfl; have z3_1 : w10.cell? ⟨gb3, 1, none⟩ = some (.slice A1 ac.length c1) := (blk_cell BK3_10.out 1).trans rfl; have z4_0 : w10.cell? ⟨gb4, 0, none⟩ = some (.slice A2 bg.length c2) := (blk_cell BK4_10.out 0).trans rfl; have z4_1 : w10.cell? ⟨gb4, 1, none⟩ = some (.slice A3 bc.length c3) := (blk_cell BK4_10.out 1).trans rfl; have z5_0 : w10.cell? ⟨gb5, 0, none⟩ = some (.slice A4 e0.length c4) := (blk_cell BK5_10.out 0).trans rfl; have z5_1 : w10.cell? ⟨gb5, 1, none⟩ = some (.slice A5 o0.length c5) := (blk_cell BK5_10.out 1).trans rfl; have z5_2 : w10.cell? ⟨gb5, 2, none⟩ = some (.int .i64 d0) := (blk_cell BK5_10.out 2).trans rfl; have z5_3 : w10.cell? ⟨gb5, 3, none⟩ = some (.slice A6 e1.length c6) := (blk_cell BK5_10.out 3).trans rfl; have z5_4 : w10.cell? ⟨gb5, 4, none⟩ = some (.slice A7 o1.length c7) := (blk_cell BK5_10.out 4).trans rfl; have z5_5 : w10.cell? ⟨gb5, 5, none⟩ = some (.int .i64 d1) := (blk_cell BK5_10.out 5).trans rfl; have z7_0 : w10.cell? ⟨gb7, 0, none⟩ = some (.slice Aw0 ag.length cw0) := (blk_cell BK7_10.out 0).trans rfl; have z7_1 : w10.cell? ⟨gb7, 1, none⟩ = some (.slice Aw1 ac.length cw1) := (blk_cell BK7_10.out 1).trans rfl; clear hb)
    | ((with_reducible refine gate_dst (N := 46) rfl ?_); have BK3_9 : Aside0 (((w8.setCell ⟨gb7, 0, none⟩ (.slice Aw0 ag.length cw0)).setCell ⟨gb7, 1, none⟩ (.slice Aw1 ac.length cw1)).heap[gb3]? = some (.cells #[.slice A0 ag.length c0, .slice A1 ac.length c1] 32 (0, 0))) := ⟨(Below.heap_setCell _ ⟨gb7, 1, none⟩ _ gb3 NE3_7.out).trans ((Below.heap_setCell _ ⟨gb7, 0, none⟩ _ gb3 NE3_7.out).trans BK3_8.out)⟩; have BK4_9 : Aside0 (((w8.setCell ⟨gb7, 0, none⟩ (.slice Aw0 ag.length cw0)).setCell ⟨gb7, 1, none⟩ (.slice Aw1 ac.length cw1)).heap[gb4]? = some (.cells #[.slice A2 bg.length c2, .slice A3 bc.length c3] 32 (0, 0))) := ⟨(Below.heap_setCell _ ⟨gb7, 1, none⟩ _ gb4 NE4_7.out).trans ((Below.heap_setCell _ ⟨gb7, 0, none⟩ _ gb4 NE4_7.out).trans BK4_8.out)⟩; have BK5_9 : Aside0 (((w8.setCell ⟨gb7, 0, none⟩ (.slice Aw0 ag.length cw0)).setCell ⟨gb7, 1, none⟩ (.slice Aw1 ac.length cw1)).heap[gb5]? = some (.cells #[.slice A4 e0.length c4, .slice A5 o0.length c5, .int .i64 d0, .slice A6 e1.length c6, .slice A7 o1.length c7, .int .i64 d1] 65 (0, 0))) := ⟨(Below.heap_setCell _ ⟨gb7, 1, none⟩ _ gb5 NE5_7.out).trans ((Below.heap_setCell _ ⟨gb7, 0, none⟩ _ gb5 NE5_7.out).trans BK5_8.out)⟩; have BK7_9 : Aside0 (((w8.setCell ⟨gb7, 0, none⟩ (.slice Aw0 ag.length cw0)).setCell ⟨gb7, 1, none⟩ (.slice Aw1 ac.length cw1)).heap[gb7]? = some (.cells #[.slice Aw0 ag.length cw0, .slice Aw1 ac.length cw1] 32 (0, 0))) := ⟨blk_set (blk_set BK7_8.out 0 _) 1 _⟩; have HB_9 : Aside0 (Below w.heap.size w ((w8.setCell ⟨gb7, 0, none⟩ (.slice Aw0 ag.length cw0)).setCell ⟨gb7, 1, none⟩ (.slice Aw1 ac.length cw1))) := ⟨below_set (below_set HB_8.out GE7.out) GE7.out⟩; have WB : Aside0 (Below w7.heap.size w7 ((w8.setCell ⟨gb7, 0, none⟩ (.slice Aw0 ag.length cw0)).setCell ⟨gb7, 1, none⟩ (.slice Aw1 ac.length cw1))) := ⟨below_set (below_set WA.out GG7.out) GG7.out⟩; have HV0 := Aside0.mk (Kd.C_below HW0.out WB.out); have HV1 := Aside0.mk (Kd.C_below HW1.out WB.out); clear WA WB HW0 HW1 f70 f71 BK7_8; clear z3_0 z3_1 z4_0 z4_1 z5_0 z5_1 z5_2 z5_3 z5_4 z5_5 z7_0 z7_1; generalize ((w8.setCell ⟨gb7, 0, none⟩ (.slice Aw0 ag.length cw0)).setCell ⟨gb7, 1, none⟩ (.slice Aw1 ac.length cw1)) = w9 at BK3_9 BK4_9 BK5_9 BK7_9 HB_9 HV0 HV1 ⊢; have z3_0 : w9.cell? ⟨gb3, 0, none⟩ = some (.slice A0 ag.length c0) := (blk_cell BK3_9.out 0).trans rfl; have z3_1 : w9.cell? ⟨gb3, 1, none⟩ = some (.slice A1 ac.length c1) := (blk_cell BK3_9.out 1).trans rfl; have z4_0 : w9.cell? ⟨gb4, 0, none⟩ = some (.slice A2 bg.length c2) := (blk_cell BK4_9.out 0).trans rfl; have z4_1 : w9.cell? ⟨gb4, 1, none⟩ = some (.slice A3 bc.length c3) := (blk_cell BK4_9.out 1).trans rfl; have z5_0 : w9.cell? ⟨gb5, 0, none⟩ = some (.slice A4 e0.length c4) := (blk_cell BK5_9.out 0).trans rfl; have z5_1 : w9.cell? ⟨gb5, 1, none⟩ = some (.slice A5 o0.length c5) := (blk_cell BK5_9.out 1).trans rfl; have z5_2 : w9.cell? ⟨gb5, 2, none⟩ = some (.int .i64 d0) := (blk_cell BK5_9.out 2).trans rfl; have z5_3 : w9.cell? ⟨gb5, 3, none⟩ = some (.slice A6 e1.length c6) := (blk_cell BK5_9.out 3).trans rfl; have z5_4 : w9.cell? ⟨gb5, 4, none⟩ = some (.slice A7 o1.length c7) := (blk_cell BK5_9.out 4).trans rfl; have z5_5 : w9.cell? ⟨gb5, 5, none⟩ = some (.int .i64 d1) := (blk_cell BK5_9.out 5).trans rfl; have z7_0 : w9.cell? ⟨gb7, 0, none⟩ = some (.slice Aw0 ag.length cw0) := (blk_cell BK7_9.out 0).trans rfl; have z7_1 : w9.cell? ⟨gb7, 1, none⟩ = some (.slice Aw1 ac.length cw1) := (blk_cell BK7_9.out 1).trans rfl)
    | ((with_reducible refine gate_dst (N := 7) rfl ?_); refine box_event ?hg (N := 7) ?hd (cs := #[.slice none 0 0, .slice none 0 0]) (t := 32) ?hr ?_; (case hd => rfl); (case hg => rfl); (case hr => first | (go_simp; done) | (go_simp; rfl)); intro gb7 hg w8 hbox hb; have BK3_8 := Aside0.mk (blk_below BK3_7.out hb); have BK4_8 := Aside0.mk (blk_below BK4_7.out hb); have BK5_8 := Aside0.mk (blk_below BK5_7.out hb); have HB_8 := Aside0.mk (below_step HB_7.out hb); have BK7_8 := Aside0.mk hbox; have GE7 := Aside0.mk ((by rw [hg]; exact (HB_7.out).size) : w.heap.size ≤ gb7); have NE3_7 := Aside0.mk ((by rw [hg]; exact Nat.ne_of_lt (blk_lt BK3_7.out)) : gb3 ≠ gb7); have NE4_7 := Aside0.mk ((by rw [hg]; exact Nat.ne_of_lt (blk_lt BK4_7.out)) : gb4 ≠ gb7); have NE5_7 := Aside0.mk ((by rw [hg]; exact Nat.ne_of_lt (blk_lt BK5_7.out)) : gb5 ≠ gb7); clear z3_0 z3_1 z4_0 z4_1 z5_0 z5_1 z5_2 z5_3 z5_4 z5_5; have z3_0 : w8.cell? ⟨gb3, 0, none⟩ = some (.slice A0 ag.length c0) := (blk_cell BK3_8.out 0).trans rfl; have z3_1 : w8.cell? ⟨gb3, 1, none⟩ = some (.slice A1 ac.length c1) := (blk_cell BK3_8.out 1).trans rfl; have z4_0 : w8.cell? ⟨gb4, 0, none⟩ = some (.slice A2 bg.length c2) := (blk_cell BK4_8.out 0).trans rfl; have z4_1 : w8.cell? ⟨gb4, 1, none⟩ = some (.slice A3 bc.length c3) := (blk_cell BK4_8.out 1).trans rfl; have z5_0 : w8.cell? ⟨gb5, 0, none⟩ = some (.slice A4 e0.length c4) := (blk_cell BK5_8.out 0).trans rfl; have z5_1 : w8.cell? ⟨gb5, 1, none⟩ = some (.slice A5 o0.length c5) := (blk_cell BK5_8.out 1).trans rfl; have z5_2 : w8.cell? ⟨gb5, 2, none⟩ = some (.int .i64 d0) := (blk_cell BK5_8.out 2).trans rfl; have z5_3 : w8.cell? ⟨gb5, 3, none⟩ = some (.slice A6 e1.length c6) := (blk_cell BK5_8.out 3).trans rfl; have z5_4 : w8.cell? ⟨gb5, 4, none⟩ = some (.slice A7 o1.length c7) := (blk_cell BK5_8.out 4).trans rfl; have z5_5 : w8.cell? ⟨gb5, 5, none⟩ = some (.int .i64 d1) := (blk_cell BK5_8.out 5).trans rfl; have z7_0 : w8.cell? ⟨gb7, 0, none⟩ = some (.slice none 0 0) := (blk_cell BK7_8.out 0).trans rfl; have z7_1 : w8.cell? ⟨gb7, 1, none⟩ = some (.slice none 0 0) := (blk_cell BK7_8.out 1).trans rfl; have WA := Aside0.mk hb; have GG7 := Aside0.mk ((by rw [hg]; exact Nat.le_refl _) : w7.heap.size ≤ gb7); clear hb hbox hg; have f70 := blk_frozen BK7_8.out 0; have f71 := blk_frozen BK7_8.out 1)
    | (go_at_call 17; refine (trickleref19_Copy.calls k A0 c0 ag A1 c1 ac ag ac _ (HA.out.up HB_6.out).h0 HA.out.k0 (HA.out.up HB_6.out).h1 HA.out.k1 HCP.out).mono ?_; rintro e w7 ⟨v0_, v1_, rfl, ho0, ho1, hb⟩; have BK3_7 := Aside0.mk (blk_below BK3_6.out hb); have BK4_7 := Aside0.mk (blk_below BK4_6.out hb); have BK5_7 := Aside0.mk (blk_below BK5_6.out hb); have HB_7 := Aside0.mk (below_step HB_6.out hb); obtain ⟨Aw0, cw0, rfl, hcw0, hw0⟩ := Kd.S_reads ho0; obtain ⟨Aw1, cw1, rfl, hcw1, hw1⟩ := Kd.S_reads ho1; have HW0 := Aside0.mk hw0; have HW1 := Aside0.mk hw1; have HCW0 := Aside0.mk hcw0; have HCW1 := Aside0.mk hcw1; have WU_7 := Aside0.mk (Below.refl w7.heap.size w7); clear ho0 ho1 hw0 hw1 hcw0 hcw1; clear z3_0 z3_1 z4_0 z4_1 z5_0 z5_1 z5_2 z5_3 z5_4 z5_5; have z3_0 : w7.cell? ⟨gb3, 0, none⟩ = some (.slice A0 ag.length c0) := (blk_cell BK3_7.out 0).trans rfl; have z3_1 : w7.cell? ⟨gb3, 1, none⟩ = some (.slice A1 ac.length c1) := (blk_cell BK3_7.out 1).trans rfl; have z4_0 : w7.cell? ⟨gb4, 0, none⟩ = some (.slice A2 bg.length c2) := (blk_cell BK4_7.out 0).trans rfl; have z4_1 : w7.cell? ⟨gb4, 1, none⟩ = some (.slice A3 bc.length c3) := (blk_cell BK4_7.out 1).trans rfl; have z5_0 : w7.cell? ⟨gb5, 0, none⟩ = some (.slice A4 e0.length c4) := (blk_cell BK5_7.out 0).trans rfl; have z5_1 : w7.cell? ⟨gb5, 1, none⟩ = some (.slice A5 o0.length c5) := (blk_cell BK5_7.out 1).trans rfl; have z5_2 : w7.cell? ⟨gb5, 2, none⟩ = some (.int .i64 d0) := (blk_cell BK5_7.out 2).trans rfl; have z5_3 : w7.cell? ⟨gb5, 3, none⟩ = some (.slice A6 e1.length c6) := (blk_cell BK5_7.out 3).trans rfl; have z5_4 : w7.cell? ⟨gb5, 4, none⟩ = some (.slice A7 o1.length c7) := (blk_cell BK5_7.out 4).trans rfl; have z5_5 : w7.cell? ⟨gb5, 5, none⟩ = some (.int .i64 d1) := (blk_cell BK5_7.out 5).trans rfl; clear hb)
    | (go_at_call 21; refine (trickleref19_Few.calls k A2 c2 bg A3 c3 bc true _ (HA.out.up HB_5.out).h2 HA.out.k2 (HA.out.up HB_5.out).h3 HA.out.k3 HFB.out).mono ?_; rintro e w6 ⟨rfl, hb⟩; have BK3_6 := Aside0.mk (blk_below BK3_5.out hb); have BK4_6 := Aside0.mk (blk_below BK4_5.out hb); have BK5_6 := Aside0.mk (blk_below BK5_5.out hb); have HB_6 := Aside0.mk (below_step HB_5.out hb); clear z3_0 z3_1 z4_0 z4_1 z5_0 z5_1 z5_2 z5_3 z5_4 z5_5; have z3_0 : w6.cell? ⟨gb3, 0, none⟩ = some (.slice A0 ag.length c0) := (blk_cell BK3_6.out 0).trans rfl; have z3_1 : w6.cell? ⟨gb3, 1, none⟩ = some (.slice A1 ac.length c1) := (blk_cell BK3_6.out 1).trans rfl; have z4_0 : w6.cell? ⟨gb4, 0, none⟩ = some (.slice A2 bg.length c2) := (blk_cell BK4_6.out 0).trans rfl; have z4_1 : w6.cell? ⟨gb4, 1, none⟩ = some (.slice A3 bc.length c3) := (blk_cell BK4_6.out 1).trans rfl; have z5_0 : w6.cell? ⟨gb5, 0, none⟩ = some (.slice A4 e0.length c4) := (blk_cell BK5_6.out 0).trans rfl; have z5_1 : w6.cell? ⟨gb5, 1, none⟩ = some (.slice A5 o0.length c5) := (blk_cell BK5_6.out 1).trans rfl; have z5_2 : w6.cell? ⟨gb5, 2, none⟩ = some (.int .i64 d0) := (blk_cell BK5_6.out 2).trans rfl; have z5_3 : w6.cell? ⟨gb5, 3, none⟩ = some (.slice A6 e1.length c6) := (blk_cell BK5_6.out 3).trans rfl; have z5_4 : w6.cell? ⟨gb5, 4, none⟩ = some (.slice A7 o1.length c7) := (blk_cell BK5_6.out 4).trans rfl; have z5_5 : w6.cell? ⟨gb5, 5, none⟩ = some (.int .i64 d1) := (blk_cell BK5_6.out 5).trans rfl; clear hb)
    | (go_at_call 21; refine (trickleref19_Few.calls k A0 c0 ag A1 c1 ac true _ (HA.out.up HB_4.out).h0 HA.out.k0 (HA.out.up HB_4.out).h1 HA.out.k1 HFA.out).mono ?_; rintro e w5 ⟨rfl, hb⟩; have BK3_5 := Aside0.mk (blk_below BK3_4.out hb); have BK4_5 := Aside0.mk (blk_below BK4_4.out hb); have BK5_5 := Aside0.mk (blk_below BK5_4.out hb); have HB_5 := Aside0.mk (below_step HB_4.out hb); clear z3_0 z3_1 z4_0 z4_1 z5_0 z5_1 z5_2 z5_3 z5_4 z5_5; have z3_0 : w5.cell? ⟨gb3, 0, none⟩ = some (.slice A0 ag.length c0) := (blk_cell BK3_5.out 0).trans rfl; have z3_1 : w5.cell? ⟨gb3, 1, none⟩ = some (.slice A1 ac.length c1) := (blk_cell BK3_5.out 1).trans rfl; have z4_0 : w5.cell? ⟨gb4, 0, none⟩ = some (.slice A2 bg.length c2) := (blk_cell BK4_5.out 0).trans rfl; have z4_1 : w5.cell? ⟨gb4, 1, none⟩ = some (.slice A3 bc.length c3) := (blk_cell BK4_5.out 1).trans rfl; have z5_0 : w5.cell? ⟨gb5, 0, none⟩ = some (.slice A4 e0.length c4) := (blk_cell BK5_5.out 0).trans rfl; have z5_1 : w5.cell? ⟨gb5, 1, none⟩ = some (.slice A5 o0.length c5) := (blk_cell BK5_5.out 1).trans rfl; have z5_2 : w5.cell? ⟨gb5, 2, none⟩ = some (.int .i64 d0) := (blk_cell BK5_5.out 2).trans rfl; have z5_3 : w5.cell? ⟨gb5, 3, none⟩ = some (.slice A6 e1.length c6) := (blk_cell BK5_5.out 3).trans rfl; have z5_4 : w5.cell? ⟨gb5, 4, none⟩ = some (.slice A7 o1.length c7) := (blk_cell BK5_5.out 4).trans rfl; have z5_5 : w5.cell? ⟨gb5, 5, none⟩ = some (.int .i64 d1) := (blk_cell BK5_5.out 5).trans rfl; clear hb)
    | (go_at_call 11; refine (wakes_calls _).mono ?_; rintro e w4 ⟨rfl, hb⟩; have BK3_4 := Aside0.mk (blk_below BK3_3.out hb); have BK4_4 := Aside0.mk (blk_below BK4_3.out hb); have BK5_4 := Aside0.mk (blk_below BK5_3.out hb); have HB_4 := Aside0.mk (below_step HB_3.out hb); clear z3_0 z3_1 z4_0 z4_1 z5_0 z5_1 z5_2 z5_3 z5_4 z5_5; have z3_0 : w4.cell? ⟨gb3, 0, none⟩ = some (.slice A0 ag.length c0) := (blk_cell BK3_4.out 0).trans rfl; have z3_1 : w4.cell? ⟨gb3, 1, none⟩ = some (.slice A1 ac.length c1) := (blk_cell BK3_4.out 1).trans rfl; have z4_0 : w4.cell? ⟨gb4, 0, none⟩ = some (.slice A2 bg.length c2) := (blk_cell BK4_4.out 0).trans rfl; have z4_1 : w4.cell? ⟨gb4, 1, none⟩ = some (.slice A3 bc.length c3) := (blk_cell BK4_4.out 1).trans rfl; have z5_0 : w4.cell? ⟨gb5, 0, none⟩ = some (.slice A4 e0.length c4) := (blk_cell BK5_4.out 0).trans rfl; have z5_1 : w4.cell? ⟨gb5, 1, none⟩ = some (.slice A5 o0.length c5) := (blk_cell BK5_4.out 1).trans rfl; have z5_2 : w4.cell? ⟨gb5, 2, none⟩ = some (.int .i64 d0) := (blk_cell BK5_4.out 2).trans rfl; have z5_3 : w4.cell? ⟨gb5, 3, none⟩ = some (.slice A6 e1.length c6) := (blk_cell BK5_4.out 3).trans rfl; have z5_4 : w4.cell? ⟨gb5, 4, none⟩ = some (.slice A7 o1.length c7) := (blk_cell BK5_4.out 4).trans rfl; have z5_5 : w4.cell? ⟨gb5, 5, none⟩ = some (.int .i64 d1) := (blk_cell BK5_4.out 5).trans rfl; clear hb)
    | ((with_reducible refine gate_dst (N := 5) rfl ?_); refine box_event ?hg (N := 5) ?hd (cs := #[.slice A4 e0.length c4, .slice A5 o0.length c5, .int .i64 d0, .slice A6 e1.length c6, .slice A7 o1.length c7, .int .i64 d1]) (t := 65) ?hr ?_; (case hd => rfl); (case hg => rfl); (case hr => first | (go_simp; done) | (go_simp; rfl)); intro gb5 hg w3 hbox hb; have BK3_3 := Aside0.mk (blk_below BK3_2.out hb); have BK4_3 := Aside0.mk (blk_below BK4_2.out hb); have HB_3 := Aside0.mk (below_step HB_2.out hb); have BK5_3 := Aside0.mk hbox; have GE5 := Aside0.mk ((by rw [hg]; exact (HB_2.out).size) : w.heap.size ≤ gb5); have NE3_5 := Aside0.mk ((by rw [hg]; exact Nat.ne_of_lt (blk_lt BK3_2.out)) : gb3 ≠ gb5); have NE4_5 := Aside0.mk ((by rw [hg]; exact Nat.ne_of_lt (blk_lt BK4_2.out)) : gb4 ≠ gb5); clear z3_0 z3_1 z4_0 z4_1; have z3_0 : w3.cell? ⟨gb3, 0, none⟩ = some (.slice A0 ag.length c0) := (blk_cell BK3_3.out 0).trans rfl; have z3_1 : w3.cell? ⟨gb3, 1, none⟩ = some (.slice A1 ac.length c1) := (blk_cell BK3_3.out 1).trans rfl; have z4_0 : w3.cell? ⟨gb4, 0, none⟩ = some (.slice A2 bg.length c2) := (blk_cell BK4_3.out 0).trans rfl; have z4_1 : w3.cell? ⟨gb4, 1, none⟩ = some (.slice A3 bc.length c3) := (blk_cell BK4_3.out 1).trans rfl; have z5_0 : w3.cell? ⟨gb5, 0, none⟩ = some (.slice A4 e0.length c4) := (blk_cell BK5_3.out 0).trans rfl; have z5_1 : w3.cell? ⟨gb5, 1, none⟩ = some (.slice A5 o0.length c5) := (blk_cell BK5_3.out 1).trans rfl; have z5_2 : w3.cell? ⟨gb5, 2, none⟩ = some (.int .i64 d0) := (blk_cell BK5_3.out 2).trans rfl; have z5_3 : w3.cell? ⟨gb5, 3, none⟩ = some (.slice A6 e1.length c6) := (blk_cell BK5_3.out 3).trans rfl; have z5_4 : w3.cell? ⟨gb5, 4, none⟩ = some (.slice A7 o1.length c7) := (blk_cell BK5_3.out 4).trans rfl; have z5_5 : w3.cell? ⟨gb5, 5, none⟩ = some (.int .i64 d1) := (blk_cell BK5_3.out 5).trans rfl; clear hb hbox hg)
    | ((with_reducible refine gate_dst (N := 4) rfl ?_); refine box_event ?hg (N := 4) ?hd (cs := #[.slice A2 bg.length c2, .slice A3 bc.length c3]) (t := 32) ?hr ?_; (case hd => rfl); (case hg => rfl); (case hr => first | (go_simp; done) | (go_simp; rfl)); intro gb4 hg w2 hbox hb; have BK3_2 := Aside0.mk (blk_below BK3_1.out hb); have HB_2 := Aside0.mk (below_step HB_1.out hb); have BK4_2 := Aside0.mk hbox; have GE4 := Aside0.mk ((by rw [hg]; exact (HB_1.out).size) : w.heap.size ≤ gb4); have NE3_4 := Aside0.mk ((by rw [hg]; exact Nat.ne_of_lt (blk_lt BK3_1.out)) : gb3 ≠ gb4); clear z3_0 z3_1; have z3_0 : w2.cell? ⟨gb3, 0, none⟩ = some (.slice A0 ag.length c0) := (blk_cell BK3_2.out 0).trans rfl; have z3_1 : w2.cell? ⟨gb3, 1, none⟩ = some (.slice A1 ac.length c1) := (blk_cell BK3_2.out 1).trans rfl; have z4_0 : w2.cell? ⟨gb4, 0, none⟩ = some (.slice A2 bg.length c2) := (blk_cell BK4_2.out 0).trans rfl; have z4_1 : w2.cell? ⟨gb4, 1, none⟩ = some (.slice A3 bc.length c3) := (blk_cell BK4_2.out 1).trans rfl; clear hb hbox hg)
    | ((with_reducible refine gate_dst (N := 3) rfl ?_); refine box_event ?hg (N := 3) ?hd (cs := #[.slice A0 ag.length c0, .slice A1 ac.length c1]) (t := 32) ?hr ?_; (case hd => rfl); (case hg => rfl); (case hr => first | (go_simp; done) | (go_simp; rfl)); intro gb3 hg w1 hbox hb; have HB_1 := Aside0.mk hb; have BK3_1 := Aside0.mk hbox; have GE3 := Aside0.mk ((by rw [hg]; exact Nat.le_refl _) : w.heap.size ≤ gb3); have z3_0 : w1.cell? ⟨gb3, 0, none⟩ = some (.slice A0 ag.length c0) := (blk_cell BK3_1.out 0).trans rfl; have z3_1 : w1.cell? ⟨gb3, 1, none⟩ = some (.slice A1 ac.length c1) := (blk_cell BK3_1.out 1).trans rfl; clear hb hbox hg))
  have BK3_12 : Aside0 (((w11.setCell ⟨gb8, 0, none⟩ (.slice AG gs.length cG)).setCell ⟨gb8, 1, none⟩ (.slice AC cs.length cC)).heap[gb3]? = some (.cells #[.slice A0 ag.length c0, .slice A1 ac.length c1] 32 (0, 0))) := ⟨(Below.heap_setCell _ ⟨gb8, 1, none⟩ _ gb3 NE3_8.out).trans ((Below.heap_setCell _ ⟨gb8, 0, none⟩ _ gb3 NE3_8.out).trans BK3_11.out)⟩
  have BK4_12 : Aside0 (((w11.setCell ⟨gb8, 0, none⟩ (.slice AG gs.length cG)).setCell ⟨gb8, 1, none⟩ (.slice AC cs.length cC)).heap[gb4]? = some (.cells #[.slice A2 bg.length c2, .slice A3 bc.length c3] 32 (0, 0))) := ⟨(Below.heap_setCell _ ⟨gb8, 1, none⟩ _ gb4 NE4_8.out).trans ((Below.heap_setCell _ ⟨gb8, 0, none⟩ _ gb4 NE4_8.out).trans BK4_11.out)⟩
  have BK5_12 : Aside0 (((w11.setCell ⟨gb8, 0, none⟩ (.slice AG gs.length cG)).setCell ⟨gb8, 1, none⟩ (.slice AC cs.length cC)).heap[gb5]? = some (.cells #[.slice A4 e0.length c4, .slice A5 o0.length c5, .int .i64 d0, .slice A6 e1.length c6, .slice A7 o1.length c7, .int .i64 d1] 65 (0, 0))) := ⟨(Below.heap_setCell _ ⟨gb8, 1, none⟩ _ gb5 NE5_8.out).trans ((Below.heap_setCell _ ⟨gb8, 0, none⟩ _ gb5 NE5_8.out).trans BK5_11.out)⟩
  have BK7_12 : Aside0 (((w11.setCell ⟨gb8, 0, none⟩ (.slice AG gs.length cG)).setCell ⟨gb8, 1, none⟩ (.slice AC cs.length cC)).heap[gb7]? = some (.cells #[.slice Aw0 ag.length cw0, .slice Aw1 ac.length cw1] 32 (0, 0))) := ⟨(Below.heap_setCell _ ⟨gb8, 1, none⟩ _ gb7 NE7_8.out).trans ((Below.heap_setCell _ ⟨gb8, 0, none⟩ _ gb7 NE7_8.out).trans BK7_11.out)⟩
  have BK8_12 : Aside0 (((w11.setCell ⟨gb8, 0, none⟩ (.slice AG gs.length cG)).setCell ⟨gb8, 1, none⟩ (.slice AC cs.length cC)).heap[gb8]? = some (.cells #[.slice AG gs.length cG, .slice AC cs.length cC] 32 (0, 0))) := ⟨blk_set (blk_set BK8_11.out 0 _) 1 _⟩
  have HB_12 : Aside0 (Below w.heap.size w ((w11.setCell ⟨gb8, 0, none⟩ (.slice AG gs.length cG)).setCell ⟨gb8, 1, none⟩ (.slice AC cs.length cC))) := ⟨below_set (below_set HB_11.out GE8.out) GE8.out⟩
  have CB : Aside0 (Below w10.heap.size w10 ((w11.setCell ⟨gb8, 0, none⟩ (.slice AG gs.length cG)).setCell ⟨gb8, 1, none⟩ (.slice AC cs.length cC))) := ⟨below_set (below_set CA.out GG8.out) GG8.out⟩
  have HT2 := Aside0.mk (HT.out.below CB.out)
  have HU : Aside0 (Below w9.heap.size w9 ((w11.setCell ⟨gb8, 0, none⟩ (.slice AG gs.length cG)).setCell ⟨gb8, 1, none⟩ (.slice AC cs.length cC))) := ⟨below_step HCO.out CB.out⟩
  clear CA CB HT f80 f81 BK8_11
  clear z3_0 z3_1 z4_0 z4_1 z5_0 z5_1 z5_2 z5_3 z5_4 z5_5 z7_0 z7_1 z8_0 z8_1
  generalize ((w11.setCell ⟨gb8, 0, none⟩ (.slice AG gs.length cG)).setCell ⟨gb8, 1, none⟩ (.slice AC cs.length cC)) = w12 at BK3_12 BK4_12 BK5_12 BK7_12 BK8_12 HB_12 HT2 HU ⊢
  have hbd := below_drew1 (Below.refl w12.heap.size w12)
  have BK3_13 := Aside0.mk (blk_below BK3_12.out hbd)
  have BK4_13 := Aside0.mk (blk_below BK4_12.out hbd)
  have BK5_13 := Aside0.mk (blk_below BK5_12.out hbd)
  have BK7_13 := Aside0.mk (blk_below BK7_12.out hbd)
  have BK8_13 := Aside0.mk (blk_below BK8_12.out hbd)
  have HB_13 := Aside0.mk (below_step HB_12.out hbd)
  have HT3 := Aside0.mk (HT2.out.below hbd)
  have HU3 := Aside0.mk (below_step HU.out hbd)
  clear HT2 HU hbd
  refine start_ (n := 26) (S := (fun w' => w'.cell? ⟨gb3, 0, none⟩ = some (.slice A0 ag.length c0) ∧ w'.cell? ⟨gb3, 1, none⟩ = some (.slice A1 ac.length c1) ∧ w'.cell? ⟨gb4, 0, none⟩ = some (.slice A2 bg.length c2) ∧ w'.cell? ⟨gb4, 1, none⟩ = some (.slice A3 bc.length c3) ∧ w'.cell? ⟨gb8, 0, none⟩ = some (.slice AG gs.length cG) ∧ w'.cell? ⟨gb8, 1, none⟩ = some (.slice AC cs.length cC) ∧ w'.cell? ⟨gb5, 0, none⟩ = some (.slice A4 e0.length c4) ∧ w'.cell? ⟨gb5, 1, none⟩ = some (.slice A5 o0.length c5) ∧ w'.cell? ⟨gb5, 2, none⟩ = some (.int .i64 d0) ∧ w'.cell? ⟨gb5, 3, none⟩ = some (.slice A6 e1.length c6) ∧ w'.cell? ⟨gb5, 4, none⟩ = some (.slice A7 o1.length c7) ∧ w'.cell? ⟨gb5, 5, none⟩ = some (.int .i64 d1))) (ds := []) #[false, false, false, false, false, false, false, false, false, false, false, false, false, false, false, false, false, false, false, false, false, false, false, false, false, false] (by kernel_rfl) rfl rfl ⟨(blk_cell BK3_13.out 0).trans rfl, (blk_cell BK3_13.out 1).trans rfl, (blk_cell BK4_13.out 0).trans rfl, (blk_cell BK4_13.out 1).trans rfl, (blk_cell BK8_13.out 0).trans rfl, (blk_cell BK8_13.out 1).trans rfl, (blk_cell BK5_13.out 0).trans rfl, (blk_cell BK5_13.out 1).trans rfl, (blk_cell BK5_13.out 2).trans rfl, (blk_cell BK5_13.out 3).trans rfl, (blk_cell BK5_13.out 4).trans rfl, (blk_cell BK5_13.out 5).trans rfl⟩ (fun hHeld => ?_)
  generalize w12.drew = w13 at BK3_13 BK4_13 BK5_13 BK7_13 BK8_13 HB_13 HT3 HU3 hHeld ⊢
  refine take_ (i := 0) (N := some 48) (v := ?_) (a' := ?_) #[true, false, false, false, false, false, false, false, false, false, false, false, false, false, false, false, false, false, false, false, false, false, false, false, false, false] rfl rfl (by kernel_rfl) (fun _ _ _ h => h) (Or.inl ⟨by rfl, ?_⟩) hHeld ?_ ?_
  rotate_left
  · rintro w' ⟨s0, s1, s2, s3, s4, s5, s6, s7, s8, s9, s10, s11⟩
    go_simp
    with_reducible rfl
  rotate_left
  · simp only [Act.put, List.setIfInBounds_toArray, List.set_cons_zero, List.set_cons_succ]
    rfl
  refine take_ (i := 1) (N := some 49) (v := ?_) (a' := ?_) #[true, true, false, false, false, false, false, false, false, false, false, false, false, false, false, false, false, false, false, false, false, false, false, false, false, false] rfl rfl (by kernel_rfl) (fun _ _ _ h => h) (Or.inl ⟨by rfl, ?_⟩) hHeld ?_ ?_
  rotate_left
  · rintro w' ⟨s0, s1, s2, s3, s4, s5, s6, s7, s8, s9, s10, s11⟩
    go_simp
    with_reducible rfl
  rotate_left
  · simp only [Act.put, List.setIfInBounds_toArray, List.set_cons_zero, List.set_cons_succ]
    rfl
  refine take_ (i := 3) (N := some 51) (v := ?_) (a' := ?_) #[true, true, false, true, false, false, false, false, false, false, false, false, false, false, false, false, false, false, false, false, false, false, false, false, false, false] rfl rfl (by kernel_rfl) (fun _ _ _ h => h) (Or.inl ⟨by rfl, ?_⟩) hHeld ?_ ?_
  rotate_left
  · rintro w' ⟨s0, s1, s2, s3, s4, s5, s6, s7, s8, s9, s10, s11⟩
    go_simp
    with_reducible rfl
  rotate_left
  · simp only [Act.put, List.setIfInBounds_toArray, List.set_cons_zero, List.set_cons_succ]
    rfl
  refine take_ (i := 4) (N := some 52) (v := ?_) (a' := ?_) #[true, true, false, true, true, false, false, false, false, false, false, false, false, false, false, false, false, false, false, false, false, false, false, false, false, false] rfl rfl (by kernel_rfl) (fun _ _ _ h => h) (Or.inl ⟨by rfl, ?_⟩) hHeld ?_ ?_
  rotate_left
  · rintro w' ⟨s0, s1, s2, s3, s4, s5, s6, s7, s8, s9, s10, s11⟩
    go_simp
    with_reducible rfl
  rotate_left
  · simp only [Act.put, List.setIfInBounds_toArray, List.set_cons_zero, List.set_cons_succ]
    rfl
  refine one_ (i := 2) (N := some 50) #[true, true, true, true, true, false, false, false, false, false, false, false, false, false, false, false, false, false, false, false, false, false, false, false, false, false] rfl rfl (by kernel_rfl) (by decide) (fun K hK => ?_)
  refine goes_ Try.func23 (by kernel_rfl) rfl #[.agg #[.slice A0 ag.length c0, .slice A1 ac.length c1], .agg #[.slice A2 bg.length c2, .slice A3 bc.length c3]] (by rfl) rfl rfl (by (try simp only [List.map_toArray, List.map_cons, List.map_nil]); first | done | rfl) ?_
  refine (equal_calls HR1.out HR2.out A0 A1 A2 A3 c0 c1 c2 c3 _ (HA.out.up HB_13.out).h0 (HA.out.up HB_13.out).h1 (HA.out.up HB_13.out).h2 (HA.out.up HB_13.out).h3 HSZ3.out.1 HSZ3.out.2).mono ?_
  rintro e w14 ⟨rfl, hb⟩
  refine ⟨_, rfl, ?_⟩
  have BK3_14 := Aside0.mk (blk_below BK3_13.out hb)
  have BK4_14 := Aside0.mk (blk_below BK4_13.out hb)
  have BK5_14 := Aside0.mk (blk_below BK5_13.out hb)
  have BK7_14 := Aside0.mk (blk_below BK7_13.out hb)
  have BK8_14 := Aside0.mk (blk_below BK8_13.out hb)
  have HB_14 := Aside0.mk (below_step HB_13.out hb)
  have HT4 := Aside0.mk (HT3.out.below hb)
  have HU4 := Aside0.mk (below_step HU3.out hb)
  clear HT3 HU3
  have HT3 := HT4
  have HU3 := HU4
  clear HT4 HU4
  clear hHeld hb
  refine hK.out _ _ ⟨(blk_cell BK3_14.out 0).trans rfl, (blk_cell BK3_14.out 1).trans rfl, (blk_cell BK4_14.out 0).trans rfl, (blk_cell BK4_14.out 1).trans rfl, (blk_cell BK8_14.out 0).trans rfl, (blk_cell BK8_14.out 1).trans rfl, (blk_cell BK5_14.out 0).trans rfl, (blk_cell BK5_14.out 1).trans rfl, (blk_cell BK5_14.out 2).trans rfl, (blk_cell BK5_14.out 3).trans rfl, (blk_cell BK5_14.out 4).trans rfl, (blk_cell BK5_14.out 5).trans rfl⟩ (fun hHeld => ?_)
  clear hK K
  refine norm_ (a' := ?_) ?_ ?_
  rotate_left
  · show Act.put _ (some 50) _ = _
    simp only [Act.put, List.setIfInBounds_toArray, List.set_cons_zero, List.set_cons_succ]
    rfl
  refine one_ (i := 5) (N := some 53) #[true, true, true, true, true, true, false, false, false, false, false, false, false, false, false, false, false, false, false, false, false, false, false, false, false, false] rfl rfl (by kernel_rfl) (by decide) (fun K hK => ?_)
  refine goes_ Try.func18 (by kernel_rfl) rfl #[.agg #[.slice A0 ag.length c0, .slice A1 ac.length c1], .agg #[.slice A2 bg.length c2, .slice A3 bc.length c3]] (by rfl) rfl rfl (by (try simp only [List.map_toArray, List.map_cons, List.map_nil]); first | done | rfl) ?_
  refine (trickleref19_Equal.calls k A0 c0 ag A1 c1 ac A2 c2 bg A3 c3 bc _ _ (HA.out.up HB_14.out).h0 HA.out.k0 (HA.out.up HB_14.out).h1 HA.out.k1 (HA.out.up HB_14.out).h2 HA.out.k2 (HA.out.up HB_14.out).h3 HA.out.k3 HQ1.out).mono ?_
  rintro e w15 ⟨rfl, hb⟩
  refine ⟨_, rfl, ?_⟩
  have BK3_15 := Aside0.mk (blk_below BK3_14.out hb)
  have BK4_15 := Aside0.mk (blk_below BK4_14.out hb)
  have BK5_15 := Aside0.mk (blk_below BK5_14.out hb)
  have BK7_15 := Aside0.mk (blk_below BK7_14.out hb)
  have BK8_15 := Aside0.mk (blk_below BK8_14.out hb)
  have HB_15 := Aside0.mk (below_step HB_14.out hb)
  have HT4 := Aside0.mk (HT3.out.below hb)
  have HU4 := Aside0.mk (below_step HU3.out hb)
  clear HT3 HU3
  have HT3 := HT4
  have HU3 := HU4
  clear HT4 HU4
  clear hHeld hb
  refine hK.out _ _ ⟨(blk_cell BK3_15.out 0).trans rfl, (blk_cell BK3_15.out 1).trans rfl, (blk_cell BK4_15.out 0).trans rfl, (blk_cell BK4_15.out 1).trans rfl, (blk_cell BK8_15.out 0).trans rfl, (blk_cell BK8_15.out 1).trans rfl, (blk_cell BK5_15.out 0).trans rfl, (blk_cell BK5_15.out 1).trans rfl, (blk_cell BK5_15.out 2).trans rfl, (blk_cell BK5_15.out 3).trans rfl, (blk_cell BK5_15.out 4).trans rfl, (blk_cell BK5_15.out 5).trans rfl⟩ (fun hHeld => ?_)
  clear hK K
  refine norm_ (a' := ?_) ?_ ?_
  rotate_left
  · show Act.put _ (some 53) _ = _
    simp only [Act.put, List.setIfInBounds_toArray, List.set_cons_zero, List.set_cons_succ]
    rfl
  refine pure_ (i := 6) (N := some 54) (v := ?_) (a' := ?_) #[true, true, true, true, true, true, true, false, false, false, false, false, false, false, false, false, false, false, false, false, false, false, false, false, false, false] rfl rfl (by kernel_rfl) (fun _ _ _ h => h) (Or.inl ⟨by rfl, ?_⟩) ?_ ?_
  rotate_left
  · intro w'
    go_simp
    (try simp only [bne_self_eq_false])
    with_reducible rfl
  rotate_left
  · simp only [Act.put, List.setIfInBounds_toArray, List.set_cons_zero, List.set_cons_succ]
    rfl
  refine pure_ (i := 7) (N := some 55) (v := ?_) (a' := ?_) #[true, true, true, true, true, true, true, true, false, false, false, false, false, false, false, false, false, false, false, false, false, false, false, false, false, false] rfl rfl (by kernel_rfl) (fun _ _ _ h => h) (Or.inl ⟨by rfl, ?_⟩) ?_ ?_
  rotate_left
  · intro w'
    go_simp
    with_reducible rfl
  rotate_left
  · simp only [Act.put, List.setIfInBounds_toArray, List.set_cons_zero, List.set_cons_succ]
    rfl
  refine take_ (i := 8) (N := some 56) (v := ?_) (a' := ?_) #[true, true, true, true, true, true, true, true, true, false, false, false, false, false, false, false, false, false, false, false, false, false, false, false, false, false] rfl rfl (by kernel_rfl) (fun _ _ _ h => h) (Or.inl ⟨by rfl, ?_⟩) hHeld ?_ ?_
  rotate_left
  · rintro w' ⟨s0, s1, s2, s3, s4, s5, s6, s7, s8, s9, s10, s11⟩
    go_simp
    with_reducible rfl
  rotate_left
  · simp only [Act.put, List.setIfInBounds_toArray, List.set_cons_zero, List.set_cons_succ]
    rfl
  refine take_ (i := 9) (N := some 57) (v := ?_) (a' := ?_) #[true, true, true, true, true, true, true, true, true, true, false, false, false, false, false, false, false, false, false, false, false, false, false, false, false, false] rfl rfl (by kernel_rfl) (fun _ _ _ h => h) (Or.inl ⟨by rfl, ?_⟩) hHeld ?_ ?_
  rotate_left
  · rintro w' ⟨s0, s1, s2, s3, s4, s5, s6, s7, s8, s9, s10, s11⟩
    go_simp
    with_reducible rfl
  rotate_left
  · simp only [Act.put, List.setIfInBounds_toArray, List.set_cons_zero, List.set_cons_succ]
    rfl
  obtain ⟨hgl, hgc, hgC⟩ := two_read HT3.out.qG HT3.out.gr
  obtain ⟨hcl, hcc, hcC⟩ := two_read HT3.out.qC HT3.out.cr
  have HGC := Aside0.mk hgC
  have HCC := Aside0.mk hcC
  have HGL := Aside0.mk hgl
  have HCL := Aside0.mk hcl
  have HGK := Aside0.mk hgc
  have HCK := Aside0.mk hcc
  clear hgC hcC hgl hcl hgc hcc
  refine one_ (i := 10) (N := some 58) #[true, true, true, true, true, true, true, true, true, true, true, false, false, false, false, false, false, false, false, false, false, false, false, false, false, false] rfl rfl (by kernel_rfl) (by decide) (fun K hK => ?_)
  refine goes_ Try.func18 (by kernel_rfl) rfl #[.agg #[.slice AG ag.length cG, .slice AC ac.length cC], .agg #[.slice A0 ag.length c0, .slice A1 ac.length c1]] (by rfl) rfl rfl (by (try simp only [List.map_toArray, List.map_cons, List.map_nil]); first | done | rfl | (rw [HGL.out, HCL.out]; rfl) | (rw [HGL.out, HCL.out])) ?_
  refine (trickleref19_Equal.calls k AG cG ag AC cC ac A0 c0 ag A1 c1 ac _ _ HGC.out (HGL.out ▸ HGK.out) HCC.out (HCL.out ▸ HCK.out) (HA.out.up HB_15.out).h0 HA.out.k0 (HA.out.up HB_15.out).h1 HA.out.k1 HQ2.out).mono ?_
  rintro e w16 ⟨rfl, hb⟩
  refine ⟨_, rfl, ?_⟩
  have BK3_16 := Aside0.mk (blk_below BK3_15.out hb)
  have BK4_16 := Aside0.mk (blk_below BK4_15.out hb)
  have BK5_16 := Aside0.mk (blk_below BK5_15.out hb)
  have BK7_16 := Aside0.mk (blk_below BK7_15.out hb)
  have BK8_16 := Aside0.mk (blk_below BK8_15.out hb)
  have HB_16 := Aside0.mk (below_step HB_15.out hb)
  have HT4 := Aside0.mk (HT3.out.below hb)
  have HU4 := Aside0.mk (below_step HU3.out hb)
  clear HT3 HU3
  have HT3 := HT4
  have HU3 := HU4
  clear HT4 HU4
  clear HGC HCC
  clear hHeld hb
  refine hK.out _ _ ⟨(blk_cell BK3_16.out 0).trans rfl, (blk_cell BK3_16.out 1).trans rfl, (blk_cell BK4_16.out 0).trans rfl, (blk_cell BK4_16.out 1).trans rfl, (blk_cell BK8_16.out 0).trans rfl, (blk_cell BK8_16.out 1).trans rfl, (blk_cell BK5_16.out 0).trans rfl, (blk_cell BK5_16.out 1).trans rfl, (blk_cell BK5_16.out 2).trans rfl, (blk_cell BK5_16.out 3).trans rfl, (blk_cell BK5_16.out 4).trans rfl, (blk_cell BK5_16.out 5).trans rfl⟩ (fun hHeld => ?_)
  clear hK K
  refine norm_ (a' := ?_) ?_ ?_
  rotate_left
  · show Act.put _ (some 58) _ = _
    simp only [Act.put, List.setIfInBounds_toArray, List.set_cons_zero, List.set_cons_succ]
    rfl
  refine pure_ (i := 11) (N := some 59) (v := ?_) (a' := ?_) #[true, true, true, true, true, true, true, true, true, true, true, true, false, false, false, false, false, false, false, false, false, false, false, false, false, false] rfl rfl (by kernel_rfl) (fun _ _ _ h => h) (Or.inl ⟨by rfl, ?_⟩) ?_ ?_
  rotate_left
  · intro w'
    go_simp
    with_reducible rfl
  rotate_left
  · simp only [Act.put, List.setIfInBounds_toArray, List.set_cons_zero, List.set_cons_succ]
    rfl
  refine pure_ (i := 12) (N := some 60) (v := ?_) (a' := ?_) #[true, true, true, true, true, true, true, true, true, true, true, true, true, false, false, false, false, false, false, false, false, false, false, false, false, false] rfl rfl (by kernel_rfl) (fun _ _ _ h => h) (Or.inl ⟨by rfl, ?_⟩) ?_ ?_
  rotate_left
  · intro w'
    go_simp
    with_reducible rfl
  rotate_left
  · simp only [Act.put, List.setIfInBounds_toArray, List.set_cons_zero, List.set_cons_succ]
    rfl
  refine pure_ (i := 13) (N := some 61) (v := ?_) (a' := ?_) #[true, true, true, true, true, true, true, true, true, true, true, true, true, true, false, false, false, false, false, false, false, false, false, false, false, false] rfl rfl (by kernel_rfl) (fun _ _ _ h => h) (Or.inl ⟨by rfl, ?_⟩) ?_ ?_
  rotate_left
  · intro w'
    go_simp
    with_reducible rfl
  rotate_left
  · simp only [Act.put, List.setIfInBounds_toArray, List.set_cons_zero, List.set_cons_succ]
    rfl
  refine pure_ (i := 14) (N := some 62) (v := ?_) (a' := ?_) #[true, true, true, true, true, true, true, true, true, true, true, true, true, true, true, false, false, false, false, false, false, false, false, false, false, false] rfl rfl (by kernel_rfl) (fun _ _ _ h => h) (Or.inl ⟨by rfl, ?_⟩) ?_ ?_
  rotate_left
  · intro w'
    go_simp
    with_reducible rfl
  rotate_left
  · simp only [Act.put, List.setIfInBounds_toArray, List.set_cons_zero, List.set_cons_succ]
    rfl
  refine pure_ (i := 16) (N := some 64) (v := ?_) (a' := ?_) #[true, true, true, true, true, true, true, true, true, true, true, true, true, true, true, false, true, false, false, false, false, false, false, false, false, false] rfl rfl (by kernel_rfl) (fun _ _ _ h => h) (Or.inl ⟨by rfl, ?_⟩) ?_ ?_
  rotate_left
  · intro w'
    go_simp
    with_reducible rfl
  rotate_left
  · simp only [Act.put, List.setIfInBounds_toArray, List.set_cons_zero, List.set_cons_succ]
    rfl
  refine pure_ (i := 19) (N := some 67) (v := ?_) (a' := ?_) #[true, true, true, true, true, true, true, true, true, true, true, true, true, true, true, false, true, false, false, true, false, false, false, false, false, false] rfl rfl (by kernel_rfl) (fun _ _ _ h => h) (Or.inl ⟨by rfl, ?_⟩) ?_ ?_
  rotate_left
  · intro w'
    go_simp
    with_reducible rfl
  rotate_left
  · simp only [Act.put, List.setIfInBounds_toArray, List.set_cons_zero, List.set_cons_succ]
    rfl
  refine pure_ (i := 21) (N := some 69) (v := ?_) (a' := ?_) #[true, true, true, true, true, true, true, true, true, true, true, true, true, true, true, false, true, false, false, true, false, true, false, false, false, false] rfl rfl (by kernel_rfl) (fun _ _ _ h => h) (Or.inl ⟨by rfl, ?_⟩) ?_ ?_
  rotate_left
  · intro w'
    go_simp
    with_reducible rfl
  rotate_left
  · simp only [Act.put, List.setIfInBounds_toArray, List.set_cons_zero, List.set_cons_succ]
    rfl
  refine take_ (i := 15) (N := some 63) (v := ?_) (a' := ?_) #[true, true, true, true, true, true, true, true, true, true, true, true, true, true, true, true, true, false, false, true, false, true, false, false, false, false] rfl rfl (by kernel_rfl) (fun _ _ _ h => h) (Or.inl ⟨by rfl, ?_⟩) hHeld ?_ ?_
  rotate_left
  · rintro w' ⟨s0, s1, s2, s3, s4, s5, s6, s7, s8, s9, s10, s11⟩
    go_simp
    with_reducible rfl
  rotate_left
  · simp only [Act.put, List.setIfInBounds_toArray, List.set_cons_zero, List.set_cons_succ]
    rfl
  refine take_ (i := 17) (N := some 65) (v := ?_) (a' := ?_) #[true, true, true, true, true, true, true, true, true, true, true, true, true, true, true, true, true, true, false, true, false, true, false, false, false, false] rfl rfl (by kernel_rfl) (fun _ _ _ h => h) (Or.inl ⟨by rfl, ?_⟩) hHeld ?_ ?_
  rotate_left
  · rintro w' ⟨s0, s1, s2, s3, s4, s5, s6, s7, s8, s9, s10, s11⟩
    go_simp
    with_reducible rfl
  rotate_left
  · simp only [Act.put, List.setIfInBounds_toArray, List.set_cons_zero, List.set_cons_succ]
    rfl
  refine take_ (i := 20) (N := some 68) (v := ?_) (a' := ?_) #[true, true, true, true, true, true, true, true, true, true, true, true, true, true, true, true, true, true, false, true, true, true, false, false, false, false] rfl rfl (by kernel_rfl) (fun _ _ _ h => h) (Or.inl ⟨by rfl, ?_⟩) hHeld ?_ ?_
  rotate_left
  · rintro w' ⟨s0, s1, s2, s3, s4, s5, s6, s7, s8, s9, s10, s11⟩
    go_simp
    with_reducible rfl
  rotate_left
  · simp only [Act.put, List.setIfInBounds_toArray, List.set_cons_zero, List.set_cons_succ]
    rfl
  refine take_ (i := 22) (N := some 70) (v := ?_) (a' := ?_) #[true, true, true, true, true, true, true, true, true, true, true, true, true, true, true, true, true, true, false, true, true, true, true, false, false, false] rfl rfl (by kernel_rfl) (fun _ _ _ h => h) (Or.inl ⟨by rfl, ?_⟩) hHeld ?_ ?_
  rotate_left
  · rintro w' ⟨s0, s1, s2, s3, s4, s5, s6, s7, s8, s9, s10, s11⟩
    go_simp
    with_reducible rfl
  rotate_left
  · simp only [Act.put, List.setIfInBounds_toArray, List.set_cons_zero, List.set_cons_succ]
    rfl
  refine one_ (i := 18) (N := some 66) #[true, true, true, true, true, true, true, true, true, true, true, true, true, true, true, true, true, true, true, true, true, true, true, false, false, false] rfl rfl (by kernel_rfl) (by decide) (fun K hK => ?_)
  refine goes_ Try.func24 (by kernel_rfl) rfl #[.agg #[.slice A4 e0.length c4, .slice A5 o0.length c5, .int .i64 d0], .agg #[.slice A6 e1.length c6, .slice A7 o1.length c7, .int .i64 d1]] (by rfl) rfl rfl (by (try simp only [List.map_toArray, List.map_cons, List.map_nil]); first | done | rfl) ?_
  refine (interp_EqualEffects.calls k A4 c4 e0 A5 c5 o0 d0 A6 c6 e1 A7 c7 o1 d1 _ _ (HA.out.up HB_16.out).h4 HA.out.k4 (HA.out.up HB_16.out).h5 HA.out.k5 (HA.out.up HB_16.out).h6 HA.out.k6 (HA.out.up HB_16.out).h7 HA.out.k7 HE1.out).mono ?_
  rintro e w17 ⟨rfl, hb⟩
  refine ⟨_, rfl, ?_⟩
  have BK3_17 := Aside0.mk (blk_below BK3_16.out hb)
  have BK4_17 := Aside0.mk (blk_below BK4_16.out hb)
  have BK5_17 := Aside0.mk (blk_below BK5_16.out hb)
  have BK7_17 := Aside0.mk (blk_below BK7_16.out hb)
  have BK8_17 := Aside0.mk (blk_below BK8_16.out hb)
  have HB_17 := Aside0.mk (below_step HB_16.out hb)
  have HT4 := Aside0.mk (HT3.out.below hb)
  have HU4 := Aside0.mk (below_step HU3.out hb)
  clear HT3 HU3
  have HT3 := HT4
  have HU3 := HU4
  clear HT4 HU4
  clear hHeld hb
  refine hK.out _ _ ⟨(blk_cell BK3_17.out 0).trans rfl, (blk_cell BK3_17.out 1).trans rfl, (blk_cell BK4_17.out 0).trans rfl, (blk_cell BK4_17.out 1).trans rfl, (blk_cell BK8_17.out 0).trans rfl, (blk_cell BK8_17.out 1).trans rfl, (blk_cell BK5_17.out 0).trans rfl, (blk_cell BK5_17.out 1).trans rfl, (blk_cell BK5_17.out 2).trans rfl, (blk_cell BK5_17.out 3).trans rfl, (blk_cell BK5_17.out 4).trans rfl, (blk_cell BK5_17.out 5).trans rfl⟩ (fun hHeld => ?_)
  clear hK K
  refine norm_ (a' := ?_) ?_ ?_
  rotate_left
  · show Act.put _ (some 66) _ = _
    simp only [Act.put, List.setIfInBounds_toArray, List.set_cons_zero, List.set_cons_succ]
    rfl
  refine one_ (i := 23) (N := some 71) #[true, true, true, true, true, true, true, true, true, true, true, true, true, true, true, true, true, true, true, true, true, true, true, true, false, false] rfl rfl (by kernel_rfl) (by decide) (fun K hK => ?_)
  refine goes_ Try.func25 (by kernel_rfl) rfl #[.agg #[.slice A4 e0.length c4, .slice A5 o0.length c5, .int .i64 d0], .agg #[.slice A6 e1.length c6, .slice A7 o1.length c7, .int .i64 d1]] (by rfl) rfl rfl (by (try simp only [List.map_toArray, List.map_cons, List.map_nil]); first | done | rfl) ?_
  refine (trickleref19_EqualEffects.calls k A4 c4 e0 A5 c5 o0 d0 A6 c6 e1 A7 c7 o1 d1 _ _ (HA.out.up HB_17.out).h4 HA.out.k4 (HA.out.up HB_17.out).h5 HA.out.k5 (HA.out.up HB_17.out).h6 HA.out.k6 (HA.out.up HB_17.out).h7 HA.out.k7 HE2.out).mono ?_
  rintro e w18 ⟨rfl, hb⟩
  refine ⟨_, rfl, ?_⟩
  have BK3_18 := Aside0.mk (blk_below BK3_17.out hb)
  have BK4_18 := Aside0.mk (blk_below BK4_17.out hb)
  have BK5_18 := Aside0.mk (blk_below BK5_17.out hb)
  have BK7_18 := Aside0.mk (blk_below BK7_17.out hb)
  have BK8_18 := Aside0.mk (blk_below BK8_17.out hb)
  have HB_18 := Aside0.mk (below_step HB_17.out hb)
  have HT4 := Aside0.mk (HT3.out.below hb)
  have HU4 := Aside0.mk (below_step HU3.out hb)
  clear HT3 HU3
  have HT3 := HT4
  have HU3 := HU4
  clear HT4 HU4
  clear hHeld hb
  refine hK.out _ _ ⟨(blk_cell BK3_18.out 0).trans rfl, (blk_cell BK3_18.out 1).trans rfl, (blk_cell BK4_18.out 0).trans rfl, (blk_cell BK4_18.out 1).trans rfl, (blk_cell BK8_18.out 0).trans rfl, (blk_cell BK8_18.out 1).trans rfl, (blk_cell BK5_18.out 0).trans rfl, (blk_cell BK5_18.out 1).trans rfl, (blk_cell BK5_18.out 2).trans rfl, (blk_cell BK5_18.out 3).trans rfl, (blk_cell BK5_18.out 4).trans rfl, (blk_cell BK5_18.out 5).trans rfl⟩ (fun hHeld => ?_)
  clear hK K
  refine norm_ (a' := ?_) ?_ ?_
  rotate_left
  · show Act.put _ (some 71) _ = _
    simp only [Act.put, List.setIfInBounds_toArray, List.set_cons_zero, List.set_cons_succ]
    rfl
  refine pure_ (i := 24) (N := some 72) (v := ?_) (a' := ?_) #[true, true, true, true, true, true, true, true, true, true, true, true, true, true, true, true, true, true, true, true, true, true, true, true, true, false] rfl rfl (by kernel_rfl) (fun _ _ _ h => h) (Or.inl ⟨by rfl, ?_⟩) ?_ ?_
  rotate_left
  · intro w'
    go_simp
    (try simp only [bne_self_eq_false])
    with_reducible rfl
  rotate_left
  · simp only [Act.put, List.setIfInBounds_toArray, List.set_cons_zero, List.set_cons_succ]
    rfl
  refine pure_ (i := 25) (N := some 73) (v := ?_) (a' := ?_) #[true, true, true, true, true, true, true, true, true, true, true, true, true, true, true, true, true, true, true, true, true, true, true, true, true, true] rfl rfl (by kernel_rfl) (fun _ _ _ h => h) (Or.inl ⟨by rfl, ?_⟩) ?_ ?_
  rotate_left
  · intro w'
    go_simp
    with_reducible rfl
  rotate_left
  · simp only [Act.put, List.setIfInBounds_toArray, List.set_cons_zero, List.set_cons_succ]
    rfl
  refine done_ (by kernel_rfl) ?_
  go_wp2
  have hbd := below_drew1 (Below.refl w18.heap.size w18)
  have BK3_19 := Aside0.mk (blk_below BK3_18.out hbd)
  have BK4_19 := Aside0.mk (blk_below BK4_18.out hbd)
  have BK5_19 := Aside0.mk (blk_below BK5_18.out hbd)
  have BK7_19 := Aside0.mk (blk_below BK7_18.out hbd)
  have BK8_19 := Aside0.mk (blk_below BK8_18.out hbd)
  have HB_19 := Aside0.mk (below_step HB_18.out hbd)
  have HT4 := Aside0.mk (HT3.out.below hbd)
  have HU4 := Aside0.mk (below_step HU3.out hbd)
  clear HT3 HU3 hbd hHeld
  refine start_ (n := 9) (S := (fun w' => w'.cell? ⟨gb8, 0, none⟩ = some (.slice AG gs.length cG) ∧ w'.cell? ⟨gb8, 1, none⟩ = some (.slice AC cs.length cC))) (ds := []) #[false, false, false, false, false, false, false, false, false] (by kernel_rfl) rfl rfl ⟨(blk_cell BK8_19.out 0).trans rfl, (blk_cell BK8_19.out 1).trans rfl⟩ (fun hHeld => ?_)
  generalize w18.drew = w19 at BK3_19 BK4_19 BK5_19 BK7_19 BK8_19 HB_19 HT4 HU4 hHeld ⊢
  refine pure_ (i := 1) (N := some 75) (v := ?_) (a' := ?_) #[false, true, false, false, false, false, false, false, false] rfl rfl (by kernel_rfl) (fun _ _ _ h => h) (Or.inl ⟨by rfl, ?_⟩) ?_ ?_
  rotate_left
  · intro w'
    go_simp
    with_reducible rfl
  rotate_left
  · simp only [Act.put, List.setIfInBounds_toArray, List.set_cons_zero, List.set_cons_succ]
    rfl
  refine pure_ (i := 4) (N := some 78) (v := ?_) (a' := ?_) #[false, true, false, false, true, false, false, false, false] rfl rfl (by kernel_rfl) (fun _ _ _ h => h) (Or.inl ⟨by rfl, ?_⟩) ?_ ?_
  rotate_left
  · intro w'
    go_simp
    with_reducible rfl
  rotate_left
  · simp only [Act.put, List.setIfInBounds_toArray, List.set_cons_zero, List.set_cons_succ]
    rfl
  refine pure_ (i := 8) (N := some 82) (v := ?_) (a' := ?_) #[false, true, false, false, true, false, false, false, true] rfl rfl (by kernel_rfl) (fun _ _ _ h => h) (Or.inl ⟨by rfl, ?_⟩) ?_ ?_
  rotate_left
  · intro w'
    go_simp
    with_reducible rfl
  rotate_left
  · simp only [Act.put, List.setIfInBounds_toArray, List.set_cons_zero, List.set_cons_succ]
    rfl
  refine take_ (i := 2) (N := some 76) (v := ?_) (a' := ?_) #[false, true, true, false, true, false, false, false, true] rfl rfl (by kernel_rfl) (fun _ _ _ h => h) (Or.inl ⟨by rfl, ?_⟩) hHeld ?_ ?_
  rotate_left
  · rintro w' ⟨s0, s1⟩
    go_simp
    with_reducible rfl
  rotate_left
  · simp only [Act.put, List.setIfInBounds_toArray, List.set_cons_zero, List.set_cons_succ]
    rfl
  refine take_ (i := 5) (N := some 79) (v := ?_) (a' := ?_) #[false, true, true, false, true, true, false, false, true] rfl rfl (by kernel_rfl) (fun _ _ _ h => h) (Or.inl ⟨by rfl, ?_⟩) hHeld ?_ ?_
  rotate_left
  · rintro w' ⟨s0, s1⟩
    go_simp
    with_reducible rfl
  rotate_left
  · simp only [Act.put, List.setIfInBounds_toArray, List.set_cons_zero, List.set_cons_succ]
    rfl
  refine one_ (i := 0) (N := some 74) #[true, true, true, false, true, true, false, false, true] rfl rfl (by kernel_rfl) (by decide) (fun K hK => ?_)
  refine Kd.R_lit_step kSl (w0 := w19) w19.heap.size 33 ?hg (N := 74) ?hd (xs := ([] : List Sl)) (inner := []) (ok := fun _ => True) (okp := fun _ => True) ?hr ?hp (fun _ hk => hk) trivial (Below.refl _ _) (Nat.le_refl _) (by simp) ?_
  case hd => rfl
  case hg => rfl
  case hr => first | (go_simp; done) | (go_simp; rfl)
  case hp => exact Reps.none _ _
  intro u1 wa ho hb _ _
  have HOa := Aside0.mk ho
  have HBa := Aside0.mk hb
  clear hHeld ho hb
  refine hK.out _ _ ⟨(blk_cell (blk_below BK8_19.out HBa.out) 0).trans rfl, (blk_cell (blk_below BK8_19.out HBa.out) 1).trans rfl⟩ (fun hHeld => ?_)
  clear hK K
  refine norm_ (a' := ?_) ?_ ?_
  rotate_left
  · show Act.put _ (some 74) _ = _
    simp only [Act.put, List.setIfInBounds_toArray, List.set_cons_zero, List.set_cons_succ]
    rfl
  have HLL : Aside0 (gs.length ≤ 100000 ∧ cs.length ≤ 100000) := ⟨by have h1 := HT4.out.gr.len; have h2 := HT4.out.cr.len; have := HSZ.out.1; omega⟩
  refine one_ (i := 3) (N := some 77) #[true, true, true, true, true, true, false, false, true] rfl rfl (by kernel_rfl) (by decide) (fun K hK => ?_)
  refine Kd.R_append_rows_step kSl (w0 := w19) w19.heap.size (by rfl) (.tmp 74) (.tmp 76) 30 33 (.slice none 0 0) 24 rfl Try.underlying30 info33 rfl (by decide) (by decide) u1 ([] : List Sl) gs _ _ _ (fun _ => True) (fun _ => False) rfl rfl ?aO ?aR (fun _ _ h => h) (fun _ h => h.elim) ?aF ?aB ?aS ?aL ?_
  case aR => exact (Kd.Q_reads' (HT4.out.below HBa.out).qG.q).2.2
  case aB => exact HBa.out
  case aF => exact fun _ _ => trivial
  case aO => exact HOa.out
  case aS => exact HBa.out.size
  case aL => have := HLL.out; simp only [List.length_nil, List.nil_append]; omega
  intro ub wb ho hb _ _
  have HOb := Aside0.mk ho
  have HBb := Aside0.mk hb
  clear hHeld ho hb
  refine hK.out _ _ ⟨(blk_cell (blk_below BK8_19.out HBb.out) 0).trans rfl, (blk_cell (blk_below BK8_19.out HBb.out) 1).trans rfl⟩ (fun hHeld => ?_)
  clear hK K
  refine norm_ (a' := ?_) ?_ ?_
  rotate_left
  · show Act.put _ (some 77) _ = _
    simp only [Act.put, List.setIfInBounds_toArray, List.set_cons_zero, List.set_cons_succ]
    rfl
  refine one_ (i := 6) (N := some 80) #[true, true, true, true, true, true, true, false, true] rfl rfl (by kernel_rfl) (by decide) (fun K hK => ?_)
  refine Kd.R_append_rows_step kSl (w0 := w19) w19.heap.size (by rfl) (.tmp 77) (.tmp 79) 30 33 (.slice none 0 0) 24 rfl Try.underlying30 info33 rfl (by decide) (by decide) ub ([] ++ gs) cs _ _ _ (fun _ => True) (fun _ => False) rfl rfl ?aO ?aR (fun _ _ h => h) (fun _ h => h.elim) ?aF ?aB ?aS ?aL ?_
  case aR => exact (Kd.Q_reads' (HT4.out.below HBb.out).qC.q).2.2
  case aB => exact HBb.out
  case aF => exact fun _ _ => trivial
  case aO => exact HOb.out
  case aS => exact HBb.out.size
  case aL => have := HLL.out; simp only [List.length_nil, List.nil_append]; omega
  intro uc wc ho hb _ _
  have HOc := Aside0.mk ho
  have HBc := Aside0.mk hb
  clear hHeld ho hb
  obtain ⟨A80, c80, rfl⟩ := Kd.R_slice HOc.out
  obtain ⟨n80, hn80⟩ : ∃ n, n = ([] ++ gs ++ cs).length := ⟨_, rfl⟩
  rw [← hn80]
  have HN80 := Aside0.mk hn80
  clear hn80
  refine hK.out _ _ ⟨(blk_cell (blk_below BK8_19.out HBc.out) 0).trans rfl, (blk_cell (blk_below BK8_19.out HBc.out) 1).trans rfl⟩ (fun hHeld => ?_)
  clear hK K
  refine norm_ (a' := ?_) ?_ ?_
  rotate_left
  · show Act.put _ (some 80) _ = _
    simp only [Act.put, List.setIfInBounds_toArray, List.set_cons_zero, List.set_cons_succ]
    rfl
  refine pure_ (i := 7) (N := some 81) (v := ?_) (a' := ?_) #[true, true, true, true, true, true, true, true, true] rfl rfl (by kernel_rfl) (fun _ _ _ h => h) (Or.inl ⟨by rfl, ?_⟩) ?_ ?_
  rotate_left
  · intro w'
    go_simp
    with_reducible rfl
  rotate_left
  · simp only [Act.put, List.setIfInBounds_toArray, List.set_cons_zero, List.set_cons_succ]
    rfl
  refine done_ (by kernel_rfl) ?_
  have hI : Inc w9 wc w9.heap.size (.slice A80 ([] ++ gs ++ cs).length c80) (gs ++ cs) := by
    have hT := HT4.out.below HBc.out
    refine ⟨⟨rfl, Kd.Q_lower (Kd.Q_of_R HOc.out) ?_⟩, ⟨ag ++ ac, ?_⟩, hT.a29, below_step HU4.out HBc.out⟩
    · exact HU4.out.size
    · refine ⟨by rw [List.length_append, List.length_append, hT.gr.len, hT.cr.len], fun i s xs h1 h2 => ?_⟩
      rcases Nat.lt_or_ge i gs.length with hi | hi
      · rw [List.getElem?_append_left hi] at h1
        rw [List.getElem?_append_left (hT.gr.len ▸ hi)] at h2
        exact hT.gr.row i s xs h1 h2
      · rw [List.getElem?_append_right hi] at h1
        rw [List.getElem?_append_right (hT.gr.len ▸ hi), ← hT.gr.len] at h2
        exact hT.cr.row _ s xs h1 h2
  have hn80 : n80 = (gs ++ cs).length := by rw [HN80.out, List.nil_append]
  rw [List.nil_append] at hI
  clear HN80
  subst hn80
  have hN80 : Aside0 ((gs ++ cs).length ≤ 200000) := ⟨by rw [List.length_append]; have := HLL.out; omega⟩
  have HI0 := Aside0.mk hI
  generalize gs ++ cs = ss at HI0 hN80 ⊢
  clear hI hHeld HOa HBa HOb HBb HOc HBc HLL
  go_wp2
  go_loopw [82] (fun v82 wr => ∃ i : Nat, v82 = .int .i64 (i : Int) ∧ Aside0 (i ≤ ss.length) ∧ Aside0 (Inc w9 wr w9.heap.size (.slice A80 ss.length c80) ss)) (fun v82 _ => ss.length - (intOf v82).toNat)
  case atStart => exact ⟨0, rfl, ⟨Nat.zero_le _⟩, HI0⟩
  case round =>
    obtain ⟨i, rfl, HN, HI⟩ := hrel
    by_cases hil : i < ss.length
    · have hlt : (i : Int) < (ss.length : Int) := by omega
      have hge : (0 : Int) ≤ (i : Int) := by omega
      obtain ⟨ad, A1_, n1, c1_, e1_, hs, x0, hn1⟩ := HI.out.row i hil
      subst e1_
      have HS := Aside0.mk hs
      have HN1 := Aside0.mk hn1
      have hw : wrap64 ((i : Int) + 1) = ((i + 1 : Nat) : Int) := by have := hN80.out; unfold wrap64; omega
      have HW := Aside0.mk hw
      clear hs hn1 hw
      go_wp2
      clear x0
      go_loopw [88] (fun v88 wr => ∃ j : Nat, v88 = .int .i64 (j : Int) ∧ Aside0 (j ≤ n1) ∧ Aside0 (Inc w9 wr w9.heap.size (.slice (some ad) ss.length c80) ss)) (fun v88 _ => n1 - (intOf v88).toNat)
      case atStart => exact ⟨0, rfl, ⟨Nat.zero_le _⟩, HI⟩
      case round =>
        obtain ⟨j, rfl, HM, HJ⟩ := hrel
        by_cases hjl : j < n1
        · have hlt2 : (j : Int) < (n1 : Int) := by omega
          have hge2 : (0 : Int) ≤ (j : Int) := by omega
          obtain ⟨ad2, x, e2_, y0, yf, hput⟩ := HJ.out.elem HS.out hjl
          subst e2_
          have HP := Aside0.mk hput
          have hw2 : wrap64 ((j : Int) + 1) = ((j + 1 : Nat) : Int) := by have := HN1.out; unfold wrap64; omega
          have HW2 := Aside0.mk hw2
          clear hput hw2
          go_wp2
          go_roundw
          case rel => exact ⟨j + 1, by rw [HW2.out], ⟨hjl⟩, ⟨HP.out _⟩⟩
          case measure =>
            have hz := HW2.out
            clear HW2 HW
            generalize wrap64 ((j : Int) + 1) = z at hz ⊢
            subst hz
            show n1 - (((j + 1 : Nat) : Int)).toNat < n1 - ((j : Nat) : Int).toNat
            rw [Int.toNat_natCast, Int.toNat_natCast]
            exact Nat.sub_lt_sub_left hjl (Nat.lt_succ_self j)
        · have hge3 : ¬ (j : Int) < (n1 : Int) := by omega
          go_wp2
          go_roundw
          case rel => exact ⟨i + 1, by rw [HW.out], ⟨hil⟩, HJ⟩
          case measure =>
            have hz := HW.out
            clear HW
            generalize wrap64 ((i : Int) + 1) = z at hz ⊢
            subst hz
            show ss.length - (((i + 1 : Nat) : Int)).toNat < ss.length - ((i : Nat) : Int).toNat
            rw [Int.toNat_natCast, Int.toNat_natCast]
            exact Nat.sub_lt_sub_left hil (Nat.lt_succ_self i)
    · have hge4 : ¬ (i : Int) < (ss.length : Int) := by omega
      have hbz := HI.out.b
      have y3_0 : wr.cell? ⟨gb3, 0, none⟩ = some (.slice A0 ag.length c0) := (blk_cell (blk_below BK3_9.out hbz) 0).trans rfl
      have y3_1 : wr.cell? ⟨gb3, 1, none⟩ = some (.slice A1 ac.length c1) := (blk_cell (blk_below BK3_9.out hbz) 1).trans rfl
      have y7_0 : wr.cell? ⟨gb7, 0, none⟩ = some (.slice Aw0 ag.length cw0) := (blk_cell (blk_below BK7_9.out hbz) 0).trans rfl
      have y7_1 : wr.cell? ⟨gb7, 1, none⟩ = some (.slice Aw1 ac.length cw1) := (blk_cell (blk_below BK7_9.out hbz) 1).trans rfl
      have HZ := Aside0.mk (below_step HB_9.out hbz)
      have HZV0 := Aside0.mk (Kd.C_below HV0.out hbz)
      have HZV1 := Aside0.mk (Kd.C_below HV1.out hbz)
      clear hbz
      go_wp2_with (first
        | (go_at_call 18; refine (trickleref19_Equal.calls k A0 c0 ag A1 c1 ac Aw0 cw0 ag Aw1 cw1 ac true _ (HA.out.up HZ.out).h0 HA.out.k0 (HA.out.up HZ.out).h1 HA.out.k1 HZV0.out HCW0.out HZV1.out HCW1.out HQ2.out).mono ?_; rintro e wz ⟨rfl, hb⟩; have HZZ := Aside0.mk (below_step HZ.out hb); clear hb))
      go_ret
      exact ⟨rfl, HZZ.out⟩
end Go.Proofs.Yteonloecenodbaa.PX
/- Arguments opened: what a reading of a type gives in the words of the printed contracts (Kd.K, Kd.C). Of no program. -/
namespace Go.Proofs.Yteonloecenodbaa.PX
open Go.RowKit Go.Proofs.YteonloecenodbaaW.PrintWords
set_option linter.unusedVariables false
/-- A relation between what a value stands for and what it reads as. -/
abbrev Rd (α : Type) := (H : Type) → α → DataW H → Prop
abbrev RdF (α : Type) := (H : Type) → α → List (DataW H) → Prop
structure OpensAt (N : Nat) (P : Program) {α : Type} (d : Kd α) (t : TypeId) (q : Rd α) : Prop where
  sz : d.sz = P.cellsOf t
  op : ∀ {H : Type} {enc : TypeId × Value → H} {w : World} {base : Nat} {spare : Nat → Bool} {held : Bool} {fuel : Nat} {cs : List Value} {y : DataW H × List MemPlace}, fuel ≤ N →
    DataW.trod enc P w base spare held fuel t cs = some y → ∃ x, d.K w x cs ∧ q H x y.1
structure OpensF (N : Nat) (P : Program) {α : Type} (d : Kd α) (fs : List Field) (off : Nat) (q : RdF α) : Prop where
  op : ∀ {H : Type} {enc : TypeId × Value → H} {w : World} {base : Nat} {spare : Nat → Bool} {held : Bool} {n : Nat} {cs : List Value} {ys : List (DataW H × List MemPlace)}, n ≤ N → cs.length = off + d.sz → ys.length = fs.length →
    (∀ (j : Nat) (f : Field), fs[j]? = some f → DataW.trod enc P w base spare held n f.type ((cs.drop f.offset).take (P.cellsOf f.type)) = ys[j]?) → ∃ x, d.K w x (cs.drop off) ∧ q H x (ys.map (·.1))
def rInt (k : IntKind) : Rd Int := fun _ n y => y = .lit (.int k n) ∧ (Lit.int k n).wf = true
def rBool : Rd Bool := fun _ b y => y = .lit (.bool b)
def rSl {α : Type} (q : Rd α) : Rd (List α) := fun H xs y => (xs = [] ∧ y = .nil) ∨ ∃ es rest, y = .slice es rest ∧ es.length = xs.length ∧ ∀ (i : Nat) (x : α) (e : DataW H), xs[i]? = some x → es[i]? = some e → q H x e
def rOne {α : Type} (q : Rd α) : RdF α := fun H x ys => ∃ y, ys = [y] ∧ q H x y
def rCons {α β : Type} (q : Rd α) (r : RdF β) : RdF (α × β) := fun H x ys => ∃ y zs, ys = y :: zs ∧ q H x.1 y ∧ r H x.2 zs
def rSt {α β : Type} (f : β → α) (q : RdF α) : Rd β := fun H x y => ∃ ys, y = .agg ys ∧ q H (f x) ys
section
variable {N : Nat} {P : Program}
theorem OpensAt.zero {α : Type} {d : Kd α} {t : TypeId} {q : Rd α} (hsz : d.sz = P.cellsOf t) : OpensAt 0 P d t q := ⟨hsz, fun {H enc w base spare held fuel cs y} hf h => by
  obtain rfl : fuel = 0 := by omega
  simp [DataW.trod] at h⟩
theorem OpensAt.int {t : TypeId} {k : IntKind} (ht : P.underlying t = some (.int k)) (hc : P.cellsOf t = 1) : OpensAt N P (Kd.int k) t (rInt k) := ⟨hc.symm, fun hf h => by
  obtain ⟨n, rfl, rfl, hw⟩ := DataW.trod_int ht h
  exact ⟨n, rfl, rfl, hw⟩⟩
theorem OpensAt.bool {t : TypeId} (ht : P.underlying t = some .bool) (hc : P.cellsOf t = 1) : OpensAt N P Kd.bool t rBool := ⟨hc.symm, fun hf h => by
  obtain ⟨b, rfl, rfl⟩ := DataW.trod_bool ht h
  exact ⟨b, rfl, rfl⟩⟩
theorem choose_list {α β : Type} {n : Nat} {R : Nat → α → Prop} (h : ∀ i, i < n → ∃ x, R i x) : ∃ xs : List α, xs.length = n ∧ ∀ i x, xs[i]? = some x → R i x := by
  induction n with
  | zero => exact ⟨[], rfl, fun i x h => by simp at h⟩
  | succ n ih =>
    obtain ⟨xs, hl, hx⟩ := ih (fun i hi => h i (by omega))
    obtain ⟨y, hy⟩ := h n (by omega)
    refine ⟨xs ++ [y], by simp [hl], fun i x hi => ?_⟩
    by_cases hlt : i < xs.length
    · rw [List.getElem?_append_left hlt] at hi
      exact hx i x hi
    · rw [List.getElem?_append_right (by omega)] at hi
      have : i - xs.length = 0 := by
        by_cases h0 : i - xs.length = 0
        · exact h0
        · rw [List.getElem?_eq_none (by simp; omega)] at hi
          cases hi
      rw [this] at hi
      have he : i = n := by omega
      subst he
      injection hi with hi
      subst hi
      exact hy
/-- A slice, its elements opened. -/
theorem OpensAt.sl {α : Type} {d : Kd α} {t e : TypeId} {q : Rd α} (ht : P.underlying t = some (.slice e)) (hc : P.cellsOf t = 1) (hd : OpensAt N P d e q) : OpensAt N P (Kd.slice e d) t (rSl q) := ⟨hc.symm, fun {H enc w base spare held fuel cs y} hf h => by
  rcases DataW.trod_slice ht h with ⟨rfl, rfl⟩ | ⟨a, len, cap, elems, rest, n, rfl, rfl, rfl, hb, hl, hm, hlen, hel, _, _⟩
  · exact ⟨[], ⟨none, 0, rfl, Nat.le_refl _, rfl, by simp, fun h => absurd h (by simp)⟩, .inl ⟨rfl, rfl⟩⟩
  · have hall : ∀ i, i < len → ∃ x : α × List Value × DataW H, w.cells? base (a.add (i * P.cellsOf e)) (P.cellsOf e) = some x.2.1 ∧ d.K w x.1 x.2.1 ∧ q H x.1 x.2.2 ∧ (elems[i]?).map (·.1) = some x.2.2 := by
      intro i hi
      have h1 := hel i hi
      rw [List.getElem?_eq_getElem (by omega)] at h1
      obtain ⟨cs', hc1, hc2⟩ := Option.bind_eq_some_iff.mp h1
      obtain ⟨x, hx, hq⟩ := hd.op (by omega) hc2
      exact ⟨(x, cs', elems[i].1), hc1, hx, hq, by rw [List.getElem?_eq_getElem (by omega)]; rfl⟩
    obtain ⟨xs, hxl, hxs⟩ := choose_list (β := Nat) hall
    refine ⟨xs.map (·.1), ⟨some a, cap, by simp [hxl], by simp [hxl, hl], by simp, by simp only [maxLen] at hm; simp; omega, fun h0 => ⟨a, rfl, fun j p hj => ?_⟩⟩, .inr ⟨_, _, rfl, by simp [hlen, hxl], fun i x e0 hi he => ?_⟩⟩
    · rw [List.getElem?_map] at hj
      obtain ⟨x, hx, rfl⟩ := Option.map_eq_some_iff.mp hj
      obtain ⟨h1, h2, h3, _⟩ := hxs j x hx
      obtain ⟨_, hcl, hat⟩ := World.cells?_some h1
      refine ⟨x.2.1, by rw [hd.sz]; exact hcl, h2, fun i u hu => ?_⟩
      have hil : i < P.cellsOf e := by rw [← hcl]; exact (List.getElem?_eq_some_iff.1 hu).1
      rw [hd.sz, ← Go.Deep.add_add, hat i hil, hu]
    · rw [List.getElem?_map] at hi he
      obtain ⟨x1, hx, rfl⟩ := Option.map_eq_some_iff.mp hi
      obtain ⟨_, _, h3, h4⟩ := hxs i x1 hx
      rw [h4] at he
      injection he with he
      subst he
      exact h3⟩
theorem OpensF.one {α : Type} {d : Kd α} {f : Field} {off : Nat} {q : Rd α} (hd : OpensAt N P d f.type q) (ho : f.offset = off) : OpensF N P d [f] off (rOne q) := ⟨fun {H enc w base spare held n cs ys} hn hl hy h => by
  match ys, hy with
  | [y], _ =>
    have h0 := h 0 f rfl
    rw [ho, List.take_of_length_le (by rw [List.length_drop, ← hd.sz]; omega)] at h0
    obtain ⟨x, hx, hq⟩ := hd.op hn h0
    exact ⟨x, hx, _, rfl, hq⟩⟩
theorem OpensF.cons {α β : Type} {d : Kd α} {d2 : Kd β} {f : Field} {fs : List Field} {off : Nat} {q : Rd α} {r : RdF β} (hd : OpensAt N P d f.type q) (ho : f.offset = off) (hr : OpensF N P d2 fs (off + d.sz) r) : OpensF N P (Kd.pair d d2) (f :: fs) off (rCons q r) := ⟨fun {H enc w base spare held n cs ys} hn hl hy h => by
  match ys, hy with
  | y :: zs, hy =>
    have h0 := h 0 f rfl
    rw [ho, ← hd.sz] at h0
    obtain ⟨x, hx, hq⟩ := hd.op hn h0
    obtain ⟨x2, hx2, hq2⟩ := hr.op (w := w) (enc := enc) (base := base) (spare := spare) (held := held) (cs := cs) (ys := zs) hn (by rw [hl]; show off + (d.sz + d2.sz) = _; omega) (by simpa using hy) (fun j f1 hj => h (j + 1) f1 hj)
    refine ⟨(x, x2), ⟨(cs.drop off).take d.sz, cs.drop (off + d.sz), ?_, hx, hx2⟩, y.1, zs.map (·.1), rfl, hq, hq2⟩
    rw [← List.drop_drop]
    exact (List.take_append_drop _ _).symm⟩
/-- A struct: N goes down by one at its fields. -/
theorem OpensAt.st {α β : Type} {d : Kd α} {t : TypeId} {fs : Array Field} {q : RdF α} (f : β → α) (g : α → β) (hg : ∀ x, f (g x) = x) (ht : P.underlying t = some (.struct fs)) (hc : d.sz = P.cellsOf t) (hF : OpensF N P d fs.toList 0 q) : OpensAt (N + 1) P (Kd.iso d f) t (rSt f q) := ⟨hc, fun {H enc w base spare held fuel cs y} hf h => by
  obtain ⟨xs, n, rfl, rfl, hl, hn, hi⟩ := DataW.trod_struct ht h
  obtain ⟨x, hx, hq⟩ := hF.op (w := w) (enc := enc) (base := base) (spare := spare) (held := held) (cs := cs) (ys := xs) (n := n) (by omega) (by rw [hl, ← hc]; omega) (by simpa using hn) (fun j f1 hj => hi j f1 (by simpa using hj))
  refine ⟨g x, ?_, _, rfl, ?_⟩
  · show d.K w (f (g x)) cs
    rw [hg]
    simpa using hx
  · rw [hg]; exact hq⟩
theorem OpensAt.stAny {α β : Type} {d : Kd α} {t : TypeId} {fs : Array Field} {q : RdF α} (f : β → α) (g : α → β) (hg : ∀ x, f (g x) = x) (ht : P.underlying t = some (.struct fs)) (hc : d.sz = P.cellsOf t) (hF : ∀ M, OpensF M P d fs.toList 0 q) (N : Nat) : OpensAt N P (Kd.iso d f) t (rSt f q) := by
  cases N with
  | zero => exact OpensAt.zero hc
  | succ N => exact OpensAt.st f g hg ht hc (hF N)
end
end Go.Proofs.Yteonloecenodbaa.PX
/- This seat's types, opened: states, effects. -/
namespace Go.Proofs.Yteonloecenodbaa.PX
open Go.RowKit Go.Proofs.YteonloecenodbaaW.PrintWords
abbrev q29 : Rd Int := rInt .i16
abbrev q110 : Rd S110 := rSt (fun x : S110 => (x.f0, x.f1)) (rCons (rInt .i64) (rOne q29))
abbrev q32 : Rd (List (List Int) × List (List Int)) := rSt id (rCons (rSl (rSl q29)) (rOne (rSl (rSl q29))))
abbrev q41 : Rd (List Int × List S110 × Int) := rSt id (rCons (rSl q29) (rCons (rSl q110) (rOne (rInt .i64))))
theorem open29 (M : Nat) : OpensAt M Try.prog (Kd.int .i16) 29 q29 := OpensAt.int Try.underlying29 (by kernel_rfl)
theorem open33 (M : Nat) : OpensAt M Try.prog (Kd.slice 29 (Kd.int .i16)) 33 (rSl q29) := OpensAt.sl Try.underlying33 (by kernel_rfl) (open29 M)
theorem open30 (M : Nat) : OpensAt M Try.prog (Kd.slice 33 (Kd.slice 29 (Kd.int .i16))) 30 (rSl (rSl q29)) := OpensAt.sl Try.underlying30 (by kernel_rfl) (open33 M)
theorem open110 (M : Nat) : OpensAt M Try.prog k110 110 q110 :=
  OpensAt.stAny _ (fun p => ⟨p.1, p.2⟩) (fun _ => rfl) Try.underlying110 (by kernel_rfl) (fun M => OpensF.cons (OpensAt.int Try.underlying3 (by kernel_rfl)) (by rfl) (OpensF.one (open29 M) (by rfl))) M
theorem open39 (M : Nat) : OpensAt M Try.prog (Kd.slice 110 k110) 39 (rSl q110) := OpensAt.sl Try.underlying39 (by kernel_rfl) (open110 M)
set_option maxRecDepth 100000 in
theorem open32 (M : Nat) : OpensAt M Try.prog (Kd.iso (Kd.pair (Kd.slice 33 (Kd.slice 29 (Kd.int .i16))) (Kd.slice 33 (Kd.slice 29 (Kd.int .i16)))) id) 32 q32 :=
  OpensAt.stAny id id (fun _ => rfl) Try.underlying32 (by kernel_rfl) (fun M => OpensF.cons (open30 M) (by rfl) (OpensF.one (open30 M) (by rfl))) M
set_option maxRecDepth 100000 in
theorem open41 (M : Nat) : OpensAt M Try.prog (Kd.iso (Kd.pair (Kd.slice 29 (Kd.int .i16)) (Kd.pair (Kd.slice 110 k110) (Kd.int .i64))) id) 41 q41 :=
  OpensAt.stAny id id (fun _ => rfl) Try.underlying41 (by kernel_rfl) (fun M => OpensF.cons (open33 M) (by rfl) (OpensF.cons (open39 M) (by rfl) (OpensF.one (OpensAt.int Try.underlying3 (by kernel_rfl)) (by rfl)))) M
set_option maxRecDepth 100000 in
theorem open_state {H : Type} {enc : TypeId × Value → H} {w : World} {base b0 : Nat} {spare : Nat → Bool} {held : Bool} {r : Reach} {v : Value} {y : DataW H} {p : List MemPlace}
    (hv : Value.okWide Try.prog w r b0 32 v) (h : DataW.Trod enc Try.prog w base spare held 32 v y p) :
    ∃ (A0 : Option Addr) (c0 : Nat) (l0 : List (List Int)) (A1 : Option Addr) (c1 : Nat) (l1 : List (List Int)), v = .agg #[.slice A0 l0.length c0, .slice A1 l1.length c1] ∧ l0.length ≤ c0 ∧ l1.length ≤ c1 ∧
      Kd.C (Kd.slice 29 (Kd.int .i16)) w A0 l0.length l0 ∧ Kd.C (Kd.slice 29 (Kd.int .i16)) w A1 l1.length l1 ∧ q32 H (l0, l1) y := by
  obtain ⟨cs, rfl, hs⟩ := WideShapes.okWide_struct Try.underlying32 hv
  obtain ⟨fuel, hf⟩ := h
  obtain ⟨⟨l0, l1⟩, hK, hq⟩ := (open32 fuel).op (Nat.le_refl fuel) hf
  obtain ⟨xs, xr, he, ⟨A0, c0, h1, k1, C1⟩, ⟨A1, c1, h2, k2, C2⟩⟩ := hK
  subst h1 h2
  refine ⟨A0, c0, l0, A1, c1, l1, ?_, k1, k2, C1, C2, hq⟩
  have he' : cs.toList = [.slice A0 l0.length c0, .slice A1 l1.length c1] := by simpa [Value.cells] using he
  exact congrArg Value.agg (Array.ext' (by rw [he']))
theorem okWide_array {P : Program} {w : World} {r : Reach} {b0 : Nat} {t e : TypeId} {n : Nat} {v : Value} (hu : P.underlying t = some (.array n e)) (hv : Value.okWide P w r b0 t v) : ∃ cs, v = .agg cs := by
  unfold Value.okWide at hv
  rw [hu] at hv
  obtain ⟨cs, h, _⟩ := hv
  exact ⟨cs, h⟩
theorem cells41 : Try.prog.cellsOf 41 = 3 := by kernel_rfl
theorem cells65 : Try.prog.cellsOf 65 = 6 := by kernel_rfl
set_option maxRecDepth 100000 in
theorem open_effs {H : Type} {enc : TypeId × Value → H} {w : World} {base b0 : Nat} {spare : Nat → Bool} {held : Bool} {r : Reach} {v : Value} {y : DataW H} {p : List MemPlace}
    (hv : Value.okWide Try.prog w r b0 65 v) (h : DataW.Trod enc Try.prog w base spare held 65 v y p) :
    ∃ (A4 : Option Addr) (c4 : Nat) (e0 : List Int) (A5 : Option Addr) (c5 : Nat) (o0 : List S110) (d0 : Int) (A6 : Option Addr) (c6 : Nat) (e1 : List Int) (A7 : Option Addr) (c7 : Nat) (o1 : List S110) (d1 : Int),
      v = .agg #[.slice A4 e0.length c4, .slice A5 o0.length c5, .int .i64 d0, .slice A6 e1.length c6, .slice A7 o1.length c7, .int .i64 d1] ∧ (e0.length ≤ c4 ∧ o0.length ≤ c5 ∧ e1.length ≤ c6 ∧ o1.length ≤ c7) ∧
      (Kd.C (Kd.int .i16) w A4 e0.length e0 ∧ Kd.C k110 w A5 o0.length o0 ∧ Kd.C (Kd.int .i16) w A6 e1.length e1 ∧ Kd.C k110 w A7 o1.length o1) ∧ ∃ y0 y1, y = .agg [y0, y1] ∧ q41 H (e0, o0, d0) y0 ∧ q41 H (e1, o1, d1) y1 := by
  obtain ⟨cs, rfl⟩ := okWide_array Try.underlying65 hv
  obtain ⟨fuel, hf⟩ := h
  obtain ⟨xs, m, rfl, hx, hl, hn, hi⟩ := DataW.trod_array Try.underlying65 hf
  rw [cells65] at hl
  match xs, hn with
  | [x0, x1], _ =>
    have h0 := hi 0 (by omega)
    have h1 := hi 1 (by omega)
    rw [cells41] at h0 h1
    obtain ⟨⟨e0, o0, d0⟩, hK, hq⟩ := (open41 m).op (Nat.le_refl m) h0
    obtain ⟨⟨e1, o1, d1⟩, hK', hq'⟩ := (open41 m).op (Nat.le_refl m) h1
    obtain ⟨u0, r0, he, ⟨A4, c4, g1, k1, C1⟩, u1, r1, he1, ⟨A5, c5, g2, k2, C2⟩, g3⟩ := hK
    obtain ⟨u0', r0', he', ⟨A6, c6, g1', k1', C1'⟩, u1', r1', he1', ⟨A7, c7, g2', k2', C2'⟩, g3'⟩ := hK'
    have g4 : r1 = [.int .i64 d0] := g3
    have g4' : r1' = [.int .i64 d1] := g3'
    subst g1 g2 g4 he1 g1' g2' g4' he1'
    have hy : y = .agg [x0.1, x1.1] := by
      have := congrArg Prod.fst hx
      exact this
    refine ⟨A4, c4, e0, A5, c5, o0, d0, A6, c6, e1, A7, c7, o1, d1, ?_, ⟨k1, k2, k1', k2'⟩, ⟨C1, C2, C1', C2'⟩, x0.1, x1.1, hy, hq, hq'⟩
    have hcs : (Value.agg cs).cells.toList = (((Value.agg cs).cells.toList.drop (0 * 3)).take 3) ++ (((Value.agg cs).cells.toList.drop (1 * 3)).take 3) := by
      generalize (Value.agg cs).cells.toList = z at hl
      rw [Nat.zero_mul, Nat.one_mul, List.drop_zero, List.take_of_length_le (l := z.drop 3) (by rw [List.length_drop, hl]; omega), List.take_append_drop]
    rw [he, he'] at hcs
    have hcs' : cs.toList = [.slice A4 e0.length c4, .slice A5 o0.length c5, .int .i64 d0, .slice A6 e1.length c6, .slice A7 o1.length c7, .int .i64 d1] := by simpa [Value.cells] using hcs
    exact congrArg Value.agg (Array.ext' (by rw [hcs']))
open Go.ChangeShapes Go.WideShapes
theorem weights_all_mem {H : Type} {P : Program} {e : TypeId} : ∀ (es : List (DataW H)) (d : DataW H), d ∈ es → ∀ n ∈ d.weights P e, n ∈ DataW.weightsAll P e es
  | c :: r, d, hd, n, hn => by
    rw [DataW.weightsAll, List.mem_append]
    rcases List.mem_cons.mp hd with rfl | hd
    · exact .inl hn
    · exact .inr (weights_all_mem r d hd n hn)
/-- What a reading weighs is within reach. -/
def Wt {H : Type} (t : TypeId) (d : DataW H) : Prop := ∀ n ∈ d.weights Try.prog t, n ≤ reachBytes
theorem Wt.arg {H : Type} {ts : List TypeId} {ds : List (DataW H)} (hsz : (DataW.weightsEach Try.prog ts ds).all (· ≤ reachBytes) = true) {j : Nat} {t : TypeId} {d : DataW H} (ht : ts[j]? = some t) (hd : ds[j]? = some d) : Wt t d :=
  fun n hn => of_decide_eq_true (List.all_eq_true.1 hsz _ (DataW.weights_mem_each ht hd n hn))
theorem Wt.field {H : Type} {t : TypeId} {fs : Array Field} {ys : List (DataW H)} (hu : Try.prog.underlying t = some (.struct fs)) (h : Wt t (.agg ys)) {j : Nat} {f : Field} {y : DataW H} (hf : fs.toList[j]? = some f) (hy : ys[j]? = some y) : Wt f.type y := by
  intro n hn
  refine h n ?_
  rw [DataW.weights, hu]
  exact DataW.weights_mem_each (j := j) (by rw [List.getElem?_map, hf]; rfl) hy n hn
theorem Wt.item {H : Type} {t e : TypeId} {k : Nat} {ys : List (DataW H)} (hu : Try.prog.underlying t = some (.array k e)) (h : Wt t (.agg ys)) {y : DataW H} (hy : y ∈ ys) : Wt e y := by
  intro n hn
  refine h n ?_
  rw [DataW.weights, hu]
  exact weights_all_mem ys y hy n hn
theorem Wt.len {H : Type} {t e : TypeId} {α : Type} {q : Rd α} {l : List α} {y : DataW H} (hu : Try.prog.underlying t = some (.slice e)) (hB : 1 ≤ Try.prog.bytesOf e) (h : Wt t y) (hq : rSl q H l y) : l.length ≤ 140737488351232 := by
  rcases hq with ⟨rfl, _⟩ | ⟨es, rest, rfl, hl, _⟩
  · simp
  · have z := h ((es.length + rest.length) * Try.prog.bytesOf e) (by rw [DataW.weights, hu]; exact List.mem_cons_self ..)
    have r : reachBytes = 140737488351232 := rfl
    have h1 : (es.length + rest.length) * 1 ≤ (es.length + rest.length) * Try.prog.bytesOf e := Nat.mul_le_mul_left _ hB
    omega
theorem Wt.elem {H : Type} {t e : TypeId} {α : Type} {q : Rd α} {l : List α} {y : DataW H} (hu : Try.prog.underlying t = some (.slice e)) (h : Wt t y) (hq : rSl q H l y) : ∀ x ∈ l, ∃ z, q H x z ∧ Wt e z := by
  intro x hx
  rcases hq with ⟨rfl, _⟩ | ⟨es, rest, rfl, hl, hi⟩
  · cases hx
  · obtain ⟨i, hlt, rfl⟩ := List.getElem_of_mem hx
    have hlt2 : i < es.length := by omega
    refine ⟨es[i], hi i _ _ (List.getElem?_eq_getElem hlt) (List.getElem?_eq_getElem hlt2), fun n hn => h n ?_⟩
    rw [DataW.weights, hu]
    exact List.mem_cons_of_mem _ (List.mem_append_left _ (weights_all_mem es _ (List.getElem_mem hlt2) n hn))
/-- No list of a state is longer than a machine's reach. -/
def SzS (l : List (List Int)) : Prop := l.length ≤ 140737488351232 ∧ ∀ x ∈ l, x.length ≤ 140737488351232
theorem szS {H : Type} {l : List (List Int)} {y : DataW H} (h : Wt 30 y) (hq : rSl (rSl q29) H l y) : SzS l :=
  ⟨h.len Try.underlying30 (of_decide_eq_true (by kernel_rfl)) hq, fun x hx => by
    obtain ⟨z, hz, hw⟩ := h.elem Try.underlying30 hq x hx
    exact hw.len Try.underlying33 (of_decide_eq_true (by kernel_rfl)) hz⟩
theorem state_sized {H : Type} {l0 l1 : List (List Int)} {y : DataW H} (h : Wt 32 y) (hq : q32 H (l0, l1) y) : SzS l0 ∧ SzS l1 := by
  obtain ⟨ys, rfl, z0, zs, rfl, h0, z1, rfl, h1⟩ := hq
  exact ⟨szS (h.field (j := 0) Try.underlying32 rfl rfl) h0, szS (h.field (j := 1) Try.underlying32 rfl rfl) h1⟩
theorem effs_sized {H : Type} {e : List Int} {o : List S110} {d : Int} {y : DataW H} (h : Wt 41 y) (hq : q41 H (e, o, d) y) : e.length ≤ 140737488351232 ∧ o.length ≤ 140737488351232 := by
  obtain ⟨ys, rfl, z0, zs, rfl, h0, z1, zt, rfl, h1, z2, rfl, h2⟩ := hq
  exact ⟨(h.field (j := 0) Try.underlying41 rfl rfl).len Try.underlying33 (of_decide_eq_true (by kernel_rfl)) h0, (h.field (j := 1) Try.underlying41 rfl rfl).len Try.underlying39 (of_decide_eq_true (by kernel_rfl)) h1⟩
end Go.Proofs.Yteonloecenodbaa.PX
/- Plain: comparing, copying and measuring states. -/
namespace Go.Proofs.Yteonloecenodbaa.PX
open Go.RowKit Go.Proofs.YteonloecenodbaaW.PrintWords
set_option linter.unusedVariables false
set_option linter.unusedSimpArgs false
theorem rdI {a : List Int} {i : Nat} (h : i < a.length) : rd a (i : Int) = a[i] := by unfold rd; rw [Int.toNat_natCast, List.getD_eq_getElem?_getD, List.getElem?_eq_getElem h]; rfl
theorem rdL {a : List (List Int)} {i : Nat} (h : i < a.length) : rd_L4 a (i : Int) = a[i] := by unfold rd_L4; rw [Int.toNat_natCast, List.getD_eq_getElem?_getD, List.getElem?_eq_getElem h]; rfl
theorem rdO {a : List S110} {i : Nat} (h : i < a.length) : rd_T110 a (i : Int) = a[i] := by unfold rd_T110; rw [Int.toNat_natCast, List.getD_eq_getElem?_getD, List.getElem?_eq_getElem h]; rfl
theorem w1 {i m : Nat} (h : i < m) (hm : m ≤ 140737488351232) : wrap64 ((i : Int) + 1) = ((i + 1 : Nat) : Int) := by unfold wrap64; omega
theorem drop_iff {α : Type} {a b : List α} {i : Nat} (ha : i < a.length) (hb : i < b.length) : (a.drop i = b.drop i) ↔ (a[i] = b[i] ∧ a.drop (i + 1) = b.drop (i + 1)) := by
  rw [List.drop_eq_getElem_cons ha, List.drop_eq_getElem_cons hb, List.cons.injEq]
theorem words_l0 (a b : List Int) (hl : a.length = b.length) (hm : a.length ≤ 140737488351232) : ∀ n k i, a.length - i ≤ n → i ≤ a.length → n < k → trickleref19_Words.l0 k a b (i : Int) = some (decide (a.drop i = b.drop i)) := by
  intro n
  induction n with
  | zero =>
    intro k i hn hi hk
    obtain ⟨k, rfl⟩ := Nat.exists_eq_add_of_lt hk
    have : i = a.length := by omega
    subst this
    rw [trickleref19_Words.l0, if_neg (by omega), List.drop_eq_nil_of_le (Nat.le_refl _), List.drop_eq_nil_of_le (by omega)]
    rfl
  | succ n ih =>
    intro k i hn hi hk
    obtain ⟨k, rfl⟩ : ∃ k', k = k' + 1 := ⟨k - 1, by omega⟩
    rw [trickleref19_Words.l0]
    by_cases h : i < a.length
    · have h2 : i < b.length := by omega
      rw [if_pos (by omega), if_pos (by omega), if_pos (by omega), rdI h, rdI h2]
      by_cases e : a[i] = b[i]
      · rw [if_pos e, w1 h hm, ih k (i + 1) (by omega) (by omega) (by omega), decide_eq_decide.2 ((drop_iff h h2).trans (and_iff_right e)).symm]
      · rw [if_neg e, decide_eq_false (fun hh => e ((drop_iff h h2).1 hh).1)]
    · rw [if_neg (by omega), List.drop_eq_nil_of_le (by omega), List.drop_eq_nil_of_le (by omega)]
      simp
theorem wordsP {a b : List Int} (hm : a.length ≤ 140737488351232) {k : Nat} (hk : a.length < k) : trickleref19_Words.f k a b = some (decide (a = b)) := by
  unfold trickleref19_Words.f
  by_cases h : a.length = b.length
  · rw [if_pos (by omega)]
    exact words_l0 a b h hm a.length k 0 (by omega) (by omega) hk
  · rw [if_neg (by omega), decide_eq_false (fun e => h (by rw [e]))]
theorem lists_l0 (a b : List (List Int)) (M : Nat) (hl : a.length = b.length) (hs : SzS a) (hM : ∀ x ∈ a, x.length < M) : ∀ n k i, a.length - i ≤ n → i ≤ a.length → n + M < k → trickleref19_lists.l0 k a b (i : Int) = some (decide (a.drop i = b.drop i)) := by
  intro n
  induction n with
  | zero =>
    intro k i hn hi hk
    obtain ⟨k, rfl⟩ : ∃ k', k = k' + 1 := ⟨k - 1, by omega⟩
    have : i = a.length := by omega
    subst this
    rw [trickleref19_lists.l0, if_neg (by omega), List.drop_eq_nil_of_le (Nat.le_refl _), List.drop_eq_nil_of_le (by omega)]
    rfl
  | succ n ih =>
    intro k i hn hi hk
    obtain ⟨k, rfl⟩ : ∃ k', k = k' + 1 := ⟨k - 1, by omega⟩
    rw [trickleref19_lists.l0]
    by_cases h : i < a.length
    · have h2 : i < b.length := by omega
      have hx := List.getElem_mem h
      rw [if_pos (by omega), if_pos (by omega), if_pos (by omega), rdL h, rdL h2, wordsP (hs.2 _ hx) (by have := hM _ hx; omega), Option.bind_some]
      by_cases e : a[i] = b[i]
      · rw [if_pos (decide_eq_true e), w1 h hs.1, ih k (i + 1) (by omega) (by omega) (by omega), decide_eq_decide.2 ((drop_iff h h2).trans (and_iff_right e)).symm]
      · rw [if_neg (by rw [decide_eq_false e]; decide), decide_eq_false (fun hh => e ((drop_iff h h2).1 hh).1)]
    · rw [if_neg (by omega), List.drop_eq_nil_of_le (by omega), List.drop_eq_nil_of_le (by omega)]
      simp
theorem listsP {a b : List (List Int)} {M k : Nat} (hs : SzS a) (hM : ∀ x ∈ a, x.length < M) (hk : a.length + M < k) : trickleref19_lists.f k a b = some (decide (a = b)) := by
  unfold trickleref19_lists.f
  by_cases h : a.length = b.length
  · rw [if_pos (by omega)]
    exact lists_l0 a b M h hs hM a.length k 0 (by omega) (by omega) hk
  · rw [if_neg (by omega), decide_eq_false (fun e => h (by rw [e]))]
theorem equalP {ag ac bg bc : List (List Int)} {M k : Nat} (hg : SzS ag) (hc : SzS ac) (hMg : ∀ x ∈ ag, x.length < M) (hMc : ∀ x ∈ ac, x.length < M) (hkg : ag.length + M < k) (hkc : ac.length + M < k) :
    trickleref19_Equal.f k ag ac bg bc = some (decide (ag = bg) && decide (ac = bc)) := by
  unfold trickleref19_Equal.f
  rw [listsP hg hMg hkg, Option.bind_some]
  by_cases h : ag = bg
  · rw [if_pos (decide_eq_true h), listsP hc hMc hkc, Option.bind_some, decide_eq_true h, Bool.true_and]
  · rw [if_neg (by rw [decide_eq_false h]; decide), decide_eq_false h, Bool.false_and]
theorem few_l1 (g c : List (List Int)) (hc : SzS c) : ∀ n k i (s : Int), c.length - i ≤ n → i ≤ c.length → n < k → 0 ≤ s → s ≤ 562949953421312 → ∃ r, trickleref19_Few.l1 k s (i : Int) g c = some r ∧ (r = true → s ≤ 400 ∧ ∀ x ∈ c.drop i, x.length ≤ 400) := by
  intro n
  induction n with
  | zero =>
    intro k i s hn hi hk h0 h1
    obtain ⟨k, rfl⟩ : ∃ k', k = k' + 1 := ⟨k - 1, by omega⟩
    have : i = c.length := by omega
    subst this
    rw [trickleref19_Few.l1, if_neg (by omega)]
    exact ⟨_, rfl, fun h => ⟨of_decide_eq_true h, by rw [List.drop_eq_nil_of_le (Nat.le_refl _)]; simp⟩⟩
  | succ n ih =>
    intro k i s hn hi hk h0 h1
    obtain ⟨k, rfl⟩ : ∃ k', k = k' + 1 := ⟨k - 1, by omega⟩
    rw [trickleref19_Few.l1]
    by_cases h : i < c.length
    · have hb := hc.2 _ (List.getElem_mem h)
      rw [if_pos (by omega)]
      by_cases h4 : s ≤ 400
      · rw [if_pos h4, if_pos (by omega), w1 h hc.1, rdL h, show wrap64 (s + ((c[i]).length : Int)) = s + ((c[i]).length : Int) by unfold wrap64; omega]
        obtain ⟨r, e, hr⟩ := ih k (i + 1) (s + ((c[i]).length : Int)) (by omega) (by omega) (by omega) (by omega) (by omega)
        refine ⟨r, e, fun hh => ⟨h4, fun x hx => ?_⟩⟩
        obtain ⟨g1, g2⟩ := hr hh
        rw [List.drop_eq_getElem_cons h] at hx
        rcases List.mem_cons.1 hx with rfl | hx
        · omega
        · exact g2 x hx
      · rw [if_neg h4]
        exact ⟨_, rfl, fun hh => absurd (of_decide_eq_true hh) h4⟩
    · rw [if_neg (by omega)]
      exact ⟨_, rfl, fun hh => ⟨of_decide_eq_true hh, by rw [List.drop_eq_nil_of_le (by omega)]; simp⟩⟩
theorem few_l0 (g c : List (List Int)) (hg : SzS g) (hc : SzS c) : ∀ n k i (s : Int), g.length - i ≤ n → i ≤ g.length → n + c.length + 2 < k → 0 ≤ s → s ≤ 562949953421312 → ∃ r, trickleref19_Few.l0 k s (i : Int) g c = some r ∧ (r = true → s ≤ 400 ∧ (∀ x ∈ g.drop i, x.length ≤ 400) ∧ ∀ x ∈ c, x.length ≤ 400) := by
  intro n
  have done : ∀ k i (s : Int), g.length ≤ i → c.length + 1 < k → 0 ≤ s → s ≤ 562949953421312 → ∃ r, trickleref19_Few.j1 k s g c = some r ∧ (r = true → s ≤ 400 ∧ (∀ x ∈ g.drop i, x.length ≤ 400) ∧ ∀ x ∈ c, x.length ≤ 400) := by
    intro k i s hi hk h0 h1
    obtain ⟨k, rfl⟩ : ∃ k', k = k' + 1 := ⟨k - 1, by omega⟩
    rw [trickleref19_Few.j1]
    obtain ⟨r, e, hr⟩ := few_l1 g c hc c.length k 0 s (by omega) (by omega) (by omega) h0 h1
    exact ⟨r, e, fun hh => ⟨(hr hh).1, by rw [List.drop_eq_nil_of_le hi]; simp, (hr hh).2⟩⟩
  induction n with
  | zero =>
    intro k i s hn hi hk h0 h1
    obtain ⟨k, rfl⟩ : ∃ k', k = k' + 1 := ⟨k - 1, by omega⟩
    rw [trickleref19_Few.l0, if_neg (by omega)]
    exact done k i s (by omega) (by omega) h0 h1
  | succ n ih =>
    intro k i s hn hi hk h0 h1
    obtain ⟨k, rfl⟩ : ∃ k', k = k' + 1 := ⟨k - 1, by omega⟩
    rw [trickleref19_Few.l0]
    by_cases h : i < g.length
    · have hb := hg.2 _ (List.getElem_mem h)
      rw [if_pos (by omega)]
      by_cases h4 : s ≤ 400
      · rw [if_pos h4, if_pos (by omega), w1 h hg.1, rdL h, show wrap64 (s + ((g[i]).length : Int)) = s + ((g[i]).length : Int) by unfold wrap64; omega]
        obtain ⟨r, e, hr⟩ := ih k (i + 1) (s + ((g[i]).length : Int)) (by omega) (by omega) (by omega) (by omega) (by omega)
        refine ⟨r, e, fun hh => ⟨h4, fun x hx => ?_, (hr hh).2.2⟩⟩
        obtain ⟨g1, g2, _⟩ := hr hh
        rw [List.drop_eq_getElem_cons h] at hx
        rcases List.mem_cons.1 hx with rfl | hx
        · omega
        · exact g2 x hx
      · rw [if_neg h4]
        obtain ⟨r, e, hr⟩ := done k g.length s (Nat.le_refl _) (by omega) h0 h1
        exact ⟨r, e, fun hh => absurd (hr hh).1 h4⟩
    · rw [if_neg (by omega)]
      exact done k i s (by omega) (by omega) h0 h1
theorem fewP (g c : List (List Int)) (hg : SzS g) (hc : SzS c) {k : Nat} (hk : g.length + c.length + 2 < k) : ∃ r, trickleref19_Few.f k g c = some r ∧ (r = true → g.length + c.length ≤ 400 ∧ (∀ x ∈ g, x.length ≤ 400) ∧ ∀ x ∈ c, x.length ≤ 400) := by
  unfold trickleref19_Few.f
  have h1 := hg.1
  have h2 := hc.1
  rw [show wrap64 ((g.length : Int) + (c.length : Int)) = (g.length : Int) + (c.length : Int) by unfold wrap64; omega]
  obtain ⟨r, e, hr⟩ := few_l0 g c hg hc g.length k 0 ((g.length : Int) + (c.length : Int)) (by omega) (by omega) hk (by omega) (by omega)
  exact ⟨r, e, fun hh => ⟨by have := (hr hh).1; omega, (hr hh).2.1, (hr hh).2.2⟩⟩
theorem copy_l1 (g c acc : List (List Int)) (hc : ∀ x ∈ c, x.length ≤ 1000000) (hl : c.length ≤ 1000000) : ∀ n k i, c.length - i ≤ n → i ≤ c.length → n < k → trickleref19_Copy.l1 k (i : Int) g c acc (c.take i) = some (acc, c) := by
  intro n
  induction n with
  | zero =>
    intro k i hn hi hk
    obtain ⟨k, rfl⟩ : ∃ k', k = k' + 1 := ⟨k - 1, by omega⟩
    rw [trickleref19_Copy.l1, if_neg (by omega), List.take_of_length_le (by omega)]
  | succ n ih =>
    intro k i hn hi hk
    obtain ⟨k, rfl⟩ : ∃ k', k = k' + 1 := ⟨k - 1, by omega⟩
    rw [trickleref19_Copy.l1]
    by_cases h : i < c.length
    · have hb := hc _ (List.getElem_mem h)
      rw [if_pos (by omega), Option.bind_some, if_pos (by omega), rdL h, if_pos (by simp only [List.length_nil]; omega), if_pos (by rw [List.length_take]; omega), w1 h (by omega), List.nil_append]
      have := ih k (i + 1) (by omega) (by omega) (by omega)
      rw [List.take_add_one, List.getElem?_eq_getElem h] at this
      exact this
    · rw [if_neg (by omega), List.take_of_length_le (by omega)]
theorem copy_l0 (g c : List (List Int)) (hg : ∀ x ∈ g, x.length ≤ 1000000) (hgl : g.length ≤ 1000000) (hc : ∀ x ∈ c, x.length ≤ 1000000) (hl : c.length ≤ 1000000) : ∀ n k i, g.length - i ≤ n → i ≤ g.length → n + c.length + 1 < k → trickleref19_Copy.l0 k (i : Int) g c (g.take i) = some (g, c) := by
  intro n
  induction n with
  | zero =>
    intro k i hn hi hk
    obtain ⟨k, rfl⟩ : ∃ k', k = k' + 1 := ⟨k - 1, by omega⟩
    rw [trickleref19_Copy.l0, if_neg (by omega), List.take_of_length_le (by omega)]
    exact copy_l1 g c g hc hl c.length k 0 (by omega) (by omega) (by omega)
  | succ n ih =>
    intro k i hn hi hk
    obtain ⟨k, rfl⟩ : ∃ k', k = k' + 1 := ⟨k - 1, by omega⟩
    rw [trickleref19_Copy.l0]
    by_cases h : i < g.length
    · have hb := hg _ (List.getElem_mem h)
      rw [if_pos (by omega), Option.bind_some, if_pos (by omega), rdL h, if_pos (by simp only [List.length_nil]; omega), if_pos (by rw [List.length_take]; omega), w1 h (by omega), List.nil_append]
      have := ih k (i + 1) (by omega) (by omega) (by omega)
      rw [List.take_add_one, List.getElem?_eq_getElem h] at this
      exact this
    · rw [if_neg (by omega), List.take_of_length_le (by omega)]
      exact copy_l1 g c g hc hl c.length k 0 (by omega) (by omega) (by omega)
theorem copyP (g c : List (List Int)) (hg : ∀ x ∈ g, x.length ≤ 1000000) (hgl : g.length ≤ 1000000) (hc : ∀ x ∈ c, x.length ≤ 1000000) (hl : c.length ≤ 1000000) {k : Nat} (hk : g.length + c.length + 1 < k) : trickleref19_Copy.f k g c = some (g, c) := by
  unfold trickleref19_Copy.f
  exact copy_l0 g c hg hgl hc hl g.length k 0 (by omega) (by omega) (by omega)
end Go.Proofs.Yteonloecenodbaa.PX
/- InterpEqual in the form of the printed laws, and that it holds at every input. -/
namespace Go.Proofs.Yteonloecenodbaa.PX
open Go.RowKit Go.Proofs.YteonloecenodbaaW.PrintWords
set_option linter.unusedVariables false
set_option linter.unusedSimpArgs false
structure IeOk (k : Nat) (ag ac bg bc : List (List Int)) (e0 : List Int) (o0 : List S110) (d0 : Int) (e1 : List Int) (o1 : List S110) (d1 : Int) (r1 r2 re : Bool) : Prop where
  h100 : decide (100 < wrap64 (wrap64 (wrap64 ((e0.length : Int) + (o0.length : Int)) + (e1.length : Int)) + (o1.length : Int))) = false
  hcp : trickleref19_Copy.f k ag ac = some (ag, ac)
  hsz : (ag.length ≤ 100000 ∧ ac.length ≤ 100000) ∧ ∀ xs ∈ ag ++ ac, xs.length ≤ lim
  hr1 : decide (ag = bg) = r1
  hr2 : decide (ac = bc) = r2
  hq1 : trickleref19_Equal.f k ag ac bg bc = some (r1 && r2)
  hq2 : trickleref19_Equal.f k ag ac ag ac = some true
  he1 : interp_EqualEffects.f k e0 o0 d0 e1 o1 d1 = some re
  he2 : trickleref19_EqualEffects.f k e0 o0 d0 e1 o1 d1 = some re
def IeGo (k : Nat) (ag ac bg bc : List (List Int)) (e0 : List Int) (o0 : List S110) (d0 : Int) (e1 : List Int) (o1 : List S110) (d1 : Int) : Prop :=
  trickleref19_Few.f k ag ac = some false ∨ (trickleref19_Few.f k ag ac = some true ∧ (trickleref19_Few.f k bg bc = some false ∨ (trickleref19_Few.f k bg bc = some true ∧
    (100 < S100 e0 o0 e1 o1 ∨ ∃ r1 r2 re, IeOk k ag ac bg bc e0 o0 d0 e1 o1 d1 r1 r2 re))))
open Classical in
noncomputable def tricklelaw19_InterpEqual.f (k : Nat) (ag ac bg bc : List (List Int)) (e0 : List Int) (o0 : List S110) (d0 : Int) (e1 : List Int) (o1 : List S110) (d1 : Int) : Option Bool :=
  if IeGo k ag ac bg bc e0 o0 d0 e1 o1 d1 then some true else none
theorem tricklelaw19_InterpEqual.calls (k : Nat) (A0 : Option Addr) (c0 : Nat) (ag : List (List Int)) (A1 : Option Addr) (c1 : Nat) (ac : List (List Int)) (A2 : Option Addr) (c2 : Nat) (bg : List (List Int)) (A3 : Option Addr) (c3 : Nat) (bc : List (List Int))
    (A4 : Option Addr) (c4 : Nat) (e0 : List Int) (A5 : Option Addr) (c5 : Nat) (o0 : List S110) (d0 : Int) (A6 : Option Addr) (c6 : Nat) (e1 : List Int) (A7 : Option Addr) (c7 : Nat) (o1 : List S110) (d1 : Int) (r : Bool) (hrt : r = true) (w : World)
    (hA : Ar w A0 A1 A2 A3 A4 A5 A6 A7 c0 c1 c2 c3 c4 c5 c6 c7 ag ac bg bc e0 o0 e1 o1) (h : tricklelaw19_InterpEqual.f k ag ac bg bc e0 o0 d0 e1 o1 d1 = some r) :
    Calls Try.prog 7 #[.agg #[.slice A0 ag.length c0, .slice A1 ac.length c1], .agg #[.slice A2 bg.length c2, .slice A3 bc.length c3], .agg #[.slice A4 e0.length c4, .slice A5 o0.length c5, .int .i64 d0, .slice A6 e1.length c6, .slice A7 o1.length c7, .int .i64 d1]] w fun e w' => e = .returned (.bool r) ∧ Below w.heap.size w w' := by
  subst hrt
  unfold tricklelaw19_InterpEqual.f at h
  split at h
  case isFalse => cases h
  rename_i hh
  rcases hh with hh | ⟨h1, hh | ⟨h2, hh | ⟨r1, r2, re, hh⟩⟩⟩
  · exact ie_few0 k A0 A1 A2 A3 A4 A5 A6 A7 c0 c1 c2 c3 c4 c5 c6 c7 ag ac bg bc e0 o0 d0 e1 o1 d1 w hA hh
  · exact ie_few1 k A0 A1 A2 A3 A4 A5 A6 A7 c0 c1 c2 c3 c4 c5 c6 c7 ag ac bg bc e0 o0 d0 e1 o1 d1 w hA h1 hh
  · exact ie_hund k A0 A1 A2 A3 A4 A5 A6 A7 c0 c1 c2 c3 c4 c5 c6 c7 ag ac bg bc e0 o0 d0 e1 o1 d1 w hA h1 h2 hh
  · exact ie_main k A0 A1 A2 A3 A4 A5 A6 A7 c0 c1 c2 c3 c4 c5 c6 c7 ag ac bg bc e0 o0 d0 e1 o1 d1 w hA h1 h2 hh.h100 hh.hcp hh.hsz r1 r2 re hh.hr1 hh.hr2 hh.hq1 hh.hq2 hh.he1 hh.he2
theorem seqP {a b : List Int} (hm : a.length ≤ 1000000000) {k : Nat} (hk : a.length < k) : slices_Equal_int16_int16.f k a b = some (decide (a = b)) := by
  obtain ⟨k, rfl⟩ : ∃ k', k = k' + 1 := ⟨k - 1, by omega⟩
  unfold slices_Equal_int16_int16.f
  by_cases h : a.length = b.length
  · rw [if_pos (by omega)]
    exact eqI_l0 a b h hm k 0 (by omega) (by omega)
  · rw [if_neg (by omega), decide_eq_false (fun e => h (by rw [e]))]
theorem out_ne (x y : S110) : (!(x.f0 == y.f0) || (!(x.f1 == y.f1))) = true ↔ x ≠ y := by
  obtain ⟨a, b⟩ := x
  obtain ⟨c, d⟩ := y
  simp only [Bool.or_eq_true, Bool.not_eq_true', beq_eq_false_iff_ne, ne_eq, S110.mk.injEq]
  constructor
  · rintro (h | h) ⟨e1, e2⟩
    · exact h e1
    · exact h e2
  · intro h
    by_cases e1 : a = c
    · exact .inr (fun e2 => h ⟨e1, e2⟩)
    · exact .inl e1
theorem outs_l0 (a b : List S110) (hl : a.length = b.length) (hm : a.length ≤ 140737488351232) : ∀ n k i, a.length - i ≤ n → i ≤ a.length → n < k → ∃ r, (r = true ↔ a.drop i = b.drop i) ∧ api_Output.l0 k a b (a.length : Int) (i : Int) = some r ∧
    ∀ (p q : List Int) (d d' : Int), trickleref19_EqualEffects.l0 k (i : Int) p a d q b d' = some r := by
  intro n
  induction n with
  | zero =>
    intro k i hn hi hk
    obtain ⟨k, rfl⟩ : ∃ k', k = k' + 1 := ⟨k - 1, by omega⟩
    refine ⟨true, ?_, ?_, fun p q d d' => ?_⟩
    · rw [List.drop_eq_nil_of_le (by omega), List.drop_eq_nil_of_le (by omega)]; simp
    · rw [api_Output.l0, if_neg (by omega)]
    · rw [trickleref19_EqualEffects.l0, if_neg (by omega)]
  | succ n ih =>
    intro k i hn hi hk
    obtain ⟨k, rfl⟩ : ∃ k', k = k' + 1 := ⟨k - 1, by omega⟩
    by_cases h : i < a.length
    · have h2 : i < b.length := by omega
      by_cases e : a[i] = b[i]
      · obtain ⟨r, hr, g1, g2⟩ := ih k (i + 1) (by omega) (by omega) (by omega)
        have hne : ¬ (!((a[i]).f0 == (b[i]).f0) || (!((a[i]).f1 == (b[i]).f1))) = true := fun hh => (out_ne _ _).1 hh e
        refine ⟨r, ?_, ?_, fun p q d d' => ?_⟩
        · rw [hr, drop_iff h h2]
          exact ⟨fun hh => ⟨e, hh⟩, fun hh => hh.2⟩
        · rw [api_Output.l0, if_pos (by omega), if_pos (by omega), if_pos (by omega), if_pos (by omega), rdO h, rdO h2, if_neg hne, w1 h hm]
          exact g1
        · rw [trickleref19_EqualEffects.l0, if_pos (by omega), if_pos (by omega), if_pos (by omega), rdO h, rdO h2, if_neg hne, w1 h hm]
          exact g2 p q d d'
      · have hne := (out_ne _ _).2 e
        refine ⟨false, ?_, ?_, fun p q d d' => ?_⟩
        · rw [drop_iff h h2]
          exact ⟨fun hh => (by cases hh), fun hh => absurd hh.1 e⟩
        · rw [api_Output.l0, if_pos (by omega), if_pos (by omega), if_pos (by omega), if_pos (by omega), rdO h, rdO h2, if_pos hne]
        · rw [trickleref19_EqualEffects.l0, if_pos (by omega), if_pos (by omega), if_pos (by omega), rdO h, rdO h2, if_pos hne]
    · refine ⟨true, ?_, ?_, fun p q d d' => ?_⟩
      · rw [List.drop_eq_nil_of_le (by omega), List.drop_eq_nil_of_le (by omega)]; simp
      · rw [api_Output.l0, if_neg (by omega)]
      · rw [trickleref19_EqualEffects.l0, if_neg (by omega)]
theorem effsP (e0 : List Int) (o0 : List S110) (d0 : Int) (e1 : List Int) (o1 : List S110) (d1 : Int) (he : e0.length ≤ 1000000000) (ho : o0.length ≤ 1000000000) {k : Nat} (hk : e0.length < k) (hk2 : o0.length + 1 < k) :
    ∃ re, interp_EqualEffects.f k e0 o0 d0 e1 o1 d1 = some re ∧ trickleref19_EqualEffects.f k e0 o0 d0 e1 o1 d1 = some re ∧ (re = true ↔ e0 = e1 ∧ o0 = o1 ∧ d0 = d1) := by
  obtain ⟨k, rfl⟩ : ∃ k', k = k' + 1 := ⟨k - 1, by omega⟩
  unfold interp_EqualEffects.f trickleref19_EqualEffects.f
  rw [seqP he hk, wordsP (by omega) hk, Option.bind_some, Option.bind_some]
  by_cases h1 : e0 = e1
  · rw [if_pos (decide_eq_true h1), if_pos (decide_eq_true h1)]
    unfold api_Output.f
    by_cases hl : o0.length = o1.length
    · rw [if_pos (by omega), if_pos (by omega)]
      obtain ⟨r, hr, _, g2⟩ := outs_l0 o0 o1 hl (by omega) o0.length k 0 (by omega) (by omega) (by omega)
      obtain ⟨r', hr', g1, _⟩ := outs_l0 o0 o1 hl (by omega) o0.length (k + 1) 0 (by omega) (by omega) (by omega)
      have hrr : r' = r := by
        rw [List.drop_zero, List.drop_zero] at hr hr'
        cases r <;> cases r' <;> simp_all
      subst hrr
      rw [show api_Output.l0 (k + 1) o0 o1 (o0.length : Int) 0 = some r' from g1, Option.bind_some, trickleref19_EqualEffects.j0]
      rw [List.drop_zero, List.drop_zero] at hr
      have g3 := g2 e0 e1 d0 d1
      by_cases hd : d0 = d1
      · have hb : (d0 != d1) = false := by simp [hd]
        have hc : (d0 == d1) = true := by simp [hd]
        rw [hb, hc]
        refine ⟨r', ?_, (if_neg (by decide)).trans g3, ?_⟩
        · cases r' <;> rfl
        · rw [hr]
          exact ⟨fun h => ⟨h1, h, hd⟩, fun h => h.2.1⟩
      · have hb : (d0 != d1) = true := by simp [hd]
        have hc : (d0 == d1) = false := by simp [hd]
        rw [hb, hc]
        refine ⟨false, ?_, if_pos rfl, ⟨fun h => (by cases h), fun h => absurd h.2.2 hd⟩⟩
        cases r' <;> rfl
    · rw [if_neg (by omega), if_neg (by omega), Option.bind_some, if_neg (by decide), trickleref19_EqualEffects.j0, if_pos rfl]
      exact ⟨false, rfl, rfl, ⟨fun h => (by cases h), fun h => absurd (by rw [h.2.1]) hl⟩⟩
  · rw [if_neg (by rw [decide_eq_false h1]; decide), if_neg (by rw [decide_eq_false h1]; decide), trickleref19_EqualEffects.j0, if_pos rfl]
    exact ⟨false, rfl, rfl, ⟨fun h => (by cases h), fun h => absurd h.1 h1⟩⟩
theorem Pure.InterpEqual (ag ac bg bc : List (List Int)) (e0 : List Int) (o0 : List S110) (d0 : Int) (e1 : List Int) (o1 : List S110) (d1 : Int) (hag : SzS ag) (hac : SzS ac) (hbg : SzS bg) (hbc : SzS bc)
    (he0 : e0.length ≤ 140737488351232 ∧ o0.length ≤ 140737488351232) (he1 : e1.length ≤ 140737488351232 ∧ o1.length ≤ 140737488351232) : ∃ k, tricklelaw19_InterpEqual.f k ag ac bg bc e0 o0 d0 e1 o1 d1 = some true := by
  refine ⟨ag.length + ac.length + bg.length + bc.length + 1000, ?_⟩
  unfold tricklelaw19_InterpEqual.f
  refine if_pos ?_
  obtain ⟨ra, fa, ha⟩ := fewP ag ac hag hac (k := ag.length + ac.length + bg.length + bc.length + 1000) (by omega)
  obtain ⟨rb, fb, hb⟩ := fewP bg bc hbg hbc (k := ag.length + ac.length + bg.length + bc.length + 1000) (by omega)
  cases ra with
  | false => exact .inl fa
  | true =>
    refine .inr ⟨fa, ?_⟩
    cases rb with
    | false => exact .inl fb
    | true =>
      refine .inr ⟨fb, ?_⟩
      by_cases h100 : 100 < S100 e0 o0 e1 o1
      · exact .inl h100
      · obtain ⟨a1, a2, a3⟩ := ha rfl
        have hs : S100 e0 o0 e1 o1 = (e0.length : Int) + o0.length + e1.length + o1.length := by unfold S100 wrap64; omega
        have hse := hs
        obtain ⟨re, g1, g2, _⟩ := effsP e0 o0 d0 e1 o1 d1 (by omega) (by omega) (k := ag.length + ac.length + bg.length + bc.length + 1000) (by omega) (by omega)
        exact .inr ⟨_, _, re, ⟨decide_eq_false h100, copyP ag ac (fun x hx => by have := a2 x hx; omega) (by omega) (fun x hx => by have := a3 x hx; omega) (by omega) (by omega),
          ⟨⟨by omega, by omega⟩, fun x hx => by unfold lim; rcases List.mem_append.1 hx with hx | hx; · have := a2 x hx; omega
                                                · have := a3 x hx; omega⟩,
          rfl, rfl, equalP (M := 401) hag hac (fun x hx => by have := a2 x hx; omega) (fun x hx => by have := a3 x hx; omega) (by omega) (by omega),
          by rw [equalP (M := 401) hag hac (fun x hx => by have := a2 x hx; omega) (fun x hx => by have := a3 x hx; omega) (by omega) (by omega)]; simp, g1, g2⟩⟩
end Go.Proofs.Yteonloecenodbaa.PX
