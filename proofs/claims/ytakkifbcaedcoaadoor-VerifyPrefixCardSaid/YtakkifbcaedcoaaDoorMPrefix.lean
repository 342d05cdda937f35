/- VerifyPrefix: the law's own walk, with its function literal. -/
import Derived.Test.YtakkifbcaedcoaaDoorMPart
import Derived.Test.YtakkifbcaedcoaaDoorPXx10
import Derived.Test.YtakkifbcaedcoaaDoorEv
namespace Go.Proofs.YtakkifbcaedcoaaDoor.PX
open Go.RowKit Go.Proofs.YtakkifbcaedcoaaDoorW.PrintWords Go.Proofs.YtakkifbcaedcoaaDoorW.PrintLast Go.Proofs.YtakkifbcaedcoaaDoorW.PrintMore
set_option linter.unusedVariables false
set_option linter.unusedSimpArgs false
theorem wp_gen2 {c : Code} {a : Act} {w : World} {K : Exit → Act → World → Prop} (Q : World → Prop) (h : Q w) (h2 : ∀ w', Q w' → Code.wp Tryd.prog c K a w') : Code.wp Tryd.prog c K a w := h2 w h
theorem drawn_below {w w1 : World} (h : Drawn0 w w1) : Below w.heap.size w w1 := by
  obtain ⟨nd, rfl⟩ := h
  apply pw_below_drewN
  exact Below.refl _ _
/-- What VerifyPrefix compares, at a place K. -/
structure PFacts (l0 l1 : List S55) (K k : Nat) (s1 s0 u1 u0 : List S32) (p v : List S33) : Prop where
  le : K ≤ l0.length
  hl1 : l1 = l0.take K
  hs1 : verify_Sequence.f l1 = some s1
  hs0 : verify_Sequence.f l0 = some s0
  hu1 : verify_Updates.f k l1 = some u1
  hu0 : verify_Updates.f k l0 = some u0
  hp1 : tricklelaw55_plain.f k s1 = some p
  hv1 : tricklelaw55_plain.f k u1 = some v
  hp0 : partF s0 (K : Int) = p
  hv0 : partF u0 (K : Int) = v
  same1 : trickleref55_Same.f k p p = some true
  same2 : trickleref55_Same.f k v v = some true
  ls : s0.length < 8796093022208
  lu : u0.length < 8796093022208
set_option maxHeartbeats 8000000 in
set_option maxRecDepth 100000 in
theorem prefix_walk (A0 : Option Addr) (c0 : Nat) (l0 l1 : List S55) (a1 : Int) (K k : Nat) (s1 s0 u1 u0 : List S32) (p v : List S33) (w : World) (hr0 : Kd.C k55 w A0 l0.length l0) (hc0 : l0.length ≤ c0) (hG : GW w) (hw : tricklelaw55_wakes.f = some true) (hlen : l0.length ≤ 90) (ha : 0 ≤ a1 ∧ a1 ≤ 255) (hK : (a1.toNat % (l0.length + 1)) = K) (F : PFacts l0 l1 K k s1 s0 u1 u0 p v) :
    Calls Tryd.prog 5 #[.slice A0 l0.length c0, .int .u8 a1] w fun e w' => e = .returned (.bool true) ∧ Below w.heap.size w w' := by
  have hmf : ∀ (fn : Fn) (first cap : Array Value) (w : World), (Instr.makeFunc fn first cap).run Tryd.prog w = .ok (.func fn first cap) w := fun _ _ _ _ => rfl
  have HG := Aside0.mk hG
  have HR0 := Aside0.mk hr0
  have HC0 := Aside0.mk hc0
  have HW := Aside0.mk hw
  have HF := Aside0.mk F
  have HB := Aside0.mk (Below.refl w.heap.size w)
  have c4b0 : decide (90 < (l0.length : Int)) = false := decide_eq_false (by omega)
  have c4b1 : decide (90 < l0.length) = false := decide_eq_false (by omega)
  have hcv : IntKind.i64.wrap a1 = a1 := (i64_w a1).trans (wrap_id (by omega) (by omega))
  have hca : IntKind.i64.wrap ((l0.length : Int) + 1) = (l0.length : Int) + 1 := (i64_w _).trans (wrap_id (by omega) (by omega))
  have hrem : a1.tmod ((l0.length : Int) + 1) = (K : Int) := by rw [Int.tmod_eq_emod_of_nonneg ha.1, ← hK, Int.natCast_emod, Int.toNat_of_nonneg ha.1]; simp
  have hne : ((l0.length : Int) + 1 == 0) = false := by rw [beq_eq_false_iff_ne]; omega
  have hcr : IntKind.i64.wrap (K : Int) = (K : Int) := (i64_w _).trans (wrap_id (by omega) (by have := F.le; omega))
  have hKl := F.le
  clear hr0 hc0 hG hw F hlen ha hK
  go_enter Tryd.func5, Tryd.ntmps5
  go_upto_region 7 with (first | ((with_reducible refine gate_callee (f := 8) rfl ?_); refine goesL_ (some 7) rfl rfl Tryd.func8 (by kernel_rfl) rfl #[] rfl (by (try simp only [List.map_toArray, List.map_cons, List.map_nil]); first | done | rfl | (simp only [List.length_drop, List.length_take]; rfl)) ?_; (with_reducible refine (tricklelaw55_wakes.calls true _ ?side1 HW.out).mono ?_); (case side1 => exact GW.below HG.out (by repeat (first | (with_reducible first | exact HB.out | apply below_alloc | apply pw_below_drewN | apply below_drew1) | exact HB.out))); rintro e w5 ⟨rfl, hb⟩; refine ⟨_, rfl, ?_⟩; have n0_ := Aside0.mk (below_step (by repeat (first | (with_reducible first | exact HB.out | apply below_alloc | apply pw_below_drewN | apply below_drew1) | exact HB.out)) hb); clear HB; have HB := n0_; clear n0_; clear hb))
  refine wp_gen2 (Q := fun wz => Aside0 (Below w.heap.size w wz) ∧ Aside0 (wz.cell? ⟨w5.heap.size, 0, none⟩ = some (.int .i64 (K : Int)))) ⟨⟨by exact below_alloc HB.out _⟩, ⟨by rw [World.cell?_alloc_at _ _ _ _ rfl]; rfl⟩⟩ ?_
  generalize w5.heap.size = g
  clear HB
  intro wz hz
  obtain ⟨HB, HX⟩ := hz
  have hX := HX.out
  obtain ⟨i010, hi010, _, hsz10, _⟩ := info_parts info55
  have hcut10 := cut_to (P := Tryd.prog) 22 55 .i64 Tryd.underlying22 hi010 A0 l0.length c0 (K : Int) (by omega) (by omega) HC0.out
  have hK0 := eq_true (show (0 : Int) ≤ (K : Int) by omega)
  have hK1 := eq_true (show (K : Int) ≤ (l0.length : Int) by omega)
  have hK2 := eq_true hKl
  have hr10 := Kd.C_take (m := K) HR0.out hKl
  have hy10 : l1.length = K := by rw [HF.out.hl1, List.length_take]; omega
  rw [← HF.out.hl1] at hr10
  rw [Int.toNat_natCast] at hcut10
  subst hy10
  have HR1 := Aside0.mk hr10
  have HC1 := Aside0.mk (show l1.length ≤ c0 by have := HC0.out; omega)
  clear hr10 hi010 hsz10
  go_wp2_with (first | (go_at_call 11; (with_reducible refine (verify_Sequence.calls _ _ l1 s1 _ ?side1 ?side2 ?side3 HF.out.hs1).mono ?_); (case side1 => exact Kd.C_below HR1.out HB.out); (case side2 => exact HC1.out); (case side3 => exact GW.below HG.out HB.out); rintro e w11 ⟨vv, rfl, ho, hb⟩; have nB := Aside0.mk (below_step HB.out hb); have nX := Aside0.mk ((hb.cell (World.block_lt_of_cell? _ _ HX.out)).trans HX.out); clear HB HX hX; have HB := nB; have HX := nX; clear nB nX; have hX := HX.out; obtain ⟨A_s1, c_s1, e_s1⟩ := Kd.R_slice ho; subst e_s1; have C_s1 := Aside0.mk (Kd.R_reads' ho).2.2; have H_s1 := Aside0.mk (Kd.R_reads' ho).2.1; clear ho; clear hb) | (go_at_call 10; (with_reducible refine (tricklelaw55_plain.calls k _ _ s1 p _ ?side1 ?side2 HF.out.hp1).mono ?_); (case side1 => exact C_s1.out); (case side2 => exact H_s1.out); rintro e w12 ⟨vv, rfl, ho, hb⟩; have nB := Aside0.mk (below_step HB.out hb); have nX := Aside0.mk ((hb.cell (World.block_lt_of_cell? _ _ HX.out)).trans HX.out); have nC_s1 := Aside0.mk (Kd.C_below C_s1.out hb); clear HB HX hX; have HB := nB; have HX := nX; clear nB nX; have hX := HX.out; clear C_s1; have C_s1 := nC_s1; clear nC_s1; obtain ⟨A_p, c_p, e_p⟩ := Kd.R_slice ho; subst e_p; have C_p := Aside0.mk (Kd.R_reads' ho).2.2; have H_p := Aside0.mk (Kd.R_reads' ho).2.1; clear ho; clear hb) | (go_at_call 11; (with_reducible refine (verify_Sequence.calls _ _ l0 s0 _ ?side1 ?side2 ?side3 HF.out.hs0).mono ?_); (case side1 => exact Kd.C_below HR0.out HB.out); (case side2 => exact HC0.out); (case side3 => exact GW.below HG.out HB.out); rintro e w13 ⟨vv, rfl, ho, hb⟩; have nB := Aside0.mk (below_step HB.out hb); have nX := Aside0.mk ((hb.cell (World.block_lt_of_cell? _ _ HX.out)).trans HX.out); have nC_s1 := Aside0.mk (Kd.C_below C_s1.out hb); have nC_p := Aside0.mk (Kd.C_below C_p.out hb); clear HB HX hX; have HB := nB; have HX := nX; clear nB nX; have hX := HX.out; clear C_s1; have C_s1 := nC_s1; clear nC_s1; clear C_p; have C_p := nC_p; clear nC_p; obtain ⟨A_s0, c_s0, e_s0⟩ := Kd.R_slice ho; subst e_s0; have C_s0 := Aside0.mk (Kd.R_reads' ho).2.2; have H_s0 := Aside0.mk (Kd.R_reads' ho).2.1; clear ho; clear hb) | (go_at_call 15; (with_reducible refine (part_calls _ _ s0 g (l1.length : Int) _ ?side1 ?side2 ?side3 ?side4).mono ?_); (case side1 => exact C_s0.out); (case side2 => exact H_s0.out); (case side3 => exact HX.out); (case side4 => exact HF.out.ls); rintro e w14 ⟨vv, rfl, ho, hb⟩; have nB := Aside0.mk (below_step HB.out hb); have nX := Aside0.mk ((hb.cell (World.block_lt_of_cell? _ _ HX.out)).trans HX.out); have nC_s1 := Aside0.mk (Kd.C_below C_s1.out hb); have nC_p := Aside0.mk (Kd.C_below C_p.out hb); have nC_s0 := Aside0.mk (Kd.C_below C_s0.out hb); clear HB HX hX; have HB := nB; have HX := nX; clear nB nX; have hX := HX.out; clear C_s1; have C_s1 := nC_s1; clear nC_s1; clear C_p; have C_p := nC_p; clear nC_p; clear C_s0; have C_s0 := nC_s0; clear nC_s0; rw [HF.out.hp0] at ho; obtain ⟨A_q, c_q, e_q⟩ := Kd.R_slice ho; subst e_q; have C_q := Aside0.mk (Kd.R_reads' ho).2.2; have H_q := Aside0.mk (Kd.R_reads' ho).2.1; clear ho; clear hb) | (go_at_call 9; (with_reducible refine (trickleref55_Same.calls k _ _ p _ _ p true _ ?side1 ?side2 ?side3 ?side4 HF.out.same1).mono ?_); (case side1 => exact C_p.out); (case side2 => exact H_p.out); (case side3 => exact C_q.out); (case side4 => exact H_q.out); rintro e w15 ⟨rfl, hd⟩; have hb := drawn_below hd; clear hd; have nB := Aside0.mk (below_step HB.out hb); have nX := Aside0.mk ((hb.cell (World.block_lt_of_cell? _ _ HX.out)).trans HX.out); have nC_s1 := Aside0.mk (Kd.C_below C_s1.out hb); have nC_p := Aside0.mk (Kd.C_below C_p.out hb); have nC_s0 := Aside0.mk (Kd.C_below C_s0.out hb); have nC_q := Aside0.mk (Kd.C_below C_q.out hb); clear HB HX hX; have HB := nB; have HX := nX; clear nB nX; have hX := HX.out; clear C_s1; have C_s1 := nC_s1; clear nC_s1; clear C_p; have C_p := nC_p; clear nC_p; clear C_s0; have C_s0 := nC_s0; clear nC_s0; clear C_q; have C_q := nC_q; clear nC_q; clear hb) | (go_at_call 13; (with_reducible refine (verify_Updates.calls k _ _ l1 u1 _ ?side1 ?side2 ?side3 HF.out.hu1).mono ?_); (case side1 => exact Kd.C_below HR1.out HB.out); (case side2 => exact HC1.out); (case side3 => exact GW.below HG.out HB.out); rintro e w16 ⟨vv, rfl, ho, hb⟩; have nB := Aside0.mk (below_step HB.out hb); have nX := Aside0.mk ((hb.cell (World.block_lt_of_cell? _ _ HX.out)).trans HX.out); have nC_s1 := Aside0.mk (Kd.C_below C_s1.out hb); have nC_p := Aside0.mk (Kd.C_below C_p.out hb); have nC_s0 := Aside0.mk (Kd.C_below C_s0.out hb); have nC_q := Aside0.mk (Kd.C_below C_q.out hb); clear HB HX hX; have HB := nB; have HX := nX; clear nB nX; have hX := HX.out; clear C_s1; have C_s1 := nC_s1; clear nC_s1; clear C_p; have C_p := nC_p; clear nC_p; clear C_s0; have C_s0 := nC_s0; clear nC_s0; clear C_q; have C_q := nC_q; clear nC_q; obtain ⟨A_u1, c_u1, e_u1⟩ := Kd.R_slice ho; subst e_u1; have C_u1 := Aside0.mk (Kd.R_reads' ho).2.2; have H_u1 := Aside0.mk (Kd.R_reads' ho).2.1; clear ho; clear hb) | (go_at_call 10; (with_reducible refine (tricklelaw55_plain.calls k _ _ u1 v _ ?side1 ?side2 HF.out.hv1).mono ?_); (case side1 => exact C_u1.out); (case side2 => exact H_u1.out); rintro e w17 ⟨vv, rfl, ho, hb⟩; have nB := Aside0.mk (below_step HB.out hb); have nX := Aside0.mk ((hb.cell (World.block_lt_of_cell? _ _ HX.out)).trans HX.out); have nC_s1 := Aside0.mk (Kd.C_below C_s1.out hb); have nC_p := Aside0.mk (Kd.C_below C_p.out hb); have nC_s0 := Aside0.mk (Kd.C_below C_s0.out hb); have nC_q := Aside0.mk (Kd.C_below C_q.out hb); have nC_u1 := Aside0.mk (Kd.C_below C_u1.out hb); clear HB HX hX; have HB := nB; have HX := nX; clear nB nX; have hX := HX.out; clear C_s1; have C_s1 := nC_s1; clear nC_s1; clear C_p; have C_p := nC_p; clear nC_p; clear C_s0; have C_s0 := nC_s0; clear nC_s0; clear C_q; have C_q := nC_q; clear nC_q; clear C_u1; have C_u1 := nC_u1; clear nC_u1; obtain ⟨A_v, c_v, e_v⟩ := Kd.R_slice ho; subst e_v; have C_v := Aside0.mk (Kd.R_reads' ho).2.2; have H_v := Aside0.mk (Kd.R_reads' ho).2.1; clear ho; clear hb) | (go_at_call 13; (with_reducible refine (verify_Updates.calls k _ _ l0 u0 _ ?side1 ?side2 ?side3 HF.out.hu0).mono ?_); (case side1 => exact Kd.C_below HR0.out HB.out); (case side2 => exact HC0.out); (case side3 => exact GW.below HG.out HB.out); rintro e w18 ⟨vv, rfl, ho, hb⟩; have nB := Aside0.mk (below_step HB.out hb); have nX := Aside0.mk ((hb.cell (World.block_lt_of_cell? _ _ HX.out)).trans HX.out); have nC_s1 := Aside0.mk (Kd.C_below C_s1.out hb); have nC_p := Aside0.mk (Kd.C_below C_p.out hb); have nC_s0 := Aside0.mk (Kd.C_below C_s0.out hb); have nC_q := Aside0.mk (Kd.C_below C_q.out hb); have nC_u1 := Aside0.mk (Kd.C_below C_u1.out hb); have nC_v := Aside0.mk (Kd.C_below C_v.out hb); clear HB HX hX; have HB := nB; have HX := nX; clear nB nX; have hX := HX.out; clear C_s1; have C_s1 := nC_s1; clear nC_s1; clear C_p; have C_p := nC_p; clear nC_p; clear C_s0; have C_s0 := nC_s0; clear nC_s0; clear C_q; have C_q := nC_q; clear nC_q; clear C_u1; have C_u1 := nC_u1; clear nC_u1; clear C_v; have C_v := nC_v; clear nC_v; obtain ⟨A_u0, c_u0, e_u0⟩ := Kd.R_slice ho; subst e_u0; have C_u0 := Aside0.mk (Kd.R_reads' ho).2.2; have H_u0 := Aside0.mk (Kd.R_reads' ho).2.1; clear ho; clear hb) | (go_at_call 15; (with_reducible refine (part_calls _ _ u0 g (l1.length : Int) _ ?side1 ?side2 ?side3 ?side4).mono ?_); (case side1 => exact C_u0.out); (case side2 => exact H_u0.out); (case side3 => exact HX.out); (case side4 => exact HF.out.lu); rintro e w19 ⟨vv, rfl, ho, hb⟩; have nB := Aside0.mk (below_step HB.out hb); have nX := Aside0.mk ((hb.cell (World.block_lt_of_cell? _ _ HX.out)).trans HX.out); have nC_s1 := Aside0.mk (Kd.C_below C_s1.out hb); have nC_p := Aside0.mk (Kd.C_below C_p.out hb); have nC_s0 := Aside0.mk (Kd.C_below C_s0.out hb); have nC_q := Aside0.mk (Kd.C_below C_q.out hb); have nC_u1 := Aside0.mk (Kd.C_below C_u1.out hb); have nC_v := Aside0.mk (Kd.C_below C_v.out hb); have nC_u0 := Aside0.mk (Kd.C_below C_u0.out hb); clear HB HX hX; have HB := nB; have HX := nX; clear nB nX; have hX := HX.out; clear C_s1; have C_s1 := nC_s1; clear nC_s1; clear C_p; have C_p := nC_p; clear nC_p; clear C_s0; have C_s0 := nC_s0; clear nC_s0; clear C_q; have C_q := nC_q; clear nC_q; clear C_u1; have C_u1 := nC_u1; clear nC_u1; clear C_v; have C_v := nC_v; clear nC_v; clear C_u0; have C_u0 := nC_u0; clear nC_u0; rw [HF.out.hv0] at ho; obtain ⟨A_r, c_r, e_r⟩ := Kd.R_slice ho; subst e_r; have C_r := Aside0.mk (Kd.R_reads' ho).2.2; have H_r := Aside0.mk (Kd.R_reads' ho).2.1; clear ho; clear hb) | (go_at_call 9; (with_reducible refine (trickleref55_Same.calls k _ _ v _ _ v true _ ?side1 ?side2 ?side3 ?side4 HF.out.same2).mono ?_); (case side1 => exact C_v.out); (case side2 => exact H_v.out); (case side3 => exact C_r.out); (case side4 => exact H_r.out); rintro e w20 ⟨rfl, hd⟩; have hb := drawn_below hd; clear hd; have nB := Aside0.mk (below_step HB.out hb); have nX := Aside0.mk ((hb.cell (World.block_lt_of_cell? _ _ HX.out)).trans HX.out); have nC_s1 := Aside0.mk (Kd.C_below C_s1.out hb); have nC_p := Aside0.mk (Kd.C_below C_p.out hb); have nC_s0 := Aside0.mk (Kd.C_below C_s0.out hb); have nC_q := Aside0.mk (Kd.C_below C_q.out hb); have nC_u1 := Aside0.mk (Kd.C_below C_u1.out hb); have nC_v := Aside0.mk (Kd.C_below C_v.out hb); have nC_u0 := Aside0.mk (Kd.C_below C_u0.out hb); have nC_r := Aside0.mk (Kd.C_below C_r.out hb); clear HB HX hX; have HB := nB; have HX := nX; clear nB nX; have hX := HX.out; clear C_s1; have C_s1 := nC_s1; clear nC_s1; clear C_p; have C_p := nC_p; clear nC_p; clear C_s0; have C_s0 := nC_s0; clear nC_s0; clear C_q; have C_q := nC_q; clear nC_q; clear C_u1; have C_u1 := nC_u1; clear nC_u1; clear C_v; have C_v := nC_v; clear nC_v; clear C_u0; have C_u0 := nC_u0; clear nC_u0; clear C_r; have C_r := nC_r; clear nC_r; clear hb))
  go_ret
  exact ⟨rfl, HB.out⟩
set_option maxHeartbeats 8000000 in
set_option maxRecDepth 100000 in
theorem prefix_short (A0 : Option Addr) (c0 : Nat) (l0 : List S55) (a1 : Int) (w : World) (hG : GW w) (hw : tricklelaw55_wakes.f = some true) (hlen : 90 < l0.length) :
    Calls Tryd.prog 5 #[.slice A0 l0.length c0, .int .u8 a1] w fun e w' => e = .returned (.bool true) ∧ Below w.heap.size w w' := by
  have HG := Aside0.mk hG
  have HW := Aside0.mk hw
  have HB := Aside0.mk (Below.refl w.heap.size w)
  have c4b0 : decide (90 < (l0.length : Int)) = true := decide_eq_true (by omega)
  have c4b1 : decide (90 < l0.length) = true := decide_eq_true hlen
  clear hG hw hlen
  go_enter Tryd.func5, Tryd.ntmps5
  go_wp2_with (first | ((with_reducible refine gate_callee (f := 8) rfl ?_); refine goesL_ (some 7) rfl rfl Tryd.func8 (by kernel_rfl) rfl #[] rfl (by (try simp only [List.map_toArray, List.map_cons, List.map_nil]); first | done | rfl | (simp only [List.length_drop, List.length_take]; rfl)) ?_; (with_reducible refine (tricklelaw55_wakes.calls true _ ?side1 HW.out).mono ?_); (case side1 => exact GW.below HG.out (by repeat (first | (with_reducible first | exact HB.out | apply below_alloc | apply pw_below_drewN | apply below_drew1) | exact HB.out))); rintro e w5 ⟨rfl, hb⟩; refine ⟨_, rfl, ?_⟩; have n0_ := Aside0.mk (below_step (by repeat (first | (with_reducible first | exact HB.out | apply below_alloc | apply pw_below_drewN | apply below_drew1) | exact HB.out)) hb); clear HB; have HB := n0_; clear n0_; clear hb))
  go_ret
  exact ⟨rfl, HB.out⟩
/-- What the law wants of its functions at an input. -/
def PrefixOK (k : Nat) (l0 : List S55) (a1 : Int) : Prop := tricklelaw55_wakes.f = some true ∧ (0 ≤ a1 ∧ a1 ≤ 255) ∧ (l0.length ≤ 90 → ∃ l1 s1 s0 u1 u0 p v, PFacts l0 l1 (a1.toNat % (l0.length + 1)) k s1 s0 u1 u0 p v)
theorem tricklelaw55_VerifyPrefix.calls (k : Nat) (A0 : Option Addr) (c0 : Nat) (l0 : List S55) (a1 : Int) (r : Bool) (w : World) (hr0 : Kd.C k55 w A0 l0.length l0) (hc0 : l0.length ≤ c0) (hG : GW w) (h : PrefixOK k l0 a1 ∧ r = true) :
    Calls Tryd.prog 5 #[.slice A0 l0.length c0, .int .u8 a1] w fun e w' => e = .returned (.bool r) ∧ Below w.heap.size w w' := by
  obtain ⟨⟨hw, ha, hF⟩, rfl⟩ := h
  by_cases hlen : l0.length ≤ 90
  · obtain ⟨l1, s1, s0, u1, u0, p, v, F⟩ := hF hlen
    exact prefix_walk A0 c0 l0 l1 a1 _ k s1 s0 u1 u0 p v w hr0 hc0 hG hw hlen ha rfl F
  · exact prefix_short A0 c0 l0 a1 w hG hw (by omega)
end Go.Proofs.YtakkifbcaedcoaaDoor.PX
