/- InterpEqual: the law returns true for every input, and leaves what it was given as it was. -/
import Derived.Test.YteonloecenodbaaB10
import Derived.Test.YteonloecenodbaaRows
import Derived.WalkKit
import Derived.ProofKit
import Derived.OpenShut
import Derived.ChangeOld
import Derived.Below
import Derived.SizedLaws
namespace Go.Proofs.Yteonloecenodbaa.interpEqual
open Go.ChangeShapes Go.WideShapes Go.ChangeAt Go.RowKit
open Go.Proofs.YteonloecenodbaaW.PrintWords
set_option linter.unusedVariables false
set_option linter.unusedSimpArgs false
theorem own : ownKnob Try.prog.godebug = none := by kernel_rfl
theorem laidOut : laidOutB Try.prog = true := by kernel_rfl
set_option maxRecDepth 100000 in
theorem lifted (os : Os) (started : os.Started) (H : Type) (enc : TypeId × Value → H) :
    ReturnsInHanded {} Try.checked os 7 .any (Rows.interpEqualSpec.pre6 enc Try.prog Try.f7 [] false)
      (Rows.interpEqualSpec.post enc Try.prog Try.f7 false true false false) := by
  refine returnsInHanded_of_change_sized (C := Try.checked) own started (by kernel_rfl) Try.func7
    (ChangeSpec.witness6 (enc := enc) (C := Try.checked) false ⟨#[], #[.agg #[.slice none 0 0, .slice none 0 0], .agg #[.slice none 0 0, .slice none 0 0], .agg #[.slice none 0 0, .slice none 0 0, .int .i64 0, .slice none 0 0, .slice none 0 0, .int .i64 0]], []⟩ 8 (by kernel_rfl) (by kernel_rfl) (by kernel_rfl) (by kernel_rfl)) ?_
  intro W base args ds gs before hval0 hW _ hsz0 _
  have hval : ∀ (j : Nat) t v, Try.f7.params[j]? = some t → args[j]? = some v → Value.okWide Try.prog W .any base t v := hval0
  have hsz : (DataW.weightsEach Try.prog (Try.f7.params.toList ++ Rows.interpEqualSpec.plain.varTypes Try.prog) (ds ++ gs)).all (· ≤ reachBytes) = true := hsz0
  have hW' := hW
  obtain ⟨p, q, hA0, hV, rfl, hfz, hnd⟩ := hW
  have hA : DataW.TrodAll enc Try.prog W 0 (fun _ => true) true Try.f7.params.toList args.toList ds p := hA0
  rw [Try.params7] at hA hval hsz
  obtain ⟨v0, vs0, d0, ds0, p0, q0, hargs, rfl, rfl, h0, r0⟩ := trodAll_cons hA
  obtain ⟨v1, vs1, d1, ds1, p1, q1, rfl, rfl, rfl, h1, r1⟩ := trodAll_cons r0
  obtain ⟨v2, vs2, d2, ds2, p2, q2, rfl, rfl, rfl, h2, r2⟩ := trodAll_cons r1
  obtain ⟨rfl, rfl, rfl⟩ := trodAll_nil r2
  obtain rfl : args = #[v0, v1, v2] := by cases args; simp_all
  obtain ⟨rfl, rfl⟩ := trodVars_none hV
  have k0 := h0
  have lt0 : ∀ x ∈ p0, x.block < W.heap.size := by obtain ⟨m, hm⟩ := k0; exact DataW.trod_lt m _ _ _ hm
  have k1 := h1
  have lt1 : ∀ x ∈ p1, x.block < W.heap.size := by obtain ⟨m, hm⟩ := k1; exact DataW.trod_lt m _ _ _ hm
  have k2 := h2
  have lt2 : ∀ x ∈ p2, x.block < W.heap.size := by obtain ⟨m, hm⟩ := k2; exact DataW.trod_lt m _ _ _ hm
  obtain ⟨A0, c0, ag, A1, c1, ac, rfl, hk0, hk1, hC0, hC1, hq0⟩ := PX.open_state (hval 0 32 v0 rfl rfl) h0
  obtain ⟨A2, c2, bg, A3, c3, bc, rfl, hk2, hk3, hC2, hC3, hq1⟩ := PX.open_state (hval 1 32 v1 rfl rfl) h1
  obtain ⟨A4, c4, e0, A5, c5, o0, x0, A6, c6, e1, A7, c7, o1, x1, rfl, ⟨hk4, hk5, hk6, hk7⟩, ⟨hC4, hC5, hC6, hC7⟩, y0, y1, hy, hq2, hq3⟩ := PX.open_effs (hval 2 65 v2 rfl rfl) h2
  have s0 := PX.state_sized (PX.Wt.arg hsz (j := 0) rfl rfl) hq0
  have s1 := PX.state_sized (PX.Wt.arg hsz (j := 1) rfl rfl) hq1
  have t2 := PX.Wt.arg hsz (j := 2) (t := 65) rfl rfl
  rw [hy] at t2
  have s2 := PX.effs_sized (t2.item Try.underlying65 (by simp)) hq2
  have s3 := PX.effs_sized (t2.item Try.underlying65 (by simp)) hq3
  clear hA0 hval0 hsz0 t2
  obtain ⟨k, hk⟩ := PX.Pure.InterpEqual ag ac bg bc e0 o0 x0 e1 o1 x1 s0.1 s0.2 s1.1 s1.2 s2 s3
  refine (PX.tricklelaw19_InterpEqual.calls k A0 c0 ag A1 c1 ac A2 c2 bg A3 c3 bc A4 c4 e0 A5 c5 o0 x0 A6 c6 e1 A7 c7 o1 x1 true rfl W ⟨hC0, hC1, hC2, hC3, hC4, hC5, hC6, hC7, hk0, hk1, hk2, hk3, hk4, hk5, hk6, hk7⟩ hk).mono fun e W' ⟨he, bel⟩ => ?_
  subst he
  exact ⟨_, rfl, _, _, _, [], _, [], hW', trodAll_mk1 (shut_bool Try.underlying4 _), (trodAll_cons_mk (Below.trod laidOut (by kernel_rfl) (of_decide_eq_true (by kernel_rfl)) k0 bel lt0) (trodAll_cons_mk (Below.trod laidOut (by kernel_rfl) (of_decide_eq_true (by kernel_rfl)) k1 bel lt1) (trodAll_cons_mk (Below.trod laidOut (by kernel_rfl) (of_decide_eq_true (by kernel_rfl)) k2 bel lt2) trodAll_mk0))), rfl, bel.frame _, fun h => by cases h⟩
theorem over : Rows.interpEqualRow.holds Try.pinned (OpenSpec.ofChange Rows.interpEqualSpec) :=
  OpenClaim.holds_of_wide 7 Try.f7 rfl rfl rfl rfl rfl rfl rfl ⟨rfl, rfl, rfl, rfl, rfl⟩ rfl rfl rfl rfl rfl (by kernel_rfl) Try.func7 (by kernel_rfl)
    (of_decide_eq_true (by kernel_rfl)) (by unfold Func.isWrapper; first | (rw [if_pos (by decide +kernel)]; kernel_rfl) | (rw [if_neg (by decide +kernel)]; exact ⟨rfl, rfl⟩))
    (fun os started H enc _ => lifted os started H enc)
end Go.Proofs.Yteonloecenodbaa.interpEqual
namespace Go.Proofs.Yteonloecenodbaa
/-- The statement, under a short name, for the claim. -/
theorem interpEqual_holds : Rows.InterpEqualSaid := interpEqual.over
end Go.Proofs.Yteonloecenodbaa
